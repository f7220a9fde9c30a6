/- Lemmas: The walk of bigint.digit: one digit of a long quotient. The walk of bigint.divide. The contracts of the inner functions of bigint, over numbers. The contracts of bigint's functions, over integers. The walks of the reference's integers: trim, Norm, signed, Neg, Abs, Sign. The contracts of the reference's integers: Norm, signed, Of, Sign, Neg, Abs, Same. The walks of the reference's integers: Same, SameInt. Fractions: what a value reads as; sizes. Plain. Rows in memory: slices whose elements are structs of k cells. Plain. Arrays of fractions of the call's own. Plain. Rows of the call's own that are appended to. Plain. The walks of the reference's integers: below, plus, minus. The walks of the reference's integers: minus, Add, Sub, Mul. The contracts of the reference's integers: Add, Sub, Mul. -/
import Derived.Test.YtedoifjbgokmcaaGreatK1
import Derived.BigQuiet
import Derived.Deep.QuietTactic
import Derived.Deep.DeepCutAuto
import Derived.Deep.CutBlock
import Derived.Laws.MakeOwn
import Derived.Laws.AppendOwn
set_option linter.unusedVariables false
set_option linter.unusedSimpArgs false
namespace Go.Proofs.YtedoifjbgokmcaaGreat
open Go.RowKit Go.Hp
set_option maxHeartbeats 2000000 in
set_option maxRecDepth 100000 in
theorem digit_any (g j L cu cv : Nat) (U vs : List Nat) (av : Addr) (w : World) (hU : DBlk w g 112 U) (dU : Digs U) (hL : 2 ≤ L) (hLj : j + L + 1 ≤ U.length) (hUl : U.length ≤ 4398046511105)
    (hvl : vs.length = L) (dV : Digs vs) (hva : ∀ k, k < L → w.cell? (av.add k) = some (.int .u32 (dg vs k : Nat))) (hag : av.block ≠ g) (htop : 4294967296 ≤ 2 * dg vs (L - 1)) (hlt : nv (U.drop j) < 4294967296 * nv vs) (hcu : L + 1 ≤ cu) (hcv : L ≤ cv) :
    Calls Tryz.prog 141 #[.slice (some ⟨g, j, none⟩) (L + 1) cu, .slice (some av) L cv] w fun e w' => e = .returned (.int .u32 (nv (U.drop j) / nv vs : Nat)) ∧
      ∃ U', DBlk w' g 112 U' ∧ Digs U' ∧ U'.length = U.length ∧ U'.take j = U.take j ∧ nv (U'.drop j) = nv (U.drop j) % nv vs ∧ w.grownBy w' (some g) := by
  obtain ⟨P, Vl, Wl, K⟩ := knuth_win hL hLj dU dV hvl htop hlt
  have hQ := K.q_lt
  generalize hQe : nv (U.drop j) / nv vs = Q at *
  have HQ := Lib.hid hQe; clear hQe
  have hcn := hU.celld (i := j + L) (by omega)
  have hcn1 := hU.celld (i := j + (L - 1)) (by omega)
  have hcn2 := hU.celld (i := j + (L - 2)) (by omega)
  have hv1 := hva (L - 1) (by omega)
  have hv2 := hva (L - 2) (by omega)
  have bn := dg_bound dU (j + L)
  have bn1 := dg_bound dU (j + (L - 1))
  have bn2 := dg_bound dU (j + (L - 2))
  have bv1 := dg_bound dV (L - 1)
  have bv2 := dg_bound dV (L - 2)
  generalize hun : dg U (j + L) = un at *
  generalize hun1 : dg U (j + (L - 1)) = un1 at *
  generalize hun2 : dg U (j + (L - 2)) = un2 at *
  generalize hvv1 : dg vs (L - 1) = v1 at *
  generalize hvv2 : dg vs (L - 2) = v2 at *
  have ho := or_shift (un : Int) un1 (by omega) (by omega) (by omega) (by omega)
  have Hf := Lib.hid (And.intro hun (And.intro hun1 (And.intro hun2 (And.intro hvv1 hvv2))))
  clear hun hun1 hun2 hvv1 hvv2
  have Hva := Lib.hid hva; clear hva
  have Hlt := Lib.hid hlt; clear hlt
  have Hvl := Lib.hid hvl; clear hvl
  go_enter Tryz.func141, Tryz.ntmps141
  go_wp2
  refine wp_region_par (k := 12) (D := [19, 20, 21, 22, 23, 24, 25, 26, 27, 28, 29, 30]) (T := [[], [], [0, 1], [0, 1, 2], [0, 1, 2, 3], [0, 1, 2, 3, 4], [], [], [7], [6, 7, 8], [6, 7, 8, 9], [6, 7, 8, 9, 10], [0, 1, 2, 3, 4, 5, 6, 7, 8, 9, 10, 11], [0, 1, 2, 3, 4, 5, 6, 7, 8, 9, 10, 11, 12]]) (EK := [0, 5]) (EV := [?e1x0, ?e1x1]) (VL := [(kv ?v1x0), (kv ?v1x1), (kv ?v1x2), (kv ?v1x3), (kv ?v1x4), (kv ?v1x5), (kv ?v1x6), (kv ?v1x7), (kv ?v1x8), (kv ?v1x9), (kv ?v1x10), (kv ?v1x11)]) (FL := fun γ w' => [True, True, True, True, True, True, True, True, True, True, True, True]) ?hE1 (by kernel_rfl) (by kernel_rfl) (by rfl) (by kernel_rfl) ?hloc1 ?hmono1 ?hstep1 ?htail1
  case hE1 => refine ⟨?_, ?_, trivial⟩ <;> (simp only [List.getElem?_toArray, List.getElem?_cons_succ, List.getElem?_cons_zero]; rfl)
  case hstep1 =>
    refine ⟨⟨⟨⟨⟨⟨⟨⟨⟨⟨⟨⟨trivial, ?_⟩, ?_⟩, ?_⟩, ?_⟩, ?_⟩, ?_⟩, ?_⟩, ?_⟩, ?_⟩, ?_⟩, ?_⟩, ?_⟩
    · intro γ w' he hf; clear hf; refine ⟨trivial, ?_⟩; intro R hR
      have hc := he.cells
      go_simp
      (try go_ints); (try (rw [if_neg (by omega)])); (try (rw [if_pos (by omega)])); (try go_simp); (try go_ints)
      refine hR _ _ (Ext.refl _) ?_ trivial
      rfl
    · intro γ w' he hf; clear hf; refine ⟨trivial, ?_⟩; intro R hR
      have hc := he.cells
      go_simp
      (try go_ints); (try (rw [if_neg (by omega)])); (try (rw [if_pos (by omega)])); (try go_simp); (try go_ints)
      refine hR _ _ (Ext.refl _) ?_ trivial
      rfl
    · intro γ w' he hf; clear hf; refine ⟨trivial, ?_⟩; intro R hR
      have hc := he.cells
      go_simp
      (try go_ints); (try (rw [if_neg (by omega)])); (try (rw [if_pos (by omega)])); (try go_simp); (try go_ints)
      refine hR _ _ (Ext.refl _) ?_ trivial
      rfl
    · intro γ w' he hf; clear hf; refine ⟨trivial, ?_⟩; intro R hR
      have hc := he.cells
      have cq0 := he.cell hcn
      have cq1 := he.cell hcn1
      go_simp
      (try go_ints); (try (rw [if_neg (by omega)])); (try (rw [if_pos (by omega)])); (try go_simp); (try go_ints)
      refine hR _ _ (Ext.refl _) ?_ trivial
      rfl
    · intro γ w' he hf; clear hf; refine ⟨trivial, ?_⟩; intro R hR
      have hc := he.cells
      go_simp
      (try go_ints); (try (rw [if_neg (by omega)])); (try (rw [if_pos (by omega)])); (try go_simp); (try go_ints)
      refine hR _ _ (Ext.refl _) ?_ trivial
      rfl
    · intro γ w' he hf; clear hf; refine ⟨trivial, ?_⟩; intro R hR
      have hc := he.cells
      go_simp
      (try go_ints); (try (rw [if_neg (by omega)])); (try (rw [if_pos (by omega)])); (try go_simp); (try go_ints)
      refine hR _ _ (Ext.refl _) ?_ trivial
      rfl
    · intro γ w' he hf; clear hf; refine ⟨trivial, ?_⟩; intro R hR
      have hc := he.cells
      go_simp
      (try go_ints); (try (rw [if_neg (by omega)])); (try (rw [if_pos (by omega)])); (try go_simp); (try go_ints)
      refine hR _ _ (Ext.refl _) ?_ trivial
      rfl
    · intro γ w' he hf; clear hf; refine ⟨trivial, ?_⟩; intro R hR
      have hc := he.cells
      go_simp
      (try go_ints); (try (rw [if_neg (by omega)])); (try (rw [if_pos (by omega)])); (try go_simp); (try go_ints)
      refine hR _ _ (Ext.refl _) ?_ trivial
      rfl
    · intro γ w' he hf; clear hf; refine ⟨trivial, ?_⟩; intro R hR
      have hc := he.cells
      go_simp
      (try go_ints); (try (rw [if_neg (by omega)])); (try (rw [if_pos (by omega)])); (try go_simp); (try go_ints)
      refine hR _ _ (Ext.refl _) ?_ trivial
      rfl
    · intro γ w' he hf; clear hf; refine ⟨trivial, ?_⟩; intro R hR
      have hc := he.cells
      go_simp
      (try go_ints); (try (rw [if_neg (by omega)])); (try (rw [if_pos (by omega)])); (try go_simp); (try go_ints)
      refine hR _ _ (Ext.refl _) ?_ trivial
      rfl
    · intro γ w' he hf; clear hf; refine ⟨trivial, ?_⟩; intro R hR
      have hc := he.cells
      have cq0 := he.cell hcn
      have cq1 := he.cell hcn1
      go_simp
      (try go_ints); (try (rw [if_neg (by omega)])); (try (rw [if_pos (by omega)])); (try go_simp); (try go_ints)
      refine hR _ _ (Ext.refl _) ?_ trivial
      rfl
    · intro γ w' he hf; clear hf; refine ⟨trivial, ?_⟩; intro R hR
      have hc := he.cells
      go_simp
      (try go_ints); (try (rw [if_neg (by omega)])); (try (rw [if_pos (by omega)])); (try go_simp); (try go_ints)
      refine hR _ _ (Ext.refl _) ?_ trivial
      rfl
  case hloc1 =>
    exact ⟨⟨⟨⟨⟨⟨⟨⟨⟨⟨⟨⟨trivial, (fun γ γ' h => ⟨rfl, fun _ => rfl⟩)⟩, (fun γ γ' h => ⟨rfl, fun _ => rfl⟩)⟩, (fun γ γ' h => ⟨rfl, fun _ => rfl⟩)⟩, (fun γ γ' h => ⟨rfl, fun _ => rfl⟩)⟩, (fun γ γ' h => ⟨rfl, fun _ => rfl⟩)⟩, (fun γ γ' h => ⟨rfl, fun _ => rfl⟩)⟩, (fun γ γ' h => ⟨rfl, fun _ => rfl⟩)⟩, (fun γ γ' h => ⟨rfl, fun _ => rfl⟩)⟩, (fun γ γ' h => ⟨rfl, fun _ => rfl⟩)⟩, (fun γ γ' h => ⟨rfl, fun _ => rfl⟩)⟩, (fun γ γ' h => ⟨rfl, fun _ => rfl⟩)⟩, (fun γ γ' h => ⟨rfl, fun _ => rfl⟩)⟩
  case hmono1 =>
    exact ⟨⟨⟨⟨⟨⟨⟨⟨⟨⟨⟨⟨trivial, (fun γ wA w' e h => h)⟩, (fun γ wA w' e h => h)⟩, (fun γ wA w' e h => h)⟩, (fun γ wA w' e h => h)⟩, (fun γ wA w' e h => h)⟩, (fun γ wA w' e h => h)⟩, (fun γ wA w' e h => h)⟩, (fun γ wA w' e h => h)⟩, (fun γ wA w' e h => h)⟩, (fun γ wA w' e h => h)⟩, (fun γ wA w' e h => h)⟩, (fun γ wA w' e h => h)⟩
  intro γ w1 hx1 hF
  clear hF
  simp only [fillAll, gV, kv, List.getD_cons_zero, List.getD_cons_succ, Act.put, List.setIfInBounds_toArray, List.set_cons_zero, List.set_cons_succ, List.toList_toArray, List.drop_succ_cons, List.drop_zero, List.drop_nil, Nat.zero_add, Nat.reduceAdd]
  clear γ
  have v1p : (1 : Int) ≤ v1 := by omega
  replace hv1 := hx1.cell hv1
  replace hv2 := hx1.cell hv2
  replace hcn2 := hx1.cell hcn2
  clear hcn hcn1
  go_wp2
  refine wp_region_par (k := 17) (D := [32, 33, 34, 35, 36, 37, 38, 39, 40, 41, 42, 43, 44, 45, 46, 47, 7]) (T := [[], [], [], [2], [1, 2, 3], [1, 2, 3, 4], [1, 2, 3, 4, 5], [0, 1, 2, 3, 4, 5, 6], [], [], [], [10], [9, 10, 11], [9, 10, 11, 12], [9, 10, 11, 12, 13], [8, 9, 10, 11, 12, 13, 14], [0, 1, 2, 3, 4, 5, 6, 7], [0, 1, 2, 3, 4, 5, 6, 7, 8, 9, 10, 11, 12, 13, 14, 15, 16]]) (EK := [6, 1, 5]) (EV := [?e2x0, ?e2x1, ?e2x2]) (VL := [(kv ?v2x0), (kv ?v2x1), (kv ?v2x2), (kv ?v2x3), (kv ?v2x4), (kv ?v2x5), (kv ?v2x6), (kv ?v2x7), (kv ?v2x8), (kv ?v2x9), (kv ?v2x10), (kv ?v2x11), (kv ?v2x12), (kv ?v2x13), (kv ?v2x14), (kv ?v2x15), (kv ?v2x16)]) (FL := fun γ w' => [True, True, True, True, True, True, True, True, True, True, True, True, True, True, True, True, True]) ?hE2 (by kernel_rfl) (by kernel_rfl) (by rfl) (by kernel_rfl) ?hloc2 ?hmono2 ?hstep2 ?htail2
  case hE2 => refine ⟨?_, ?_, ?_, trivial⟩ <;> (simp only [List.getElem?_toArray, List.getElem?_cons_succ, List.getElem?_cons_zero]; rfl)
  case hstep2 =>
    refine ⟨⟨⟨⟨⟨⟨⟨⟨⟨⟨⟨⟨⟨⟨⟨⟨⟨trivial, ?_⟩, ?_⟩, ?_⟩, ?_⟩, ?_⟩, ?_⟩, ?_⟩, ?_⟩, ?_⟩, ?_⟩, ?_⟩, ?_⟩, ?_⟩, ?_⟩, ?_⟩, ?_⟩, ?_⟩
    · intro γ w' he hf; clear hf; refine ⟨trivial, ?_⟩; intro R hR
      have hc := he.cells
      go_simp
      (try go_ints); (try (rw [if_neg (by omega)])); (try (rw [if_pos (by omega)])); (try go_simp); (try go_ints)
      refine hR _ _ (Ext.refl _) ?_ trivial
      rfl
    · intro γ w' he hf; clear hf; refine ⟨trivial, ?_⟩; intro R hR
      have hc := he.cells
      go_simp
      (try go_ints); (try (rw [if_neg (by omega)])); (try (rw [if_pos (by omega)])); (try go_simp); (try go_ints)
      refine hR _ _ (Ext.refl _) ?_ trivial
      rfl
    · intro γ w' he hf; clear hf; refine ⟨trivial, ?_⟩; intro R hR
      have hc := he.cells
      go_simp
      (try go_ints); (try (rw [if_neg (by omega)])); (try (rw [if_pos (by omega)])); (try go_simp); (try go_ints)
      refine hR _ _ (Ext.refl _) ?_ trivial
      rfl
    · intro γ w' he hf; clear hf; refine ⟨trivial, ?_⟩; intro R hR
      have hc := he.cells
      go_simp
      (try go_ints); (try (rw [if_neg (by omega)])); (try (rw [if_pos (by omega)])); (try go_simp); (try go_ints)
      refine hR _ _ (Ext.refl _) ?_ trivial
      rfl
    · intro γ w' he hf; clear hf; refine ⟨trivial, ?_⟩; intro R hR
      have hc := he.cells
      go_simp
      (try go_ints); (try (rw [if_neg (by omega)])); (try (rw [if_pos (by omega)])); (try go_simp); (try go_ints)
      refine hR _ _ (Ext.refl _) ?_ trivial
      rfl
    · intro γ w' he hf; clear hf; refine ⟨trivial, ?_⟩; intro R hR
      have hc := he.cells
      have cq0 := he.cell hv1
      go_simp
      (try go_ints); (try (rw [if_neg (by omega)])); (try (rw [if_pos (by omega)])); (try go_simp); (try go_ints)
      refine hR _ _ (Ext.refl _) ?_ trivial
      rfl
    · intro γ w' he hf; clear hf; refine ⟨trivial, ?_⟩; intro R hR
      have hc := he.cells
      go_simp
      (try go_ints); (try (rw [if_neg (by omega)])); (try (rw [if_pos (by omega)])); (try go_simp); (try go_ints)
      refine hR _ _ (Ext.refl _) ?_ trivial
      rfl
    · intro γ w' he hf; clear hf; refine ⟨trivial, ?_⟩; intro R hR
      have hc := he.cells
      go_simp
      (try go_ints); (try (rw [if_neg (by omega)])); (try (rw [if_pos (by omega)])); (try go_simp); (try go_ints)
      refine hR _ _ (Ext.refl _) ?_ trivial
      rfl
    · intro γ w' he hf; clear hf; refine ⟨trivial, ?_⟩; intro R hR
      have hc := he.cells
      go_simp
      (try go_ints); (try (rw [if_neg (by omega)])); (try (rw [if_pos (by omega)])); (try go_simp); (try go_ints)
      refine hR _ _ (Ext.refl _) ?_ trivial
      rfl
    · intro γ w' he hf; clear hf; refine ⟨trivial, ?_⟩; intro R hR
      have hc := he.cells
      go_simp
      (try go_ints); (try (rw [if_neg (by omega)])); (try (rw [if_pos (by omega)])); (try go_simp); (try go_ints)
      refine hR _ _ (Ext.refl _) ?_ trivial
      rfl
    · intro γ w' he hf; clear hf; refine ⟨trivial, ?_⟩; intro R hR
      have hc := he.cells
      go_simp
      (try go_ints); (try (rw [if_neg (by omega)])); (try (rw [if_pos (by omega)])); (try go_simp); (try go_ints)
      refine hR _ _ (Ext.refl _) ?_ trivial
      rfl
    · intro γ w' he hf; clear hf; refine ⟨trivial, ?_⟩; intro R hR
      have hc := he.cells
      go_simp
      (try go_ints); (try (rw [if_neg (by omega)])); (try (rw [if_pos (by omega)])); (try go_simp); (try go_ints)
      refine hR _ _ (Ext.refl _) ?_ trivial
      rfl
    · intro γ w' he hf; clear hf; refine ⟨trivial, ?_⟩; intro R hR
      have hc := he.cells
      go_simp
      (try go_ints); (try (rw [if_neg (by omega)])); (try (rw [if_pos (by omega)])); (try go_simp); (try go_ints)
      refine hR _ _ (Ext.refl _) ?_ trivial
      rfl
    · intro γ w' he hf; clear hf; refine ⟨trivial, ?_⟩; intro R hR
      have hc := he.cells
      have cq0 := he.cell hv1
      go_simp
      (try go_ints); (try (rw [if_neg (by omega)])); (try (rw [if_pos (by omega)])); (try go_simp); (try go_ints)
      refine hR _ _ (Ext.refl _) ?_ trivial
      rfl
    · intro γ w' he hf; clear hf; refine ⟨trivial, ?_⟩; intro R hR
      have hc := he.cells
      go_simp
      (try go_ints); (try (rw [if_neg (by omega)])); (try (rw [if_pos (by omega)])); (try go_simp); (try go_ints)
      refine hR _ _ (Ext.refl _) ?_ trivial
      rfl
    · intro γ w' he hf; clear hf; refine ⟨trivial, ?_⟩; intro R hR
      have hc := he.cells
      go_simp
      (try go_ints); (try (rw [if_neg (by omega)])); (try (rw [if_pos (by omega)])); (try go_simp); (try go_ints)
      refine hR _ _ (Ext.refl _) ?_ trivial
      rfl
    · intro γ w' he hf; clear hf; refine ⟨trivial, ?_⟩; intro R hR
      have hc := he.cells
      go_simp
      (try go_ints); (try (rw [if_neg (by omega)])); (try (rw [if_pos (by omega)])); (try go_simp); (try go_ints)
      refine hR _ _ (Ext.refl _) ?_ trivial
      rfl
  case hloc2 =>
    exact ⟨⟨⟨⟨⟨⟨⟨⟨⟨⟨⟨⟨⟨⟨⟨⟨⟨trivial, (fun γ γ' h => ⟨rfl, fun _ => rfl⟩)⟩, (fun γ γ' h => ⟨rfl, fun _ => rfl⟩)⟩, (fun γ γ' h => ⟨rfl, fun _ => rfl⟩)⟩, (fun γ γ' h => ⟨rfl, fun _ => rfl⟩)⟩, (fun γ γ' h => ⟨rfl, fun _ => rfl⟩)⟩, (fun γ γ' h => ⟨rfl, fun _ => rfl⟩)⟩, (fun γ γ' h => ⟨rfl, fun _ => rfl⟩)⟩, (fun γ γ' h => ⟨rfl, fun _ => rfl⟩)⟩, (fun γ γ' h => ⟨rfl, fun _ => rfl⟩)⟩, (fun γ γ' h => ⟨rfl, fun _ => rfl⟩)⟩, (fun γ γ' h => ⟨rfl, fun _ => rfl⟩)⟩, (fun γ γ' h => ⟨rfl, fun _ => rfl⟩)⟩, (fun γ γ' h => ⟨rfl, fun _ => rfl⟩)⟩, (fun γ γ' h => ⟨rfl, fun _ => rfl⟩)⟩, (fun γ γ' h => ⟨rfl, fun _ => rfl⟩)⟩, (fun γ γ' h => ⟨rfl, fun _ => rfl⟩)⟩, (fun γ γ' h => ⟨rfl, fun _ => rfl⟩)⟩
  case hmono2 =>
    exact ⟨⟨⟨⟨⟨⟨⟨⟨⟨⟨⟨⟨⟨⟨⟨⟨⟨trivial, (fun γ wA w' e h => h)⟩, (fun γ wA w' e h => h)⟩, (fun γ wA w' e h => h)⟩, (fun γ wA w' e h => h)⟩, (fun γ wA w' e h => h)⟩, (fun γ wA w' e h => h)⟩, (fun γ wA w' e h => h)⟩, (fun γ wA w' e h => h)⟩, (fun γ wA w' e h => h)⟩, (fun γ wA w' e h => h)⟩, (fun γ wA w' e h => h)⟩, (fun γ wA w' e h => h)⟩, (fun γ wA w' e h => h)⟩, (fun γ wA w' e h => h)⟩, (fun γ wA w' e h => h)⟩, (fun γ wA w' e h => h)⟩, (fun γ wA w' e h => h)⟩
  intro γ w2 hx2 hF
  clear hF
  simp only [fillAll, gV, kv, List.getD_cons_zero, List.getD_cons_succ, Act.put, List.setIfInBounds_toArray, List.set_cons_zero, List.set_cons_succ, List.toList_toArray, List.drop_succ_cons, List.drop_zero, List.drop_nil, Nat.zero_add, Nat.reduceAdd]
  clear γ
  replace hx1 := hx1.trans hx2
  replace hv1 := hx2.cell hv1
  replace hv2 := hx2.cell hv2
  replace hcn2 := hx2.cell hcn2
  clear hx2 w1
  go_upto_block 0 with (fail)
  go_cut [7] (fun gv wx => ∃ G : Nat, gv = .int .u64 G ∧ Q ≤ G ∧ G ≤ Q + 1 ∧ Ext w wx)
  case first =>
    go_wp2
    go_loopw [7, 8] (fun gv rv wr => ∃ G R : Nat, gv = .int .u64 G ∧ rv = .int .u64 R ∧ R < 4294967296 ∧ G ≤ 4294967297 ∧ G * v1 + R = un * 4294967296 + un1 ∧ Q ≤ G ∧ Ext w wr) (fun gv _ _ => (intOf gv).toNat)
    case atStart =>
      refine ⟨(un * 4294967296 + un1) / v1, (un * 4294967296 + un1) % v1, by simp, by simp, ?_, K.guess_le, ?_, ?_, hx1⟩
      · have := Nat.mod_lt (un * 4294967296 + un1) (show 0 < v1 by omega); omega
      · rw [Nat.mul_comm]; exact Nat.div_add_mod _ _
      · rw [← HQ.out]; exact K.guess_ge
    case round =>
      obtain ⟨G, R, rfl, rfl, hR, hG, hGR, hQG, hxr⟩ := hrel
      clear hx1 hv1 hv2 hcn2
      have HGR := Lib.hid hGR; clear hGR
      have hv1 := hxr.cell (Hva.out (L - 1) (by omega))
      have hv2 := hxr.cell (Hva.out (L - 2) (by omega))
      have hcn2 := hxr.cell (hU.celld (i := j + (L - 2)) (by omega))
      rw [Hf.out.2.2.2.1] at hv1
      rw [Hf.out.2.2.2.2] at hv2
      rw [Hf.out.2.2.1] at hcn2
      by_cases hGB : 4294967296 ≤ G
      · have hb : decide ((4294967296 : Int) ≤ G) = true := by simp; omega
        have lw := K.lower (g := G) (r := R) HGR.out (by rw [HQ.out]; exact hQG) (.inl hGB)
        rw [HQ.out] at lw
        have hstep : (G - 1) * v1 + (R + v1) = un * 4294967296 + un1 := by
          obtain ⟨F, rfl⟩ : ∃ F, G = F + 1 := ⟨G - 1, by omega⟩
          rw [← HGR.out, Nat.add_sub_cancel, Nat.add_mul, Nat.one_mul]; omega
        have Hs := Lib.hid hstep; clear hstep
        by_cases hbr : 4294967296 ≤ R + v1
        · have hb2 : decide ((4294967296 : Int) ≤ (R : Int) + v1) = true := by simp; omega
          have ex := K.exit2 (g := G - 1) (r := R + v1) Hs.out (by omega) hbr
          rw [HQ.out] at ex
          go_wp2
          go_quiet (fail)
          go_wp2
          go_meet
          case rel => exact ⟨G - 1, by go_num, lw.1, ex, hxr.drewN _⟩
        · have hb2 : decide ((4294967296 : Int) ≤ (R : Int) + v1) = false := by simp; omega
          go_wp2
          go_quiet (fail)
          go_wp2
          go_roundw
          case rel => exact ⟨G - 1, R + v1, by go_num, by go_num, by omega, by omega, Hs.out, lw.1, hxr.drewN _⟩
          case measure => simp [intOf] <;> omega
      · have hb : decide ((4294967296 : Int) ≤ G) = false := by simp; omega
        have hor := or_shift (R : Int) un2 (by omega) (by omega) (by omega) (by omega)
        have hp : G * v2 ≤ 4294967295 * 4294967295 := Nat.mul_le_mul (by omega) (by omega)
        have hp2 : G * v2 ≤ 18446744065119617025 := hp
        clear hp
        have k1 : (0 : Int) ≤ (G : Int) * v2 := by rw [← Int.natCast_mul]; omega
        have k2 : (G : Int) * v2 ≤ 18446744065119617025 := by rw [← Int.natCast_mul]; omega
        have Hp := Lib.hid hp2; clear hp2
        by_cases hc : R * 4294967296 + un2 < G * v2
        · have hcb : decide ((R : Int) * 4294967296 + un2 < (G : Int) * v2) = true := by rw [← Int.natCast_mul]; simp only [decide_eq_true_eq]; omega
          have lw := K.lower (g := G) (r := R) HGR.out (by rw [HQ.out]; exact hQG) (.inr hc)
          rw [HQ.out] at lw
          have Hc := Lib.hid hc; clear hc
          go_wp2
          have hstep : (G - 1) * v1 + (R + v1) = un * 4294967296 + un1 := by
            obtain ⟨F, rfl⟩ : ∃ F, G = F + 1 := ⟨G - 1, by omega⟩
            rw [← HGR.out, Nat.add_sub_cancel, Nat.add_mul, Nat.one_mul]; omega
          have Hs := Lib.hid hstep; clear hstep
          by_cases hbr : 4294967296 ≤ R + v1
          · have hb2 : decide ((4294967296 : Int) ≤ (R : Int) + v1) = true := by simp; omega
            have ex := K.exit2 (g := G - 1) (r := R + v1) Hs.out (by omega) hbr
            rw [HQ.out] at ex
            refine wp_region_par (k := 20) (D := [48, 49, 50, 51, 52, 53, 54, 55, 56, 57, 58, 59, 60, 61, 62, 63, 64, 65, 66, 67]) (T := [[], [0], [0, 1], [0, 1, 2], [0, 1, 2], [0, 1, 2], [0, 1, 2, 5], [0, 1, 2, 4, 5, 6], [0, 1, 2, 4, 5, 6, 7], [0, 1, 2, 4, 5, 6, 7, 8], [0, 1, 2, 3, 4, 5, 6, 7, 8, 9], [0, 1, 2], [0, 1, 2, 11], [0, 1, 2], [0, 1, 2], [0, 1, 2, 14], [0, 1, 2, 13, 14, 15], [0, 1, 2, 13, 14, 15, 16], [0, 1, 2, 13, 14, 15, 16, 17], [0, 1, 2, 11, 12, 13, 14, 15, 16, 17, 18], [0, 1, 2, 3, 4, 5, 6, 7, 8, 9, 10, 11, 12, 13, 14, 15, 16, 17, 18, 19], [0, 1, 2, 3, 4, 5, 6, 7, 8, 9, 10, 11, 12, 13, 14, 15, 16, 17, 18, 19, 20]]) (EK := [7, 1, 5, 8, 0]) (EV := [?e3x0, ?e3x1, ?e3x2, ?e3x3, ?e3x4]) (VL := [(kv ?v3x0), (kv ?v3x1), (kv ?v3x2), (kv ?v3x3), (kv ?v3x4), (kv ?v3x5), (kv ?v3x6), (kv ?v3x7), (kv ?v3x8), (kv ?v3x9), (kv ?v3x10), (kv ?v3x11), (kv ?v3x12), (kv ?v3x13), (kv ?v3x14), (kv ?v3x15), (kv ?v3x16), (kv ?v3x17), (kv ?v3x18), (kv ?v3x19)]) (FL := fun γ w' => [True, True, True, True, True, True, True, True, True, True, True, True, True, True, True, True, True, True, True, True]) ?hE3 (by kernel_rfl) (by kernel_rfl) (by rfl) (by kernel_rfl) ?hloc3 ?hmono3 ?hstep3 ?htail3
            case hE3 => refine ⟨?_, ?_, ?_, ?_, ?_, trivial⟩ <;> (simp only [List.getElem?_toArray, List.getElem?_cons_succ, List.getElem?_cons_zero]; rfl)
            case hstep3 =>
              refine ⟨⟨⟨⟨⟨⟨⟨⟨⟨⟨⟨⟨⟨⟨⟨⟨⟨⟨⟨⟨trivial, ?_⟩, ?_⟩, ?_⟩, ?_⟩, ?_⟩, ?_⟩, ?_⟩, ?_⟩, ?_⟩, ?_⟩, ?_⟩, ?_⟩, ?_⟩, ?_⟩, ?_⟩, ?_⟩, ?_⟩, ?_⟩, ?_⟩, ?_⟩
              · intro γ w' he hf; clear hf; refine ⟨trivial, ?_⟩; intro R hR
                have hc := he.cells
                go_simp
                (try go_ints); (try (rw [if_neg (by omega)])); (try (rw [if_pos (by omega)])); (try go_simp); (try go_ints)
                refine hR _ _ (Ext.refl _) ?_ trivial
                rfl
              · intro γ w' he hf; clear hf; refine ⟨trivial, ?_⟩; intro R hR
                have hc := he.cells
                go_simp
                (try go_ints); (try (rw [if_neg (by omega)])); (try (rw [if_pos (by omega)])); (try go_simp); (try go_ints)
                refine hR _ _ (Ext.refl _) ?_ trivial
                rfl
              · intro γ w' he hf; clear hf; refine ⟨trivial, ?_⟩; intro R hR
                have hc := he.cells
                go_simp
                (try go_ints); (try (rw [if_neg (by omega)])); (try (rw [if_pos (by omega)])); (try go_simp); (try go_ints)
                refine hR _ _ (Ext.refl _) ?_ trivial
                rfl
              · intro γ w' he hf; clear hf; refine ⟨rfl, ?_⟩; intro R hR
                have hc := he.cells
                go_simp
                (try go_ints); (try (rw [if_neg (by omega)])); (try (rw [if_pos (by omega)])); (try go_simp); (try go_ints)
                refine hR _ _ (Ext.refl _) ?_ trivial
                rfl
              · intro γ w' he hf; clear hf; refine ⟨rfl, ?_⟩; intro R hR
                have hc := he.cells
                go_simp
                (try go_ints); (try (rw [if_neg (by omega)])); (try (rw [if_pos (by omega)])); (try go_simp); (try go_ints)
                refine hR _ _ (Ext.refl _) ?_ trivial
                rfl
              · intro γ w' he hf; clear hf; refine ⟨rfl, ?_⟩; intro R hR
                have hc := he.cells
                go_simp
                (try go_ints); (try (rw [if_neg (by omega)])); (try (rw [if_pos (by omega)])); (try go_simp); (try go_ints)
                refine hR _ _ (Ext.refl _) ?_ trivial
                rfl
              · intro γ w' he hf; clear hf; refine ⟨rfl, ?_⟩; intro R hR
                have hc := he.cells
                go_simp
                (try go_ints); (try (rw [if_neg (by omega)])); (try (rw [if_pos (by omega)])); (try go_simp); (try go_ints)
                refine hR _ _ (Ext.refl _) ?_ trivial
                rfl
              · intro γ w' he hf; clear hf; refine ⟨rfl, ?_⟩; intro R hR
                have hc := he.cells
                go_simp
                (try go_ints); (try (rw [if_neg (by omega)])); (try (rw [if_pos (by omega)])); (try go_simp); (try go_ints)
                refine hR _ _ (Ext.refl _) ?_ trivial
                rfl
              · intro γ w' he hf; clear hf; refine ⟨rfl, ?_⟩; intro R hR
                have hc := he.cells
                have cq0 := he.cell hv2
                have cq1 := he.cell hcn2
                go_simp
                (try go_ints); (try (rw [if_neg (by omega)])); (try (rw [if_pos (by omega)])); (try go_simp); (try go_ints)
                refine hR _ _ (Ext.refl _) ?_ trivial
                rfl
              · intro γ w' he hf; clear hf; refine ⟨rfl, ?_⟩; intro R hR
                have hc := he.cells
                go_simp
                (try go_ints); (try (rw [if_neg (by omega)])); (try (rw [if_pos (by omega)])); (try go_simp); (try go_ints)
                refine hR _ _ (Ext.refl _) ?_ trivial
                rfl
              · intro γ w' he hf; clear hf; refine ⟨rfl, ?_⟩; intro R hR
                have hc := he.cells
                go_simp
                (try go_ints); (try (rw [if_neg (by omega)])); (try (rw [if_pos (by omega)])); (try go_simp); (try go_ints)
                refine hR _ _ (Ext.refl _) ?_ trivial
                rfl
              · intro γ w' he hf; clear hf; refine ⟨rfl, ?_⟩; intro R hR
                have hc := he.cells
                go_simp
                (try go_ints); (try (rw [if_neg (by omega)])); (try (rw [if_pos (by omega)])); (try go_simp); (try go_ints)
                refine hR _ _ (Ext.refl _) ?_ trivial
                rfl
              · intro γ w' he hf; clear hf; refine ⟨rfl, ?_⟩; intro R hR
                have hc := he.cells
                go_simp
                (try go_ints); (try (rw [if_neg (by omega)])); (try (rw [if_pos (by omega)])); (try go_simp); (try go_ints)
                refine hR _ _ (Ext.refl _) ?_ trivial
                rfl
              · intro γ w' he hf; clear hf; refine ⟨rfl, ?_⟩; intro R hR
                have hc := he.cells
                go_simp
                (try go_ints); (try (rw [if_neg (by omega)])); (try (rw [if_pos (by omega)])); (try go_simp); (try go_ints)
                refine hR _ _ (Ext.refl _) ?_ trivial
                rfl
              · intro γ w' he hf; clear hf; refine ⟨rfl, ?_⟩; intro R hR
                have hc := he.cells
                go_simp
                (try go_ints); (try (rw [if_neg (by omega)])); (try (rw [if_pos (by omega)])); (try go_simp); (try go_ints)
                refine hR _ _ (Ext.refl _) ?_ trivial
                rfl
              · intro γ w' he hf; clear hf; refine ⟨rfl, ?_⟩; intro R hR
                have hc := he.cells
                go_simp
                (try go_ints); (try (rw [if_neg (by omega)])); (try (rw [if_pos (by omega)])); (try go_simp); (try go_ints)
                refine hR _ _ (Ext.refl _) ?_ trivial
                rfl
              · intro γ w' he hf; clear hf; refine ⟨rfl, ?_⟩; intro R hR
                have hc := he.cells
                go_simp
                (try go_ints); (try (rw [if_neg (by omega)])); (try (rw [if_pos (by omega)])); (try go_simp); (try go_ints)
                refine hR _ _ (Ext.refl _) ?_ trivial
                rfl
              · intro γ w' he hf; clear hf; refine ⟨rfl, ?_⟩; intro R hR
                have hc := he.cells
                have cq0 := he.cell hv2
                have cq1 := he.cell hcn2
                go_simp
                (try go_ints); (try (rw [if_neg (by omega)])); (try (rw [if_pos (by omega)])); (try go_simp); (try go_ints)
                refine hR _ _ (Ext.refl _) ?_ trivial
                rfl
              · intro γ w' he hf; clear hf; refine ⟨rfl, ?_⟩; intro R hR
                have hc := he.cells
                go_simp
                (try go_ints); (try (rw [if_neg (by omega)])); (try (rw [if_pos (by omega)])); (try go_simp); (try go_ints)
                refine hR _ _ (Ext.refl _) ?_ trivial
                rfl
              · intro γ w' he hf; clear hf; refine ⟨rfl, ?_⟩; intro R hR
                have hc := he.cells
                go_simp
                (try go_ints); (try (rw [if_neg (by omega)])); (try (rw [if_pos (by omega)])); (try go_simp); (try go_ints)
                refine hR _ _ (Ext.refl _) ?_ trivial
                rfl
            case hloc3 =>
              exact ⟨⟨⟨⟨⟨⟨⟨⟨⟨⟨⟨⟨⟨⟨⟨⟨⟨⟨⟨⟨trivial, (fun γ γ' h => ⟨rfl, fun _ => rfl⟩)⟩, (fun γ γ' h => ⟨rfl, fun _ => rfl⟩)⟩, (fun γ γ' h => ⟨rfl, fun _ => rfl⟩)⟩, (fun γ γ' h => ⟨rfl, fun _ => rfl⟩)⟩, (fun γ γ' h => ⟨rfl, fun _ => rfl⟩)⟩, (fun γ γ' h => ⟨rfl, fun _ => rfl⟩)⟩, (fun γ γ' h => ⟨rfl, fun _ => rfl⟩)⟩, (fun γ γ' h => ⟨rfl, fun _ => rfl⟩)⟩, (fun γ γ' h => ⟨rfl, fun _ => rfl⟩)⟩, (fun γ γ' h => ⟨rfl, fun _ => rfl⟩)⟩, (fun γ γ' h => ⟨rfl, fun _ => rfl⟩)⟩, (fun γ γ' h => ⟨rfl, fun _ => rfl⟩)⟩, (fun γ γ' h => ⟨rfl, fun _ => rfl⟩)⟩, (fun γ γ' h => ⟨rfl, fun _ => rfl⟩)⟩, (fun γ γ' h => ⟨rfl, fun _ => rfl⟩)⟩, (fun γ γ' h => ⟨rfl, fun _ => rfl⟩)⟩, (fun γ γ' h => ⟨rfl, fun _ => rfl⟩)⟩, (fun γ γ' h => ⟨rfl, fun _ => rfl⟩)⟩, (fun γ γ' h => ⟨rfl, fun _ => rfl⟩)⟩, (fun γ γ' h => ⟨rfl, fun _ => rfl⟩)⟩
            case hmono3 =>
              exact ⟨⟨⟨⟨⟨⟨⟨⟨⟨⟨⟨⟨⟨⟨⟨⟨⟨⟨⟨⟨trivial, (fun γ wA w' e h => h)⟩, (fun γ wA w' e h => h)⟩, (fun γ wA w' e h => h)⟩, (fun γ wA w' e h => h)⟩, (fun γ wA w' e h => h)⟩, (fun γ wA w' e h => h)⟩, (fun γ wA w' e h => h)⟩, (fun γ wA w' e h => h)⟩, (fun γ wA w' e h => h)⟩, (fun γ wA w' e h => h)⟩, (fun γ wA w' e h => h)⟩, (fun γ wA w' e h => h)⟩, (fun γ wA w' e h => h)⟩, (fun γ wA w' e h => h)⟩, (fun γ wA w' e h => h)⟩, (fun γ wA w' e h => h)⟩, (fun γ wA w' e h => h)⟩, (fun γ wA w' e h => h)⟩, (fun γ wA w' e h => h)⟩, (fun γ wA w' e h => h)⟩
            intro γ w3 hx3 hF
            clear hF
            simp only [fillAll, gV, kv, List.getD_cons_zero, List.getD_cons_succ, Act.put, List.setIfInBounds_toArray, List.set_cons_zero, List.set_cons_succ, List.toList_toArray, List.drop_succ_cons, List.drop_zero, List.drop_nil, Nat.zero_add, Nat.reduceAdd]
            clear γ
            replace hv1 := hx3.cell hv1
            go_wp2
            go_meet
            case rel => exact ⟨G - 1, by go_num, lw.1, ex, hxr.trans hx3⟩
          · have hb2 : decide ((4294967296 : Int) ≤ (R : Int) + v1) = false := by simp; omega
            refine wp_region_par (k := 20) (D := [48, 49, 50, 51, 52, 53, 54, 55, 56, 57, 58, 59, 60, 61, 62, 63, 64, 65, 66, 67]) (T := [[], [0], [0, 1], [0, 1, 2], [0, 1, 2], [0, 1, 2], [0, 1, 2, 5], [0, 1, 2, 4, 5, 6], [0, 1, 2, 4, 5, 6, 7], [0, 1, 2, 4, 5, 6, 7, 8], [0, 1, 2, 3, 4, 5, 6, 7, 8, 9], [0, 1, 2], [0, 1, 2, 11], [0, 1, 2], [0, 1, 2], [0, 1, 2, 14], [0, 1, 2, 13, 14, 15], [0, 1, 2, 13, 14, 15, 16], [0, 1, 2, 13, 14, 15, 16, 17], [0, 1, 2, 11, 12, 13, 14, 15, 16, 17, 18], [0, 1, 2, 3, 4, 5, 6, 7, 8, 9, 10, 11, 12, 13, 14, 15, 16, 17, 18, 19], [0, 1, 2, 3, 4, 5, 6, 7, 8, 9, 10, 11, 12, 13, 14, 15, 16, 17, 18, 19, 20]]) (EK := [7, 1, 5, 8, 0]) (EV := [?e4x0, ?e4x1, ?e4x2, ?e4x3, ?e4x4]) (VL := [(kv ?v4x0), (kv ?v4x1), (kv ?v4x2), (kv ?v4x3), (kv ?v4x4), (kv ?v4x5), (kv ?v4x6), (kv ?v4x7), (kv ?v4x8), (kv ?v4x9), (kv ?v4x10), (kv ?v4x11), (kv ?v4x12), (kv ?v4x13), (kv ?v4x14), (kv ?v4x15), (kv ?v4x16), (kv ?v4x17), (kv ?v4x18), (kv ?v4x19)]) (FL := fun γ w' => [True, True, True, True, True, True, True, True, True, True, True, True, True, True, True, True, True, True, True, True]) ?hE4 (by kernel_rfl) (by kernel_rfl) (by rfl) (by kernel_rfl) ?hloc4 ?hmono4 ?hstep4 ?htail4
            case hE4 => refine ⟨?_, ?_, ?_, ?_, ?_, trivial⟩ <;> (simp only [List.getElem?_toArray, List.getElem?_cons_succ, List.getElem?_cons_zero]; rfl)
            case hstep4 =>
              refine ⟨⟨⟨⟨⟨⟨⟨⟨⟨⟨⟨⟨⟨⟨⟨⟨⟨⟨⟨⟨trivial, ?_⟩, ?_⟩, ?_⟩, ?_⟩, ?_⟩, ?_⟩, ?_⟩, ?_⟩, ?_⟩, ?_⟩, ?_⟩, ?_⟩, ?_⟩, ?_⟩, ?_⟩, ?_⟩, ?_⟩, ?_⟩, ?_⟩, ?_⟩
              · intro γ w' he hf; clear hf; refine ⟨trivial, ?_⟩; intro R hR
                have hc := he.cells
                go_simp
                (try go_ints); (try (rw [if_neg (by omega)])); (try (rw [if_pos (by omega)])); (try go_simp); (try go_ints)
                refine hR _ _ (Ext.refl _) ?_ trivial
                rfl
              · intro γ w' he hf; clear hf; refine ⟨trivial, ?_⟩; intro R hR
                have hc := he.cells
                go_simp
                (try go_ints); (try (rw [if_neg (by omega)])); (try (rw [if_pos (by omega)])); (try go_simp); (try go_ints)
                refine hR _ _ (Ext.refl _) ?_ trivial
                rfl
              · intro γ w' he hf; clear hf; refine ⟨trivial, ?_⟩; intro R hR
                have hc := he.cells
                go_simp
                (try go_ints); (try (rw [if_neg (by omega)])); (try (rw [if_pos (by omega)])); (try go_simp); (try go_ints)
                refine hR _ _ (Ext.refl _) ?_ trivial
                rfl
              · intro γ w' he hf; clear hf; refine ⟨rfl, ?_⟩; intro R hR
                have hc := he.cells
                go_simp
                (try go_ints); (try (rw [if_neg (by omega)])); (try (rw [if_pos (by omega)])); (try go_simp); (try go_ints)
                refine hR _ _ (Ext.refl _) ?_ trivial
                rfl
              · intro γ w' he hf; clear hf; refine ⟨rfl, ?_⟩; intro R hR
                have hc := he.cells
                go_simp
                (try go_ints); (try (rw [if_neg (by omega)])); (try (rw [if_pos (by omega)])); (try go_simp); (try go_ints)
                refine hR _ _ (Ext.refl _) ?_ trivial
                rfl
              · intro γ w' he hf; clear hf; refine ⟨rfl, ?_⟩; intro R hR
                have hc := he.cells
                go_simp
                (try go_ints); (try (rw [if_neg (by omega)])); (try (rw [if_pos (by omega)])); (try go_simp); (try go_ints)
                refine hR _ _ (Ext.refl _) ?_ trivial
                rfl
              · intro γ w' he hf; clear hf; refine ⟨rfl, ?_⟩; intro R hR
                have hc := he.cells
                go_simp
                (try go_ints); (try (rw [if_neg (by omega)])); (try (rw [if_pos (by omega)])); (try go_simp); (try go_ints)
                refine hR _ _ (Ext.refl _) ?_ trivial
                rfl
              · intro γ w' he hf; clear hf; refine ⟨rfl, ?_⟩; intro R hR
                have hc := he.cells
                go_simp
                (try go_ints); (try (rw [if_neg (by omega)])); (try (rw [if_pos (by omega)])); (try go_simp); (try go_ints)
                refine hR _ _ (Ext.refl _) ?_ trivial
                rfl
              · intro γ w' he hf; clear hf; refine ⟨rfl, ?_⟩; intro R hR
                have hc := he.cells
                have cq0 := he.cell hv2
                have cq1 := he.cell hcn2
                go_simp
                (try go_ints); (try (rw [if_neg (by omega)])); (try (rw [if_pos (by omega)])); (try go_simp); (try go_ints)
                refine hR _ _ (Ext.refl _) ?_ trivial
                rfl
              · intro γ w' he hf; clear hf; refine ⟨rfl, ?_⟩; intro R hR
                have hc := he.cells
                go_simp
                (try go_ints); (try (rw [if_neg (by omega)])); (try (rw [if_pos (by omega)])); (try go_simp); (try go_ints)
                refine hR _ _ (Ext.refl _) ?_ trivial
                rfl
              · intro γ w' he hf; clear hf; refine ⟨rfl, ?_⟩; intro R hR
                have hc := he.cells
                go_simp
                (try go_ints); (try (rw [if_neg (by omega)])); (try (rw [if_pos (by omega)])); (try go_simp); (try go_ints)
                refine hR _ _ (Ext.refl _) ?_ trivial
                rfl
              · intro γ w' he hf; clear hf; refine ⟨rfl, ?_⟩; intro R hR
                have hc := he.cells
                go_simp
                (try go_ints); (try (rw [if_neg (by omega)])); (try (rw [if_pos (by omega)])); (try go_simp); (try go_ints)
                refine hR _ _ (Ext.refl _) ?_ trivial
                rfl
              · intro γ w' he hf; clear hf; refine ⟨rfl, ?_⟩; intro R hR
                have hc := he.cells
                go_simp
                (try go_ints); (try (rw [if_neg (by omega)])); (try (rw [if_pos (by omega)])); (try go_simp); (try go_ints)
                refine hR _ _ (Ext.refl _) ?_ trivial
                rfl
              · intro γ w' he hf; clear hf; refine ⟨rfl, ?_⟩; intro R hR
                have hc := he.cells
                go_simp
                (try go_ints); (try (rw [if_neg (by omega)])); (try (rw [if_pos (by omega)])); (try go_simp); (try go_ints)
                refine hR _ _ (Ext.refl _) ?_ trivial
                rfl
              · intro γ w' he hf; clear hf; refine ⟨rfl, ?_⟩; intro R hR
                have hc := he.cells
                go_simp
                (try go_ints); (try (rw [if_neg (by omega)])); (try (rw [if_pos (by omega)])); (try go_simp); (try go_ints)
                refine hR _ _ (Ext.refl _) ?_ trivial
                rfl
              · intro γ w' he hf; clear hf; refine ⟨rfl, ?_⟩; intro R hR
                have hc := he.cells
                go_simp
                (try go_ints); (try (rw [if_neg (by omega)])); (try (rw [if_pos (by omega)])); (try go_simp); (try go_ints)
                refine hR _ _ (Ext.refl _) ?_ trivial
                rfl
              · intro γ w' he hf; clear hf; refine ⟨rfl, ?_⟩; intro R hR
                have hc := he.cells
                go_simp
                (try go_ints); (try (rw [if_neg (by omega)])); (try (rw [if_pos (by omega)])); (try go_simp); (try go_ints)
                refine hR _ _ (Ext.refl _) ?_ trivial
                rfl
              · intro γ w' he hf; clear hf; refine ⟨rfl, ?_⟩; intro R hR
                have hc := he.cells
                have cq0 := he.cell hv2
                have cq1 := he.cell hcn2
                go_simp
                (try go_ints); (try (rw [if_neg (by omega)])); (try (rw [if_pos (by omega)])); (try go_simp); (try go_ints)
                refine hR _ _ (Ext.refl _) ?_ trivial
                rfl
              · intro γ w' he hf; clear hf; refine ⟨rfl, ?_⟩; intro R hR
                have hc := he.cells
                go_simp
                (try go_ints); (try (rw [if_neg (by omega)])); (try (rw [if_pos (by omega)])); (try go_simp); (try go_ints)
                refine hR _ _ (Ext.refl _) ?_ trivial
                rfl
              · intro γ w' he hf; clear hf; refine ⟨rfl, ?_⟩; intro R hR
                have hc := he.cells
                go_simp
                (try go_ints); (try (rw [if_neg (by omega)])); (try (rw [if_pos (by omega)])); (try go_simp); (try go_ints)
                refine hR _ _ (Ext.refl _) ?_ trivial
                rfl
            case hloc4 =>
              exact ⟨⟨⟨⟨⟨⟨⟨⟨⟨⟨⟨⟨⟨⟨⟨⟨⟨⟨⟨⟨trivial, (fun γ γ' h => ⟨rfl, fun _ => rfl⟩)⟩, (fun γ γ' h => ⟨rfl, fun _ => rfl⟩)⟩, (fun γ γ' h => ⟨rfl, fun _ => rfl⟩)⟩, (fun γ γ' h => ⟨rfl, fun _ => rfl⟩)⟩, (fun γ γ' h => ⟨rfl, fun _ => rfl⟩)⟩, (fun γ γ' h => ⟨rfl, fun _ => rfl⟩)⟩, (fun γ γ' h => ⟨rfl, fun _ => rfl⟩)⟩, (fun γ γ' h => ⟨rfl, fun _ => rfl⟩)⟩, (fun γ γ' h => ⟨rfl, fun _ => rfl⟩)⟩, (fun γ γ' h => ⟨rfl, fun _ => rfl⟩)⟩, (fun γ γ' h => ⟨rfl, fun _ => rfl⟩)⟩, (fun γ γ' h => ⟨rfl, fun _ => rfl⟩)⟩, (fun γ γ' h => ⟨rfl, fun _ => rfl⟩)⟩, (fun γ γ' h => ⟨rfl, fun _ => rfl⟩)⟩, (fun γ γ' h => ⟨rfl, fun _ => rfl⟩)⟩, (fun γ γ' h => ⟨rfl, fun _ => rfl⟩)⟩, (fun γ γ' h => ⟨rfl, fun _ => rfl⟩)⟩, (fun γ γ' h => ⟨rfl, fun _ => rfl⟩)⟩, (fun γ γ' h => ⟨rfl, fun _ => rfl⟩)⟩, (fun γ γ' h => ⟨rfl, fun _ => rfl⟩)⟩
            case hmono4 =>
              exact ⟨⟨⟨⟨⟨⟨⟨⟨⟨⟨⟨⟨⟨⟨⟨⟨⟨⟨⟨⟨trivial, (fun γ wA w' e h => h)⟩, (fun γ wA w' e h => h)⟩, (fun γ wA w' e h => h)⟩, (fun γ wA w' e h => h)⟩, (fun γ wA w' e h => h)⟩, (fun γ wA w' e h => h)⟩, (fun γ wA w' e h => h)⟩, (fun γ wA w' e h => h)⟩, (fun γ wA w' e h => h)⟩, (fun γ wA w' e h => h)⟩, (fun γ wA w' e h => h)⟩, (fun γ wA w' e h => h)⟩, (fun γ wA w' e h => h)⟩, (fun γ wA w' e h => h)⟩, (fun γ wA w' e h => h)⟩, (fun γ wA w' e h => h)⟩, (fun γ wA w' e h => h)⟩, (fun γ wA w' e h => h)⟩, (fun γ wA w' e h => h)⟩, (fun γ wA w' e h => h)⟩
            intro γ w3 hx3 hF
            clear hF
            simp only [fillAll, gV, kv, List.getD_cons_zero, List.getD_cons_succ, Act.put, List.setIfInBounds_toArray, List.set_cons_zero, List.set_cons_succ, List.toList_toArray, List.drop_succ_cons, List.drop_zero, List.drop_nil, Nat.zero_add, Nat.reduceAdd]
            clear γ
            replace hv1 := hx3.cell hv1
            go_wp2
            go_roundw
            case rel => exact ⟨G - 1, R + v1, by go_num, by go_num, by omega, by omega, Hs.out, lw.1, hxr.trans hx3⟩
            case measure => simp [intOf] <;> omega
        · have hcb : decide ((R : Int) * 4294967296 + un2 < (G : Int) * v2) = false := by rw [← Int.natCast_mul]; simp only [decide_eq_false_iff_not]; omega
          have ex := K.exit1 (g := G) (r := R) HGR.out (by omega) (by omega)
          rw [HQ.out] at ex
          have Hc := Lib.hid hc; clear hc
          go_wp2
          refine wp_region_par (k := 20) (D := [48, 49, 50, 51, 52, 53, 54, 55, 56, 57, 58, 59, 60, 61, 62, 63, 64, 65, 66, 67]) (T := [[], [0], [0, 1], [0, 1, 2], [0, 1, 2], [0, 1, 2], [0, 1, 2, 5], [0, 1, 2, 4, 5, 6], [0, 1, 2, 4, 5, 6, 7], [0, 1, 2, 4, 5, 6, 7, 8], [0, 1, 2, 3, 4, 5, 6, 7, 8, 9], [0, 1, 2], [0, 1, 2, 11], [0, 1, 2], [0, 1, 2], [0, 1, 2, 14], [0, 1, 2, 13, 14, 15], [0, 1, 2, 13, 14, 15, 16], [0, 1, 2, 13, 14, 15, 16, 17], [0, 1, 2, 11, 12, 13, 14, 15, 16, 17, 18], [0, 1, 2, 3, 4, 5, 6, 7, 8, 9, 10, 11, 12, 13, 14, 15, 16, 17, 18, 19], [0, 1, 2, 3, 4, 5, 6, 7, 8, 9, 10, 11, 12, 13, 14, 15, 16, 17, 18, 19, 20]]) (EK := [7, 1, 5, 8, 0]) (EV := [?e5x0, ?e5x1, ?e5x2, ?e5x3, ?e5x4]) (VL := [(kv ?v5x0), (kv ?v5x1), (kv ?v5x2), (kv ?v5x3), (kv ?v5x4), (kv ?v5x5), (kv ?v5x6), (kv ?v5x7), (kv ?v5x8), (kv ?v5x9), (kv ?v5x10), (kv ?v5x11), (kv ?v5x12), (kv ?v5x13), (kv ?v5x14), (kv ?v5x15), (kv ?v5x16), (kv ?v5x17), (kv ?v5x18), (kv ?v5x19)]) (FL := fun γ w' => [True, True, True, True, True, True, True, True, True, True, True, True, True, True, True, True, True, True, True, True]) ?hE5 (by kernel_rfl) (by kernel_rfl) (by rfl) (by kernel_rfl) ?hloc5 ?hmono5 ?hstep5 ?htail5
          case hE5 => refine ⟨?_, ?_, ?_, ?_, ?_, trivial⟩ <;> (simp only [List.getElem?_toArray, List.getElem?_cons_succ, List.getElem?_cons_zero]; rfl)
          case hstep5 =>
            refine ⟨⟨⟨⟨⟨⟨⟨⟨⟨⟨⟨⟨⟨⟨⟨⟨⟨⟨⟨⟨trivial, ?_⟩, ?_⟩, ?_⟩, ?_⟩, ?_⟩, ?_⟩, ?_⟩, ?_⟩, ?_⟩, ?_⟩, ?_⟩, ?_⟩, ?_⟩, ?_⟩, ?_⟩, ?_⟩, ?_⟩, ?_⟩, ?_⟩, ?_⟩
            · intro γ w' he hf; clear hf; refine ⟨trivial, ?_⟩; intro R hR
              have hc := he.cells
              go_simp
              (try go_ints); (try (rw [if_neg (by omega)])); (try (rw [if_pos (by omega)])); (try go_simp); (try go_ints)
              refine hR _ _ (Ext.refl _) ?_ trivial
              rfl
            · intro γ w' he hf; clear hf; refine ⟨trivial, ?_⟩; intro R hR
              have hc := he.cells
              go_simp
              (try go_ints); (try (rw [if_neg (by omega)])); (try (rw [if_pos (by omega)])); (try go_simp); (try go_ints)
              refine hR _ _ (Ext.refl _) ?_ trivial
              rfl
            · intro γ w' he hf; clear hf; refine ⟨trivial, ?_⟩; intro R hR
              have hc := he.cells
              go_simp
              (try go_ints); (try (rw [if_neg (by omega)])); (try (rw [if_pos (by omega)])); (try go_simp); (try go_ints)
              refine hR _ _ (Ext.refl _) ?_ trivial
              rfl
            · intro γ w' he hf; clear hf; refine ⟨rfl, ?_⟩; intro R hR
              have hc := he.cells
              go_simp
              (try go_ints); (try (rw [if_neg (by omega)])); (try (rw [if_pos (by omega)])); (try go_simp); (try go_ints)
              refine hR _ _ (Ext.refl _) ?_ trivial
              rfl
            · intro γ w' he hf; clear hf; refine ⟨rfl, ?_⟩; intro R hR
              have hc := he.cells
              go_simp
              (try go_ints); (try (rw [if_neg (by omega)])); (try (rw [if_pos (by omega)])); (try go_simp); (try go_ints)
              refine hR _ _ (Ext.refl _) ?_ trivial
              rfl
            · intro γ w' he hf; clear hf; refine ⟨rfl, ?_⟩; intro R hR
              have hc := he.cells
              go_simp
              (try go_ints); (try (rw [if_neg (by omega)])); (try (rw [if_pos (by omega)])); (try go_simp); (try go_ints)
              refine hR _ _ (Ext.refl _) ?_ trivial
              rfl
            · intro γ w' he hf; clear hf; refine ⟨rfl, ?_⟩; intro R hR
              have hc := he.cells
              go_simp
              (try go_ints); (try (rw [if_neg (by omega)])); (try (rw [if_pos (by omega)])); (try go_simp); (try go_ints)
              refine hR _ _ (Ext.refl _) ?_ trivial
              rfl
            · intro γ w' he hf; clear hf; refine ⟨rfl, ?_⟩; intro R hR
              have hc := he.cells
              go_simp
              (try go_ints); (try (rw [if_neg (by omega)])); (try (rw [if_pos (by omega)])); (try go_simp); (try go_ints)
              refine hR _ _ (Ext.refl _) ?_ trivial
              rfl
            · intro γ w' he hf; clear hf; refine ⟨rfl, ?_⟩; intro R hR
              have hc := he.cells
              have cq0 := he.cell hv2
              have cq1 := he.cell hcn2
              go_simp
              (try go_ints); (try (rw [if_neg (by omega)])); (try (rw [if_pos (by omega)])); (try go_simp); (try go_ints)
              refine hR _ _ (Ext.refl _) ?_ trivial
              rfl
            · intro γ w' he hf; clear hf; refine ⟨rfl, ?_⟩; intro R hR
              have hc := he.cells
              go_simp
              (try go_ints); (try (rw [if_neg (by omega)])); (try (rw [if_pos (by omega)])); (try go_simp); (try go_ints)
              refine hR _ _ (Ext.refl _) ?_ trivial
              rfl
            · intro γ w' he hf; clear hf; refine ⟨rfl, ?_⟩; intro R hR
              have hc := he.cells
              go_simp
              (try go_ints); (try (rw [if_neg (by omega)])); (try (rw [if_pos (by omega)])); (try go_simp); (try go_ints)
              refine hR _ _ (Ext.refl _) ?_ trivial
              rfl
            · intro γ w' he hf; clear hf; refine ⟨rfl, ?_⟩; intro R hR
              have hc := he.cells
              go_simp
              (try go_ints); (try (rw [if_neg (by omega)])); (try (rw [if_pos (by omega)])); (try go_simp); (try go_ints)
              refine hR _ _ (Ext.refl _) ?_ trivial
              rfl
            · intro γ w' he hf; clear hf; refine ⟨rfl, ?_⟩; intro R hR
              have hc := he.cells
              go_simp
              (try go_ints); (try (rw [if_neg (by omega)])); (try (rw [if_pos (by omega)])); (try go_simp); (try go_ints)
              refine hR _ _ (Ext.refl _) ?_ trivial
              rfl
            · intro γ w' he hf; clear hf; refine ⟨rfl, ?_⟩; intro R hR
              have hc := he.cells
              go_simp
              (try go_ints); (try (rw [if_neg (by omega)])); (try (rw [if_pos (by omega)])); (try go_simp); (try go_ints)
              refine hR _ _ (Ext.refl _) ?_ trivial
              rfl
            · intro γ w' he hf; clear hf; refine ⟨rfl, ?_⟩; intro R hR
              have hc := he.cells
              go_simp
              (try go_ints); (try (rw [if_neg (by omega)])); (try (rw [if_pos (by omega)])); (try go_simp); (try go_ints)
              refine hR _ _ (Ext.refl _) ?_ trivial
              rfl
            · intro γ w' he hf; clear hf; refine ⟨rfl, ?_⟩; intro R hR
              have hc := he.cells
              go_simp
              (try go_ints); (try (rw [if_neg (by omega)])); (try (rw [if_pos (by omega)])); (try go_simp); (try go_ints)
              refine hR _ _ (Ext.refl _) ?_ trivial
              rfl
            · intro γ w' he hf; clear hf; refine ⟨rfl, ?_⟩; intro R hR
              have hc := he.cells
              go_simp
              (try go_ints); (try (rw [if_neg (by omega)])); (try (rw [if_pos (by omega)])); (try go_simp); (try go_ints)
              refine hR _ _ (Ext.refl _) ?_ trivial
              rfl
            · intro γ w' he hf; clear hf; refine ⟨rfl, ?_⟩; intro R hR
              have hc := he.cells
              have cq0 := he.cell hv2
              have cq1 := he.cell hcn2
              go_simp
              (try go_ints); (try (rw [if_neg (by omega)])); (try (rw [if_pos (by omega)])); (try go_simp); (try go_ints)
              refine hR _ _ (Ext.refl _) ?_ trivial
              rfl
            · intro γ w' he hf; clear hf; refine ⟨rfl, ?_⟩; intro R hR
              have hc := he.cells
              go_simp
              (try go_ints); (try (rw [if_neg (by omega)])); (try (rw [if_pos (by omega)])); (try go_simp); (try go_ints)
              refine hR _ _ (Ext.refl _) ?_ trivial
              rfl
            · intro γ w' he hf; clear hf; refine ⟨rfl, ?_⟩; intro R hR
              have hc := he.cells
              go_simp
              (try go_ints); (try (rw [if_neg (by omega)])); (try (rw [if_pos (by omega)])); (try go_simp); (try go_ints)
              refine hR _ _ (Ext.refl _) ?_ trivial
              rfl
          case hloc5 =>
            exact ⟨⟨⟨⟨⟨⟨⟨⟨⟨⟨⟨⟨⟨⟨⟨⟨⟨⟨⟨⟨trivial, (fun γ γ' h => ⟨rfl, fun _ => rfl⟩)⟩, (fun γ γ' h => ⟨rfl, fun _ => rfl⟩)⟩, (fun γ γ' h => ⟨rfl, fun _ => rfl⟩)⟩, (fun γ γ' h => ⟨rfl, fun _ => rfl⟩)⟩, (fun γ γ' h => ⟨rfl, fun _ => rfl⟩)⟩, (fun γ γ' h => ⟨rfl, fun _ => rfl⟩)⟩, (fun γ γ' h => ⟨rfl, fun _ => rfl⟩)⟩, (fun γ γ' h => ⟨rfl, fun _ => rfl⟩)⟩, (fun γ γ' h => ⟨rfl, fun _ => rfl⟩)⟩, (fun γ γ' h => ⟨rfl, fun _ => rfl⟩)⟩, (fun γ γ' h => ⟨rfl, fun _ => rfl⟩)⟩, (fun γ γ' h => ⟨rfl, fun _ => rfl⟩)⟩, (fun γ γ' h => ⟨rfl, fun _ => rfl⟩)⟩, (fun γ γ' h => ⟨rfl, fun _ => rfl⟩)⟩, (fun γ γ' h => ⟨rfl, fun _ => rfl⟩)⟩, (fun γ γ' h => ⟨rfl, fun _ => rfl⟩)⟩, (fun γ γ' h => ⟨rfl, fun _ => rfl⟩)⟩, (fun γ γ' h => ⟨rfl, fun _ => rfl⟩)⟩, (fun γ γ' h => ⟨rfl, fun _ => rfl⟩)⟩, (fun γ γ' h => ⟨rfl, fun _ => rfl⟩)⟩
          case hmono5 =>
            exact ⟨⟨⟨⟨⟨⟨⟨⟨⟨⟨⟨⟨⟨⟨⟨⟨⟨⟨⟨⟨trivial, (fun γ wA w' e h => h)⟩, (fun γ wA w' e h => h)⟩, (fun γ wA w' e h => h)⟩, (fun γ wA w' e h => h)⟩, (fun γ wA w' e h => h)⟩, (fun γ wA w' e h => h)⟩, (fun γ wA w' e h => h)⟩, (fun γ wA w' e h => h)⟩, (fun γ wA w' e h => h)⟩, (fun γ wA w' e h => h)⟩, (fun γ wA w' e h => h)⟩, (fun γ wA w' e h => h)⟩, (fun γ wA w' e h => h)⟩, (fun γ wA w' e h => h)⟩, (fun γ wA w' e h => h)⟩, (fun γ wA w' e h => h)⟩, (fun γ wA w' e h => h)⟩, (fun γ wA w' e h => h)⟩, (fun γ wA w' e h => h)⟩, (fun γ wA w' e h => h)⟩
          intro γ w3 hx3 hF
          clear hF
          simp only [fillAll, gV, kv, List.getD_cons_zero, List.getD_cons_succ, Act.put, List.setIfInBounds_toArray, List.set_cons_zero, List.set_cons_succ, List.toList_toArray, List.drop_succ_cons, List.drop_zero, List.drop_nil, Nat.zero_add, Nat.reduceAdd]
          clear γ
          go_wp2
          go_meet
          case rel => exact ⟨G, rfl, hQG, ex, hxr.trans hx3⟩
  case rest =>
    obtain ⟨G, rfl, hQG, hGQ, hxc⟩ := hcut
    obtain ⟨pre, X, hpre, hUX, hXd⟩ : ∃ pre X : List Nat, pre.length = j ∧ U = pre ++ X ∧ X = U.drop j := ⟨U.take j, U.drop j, by simp; omega, (List.take_append_drop j U).symm, rfl⟩
    have hXl : L + 1 ≤ X.length := by rw [hXd]; simp; omega
    have hXlen : X.length + j = U.length := by rw [hXd]; simp; omega
    have dX : Digs X := by rw [hXd]; exact dU.drop j
    have hG4 : G ≤ 4294967296 := by omega
    have hU0 : DBlk wc g 112 (pre ++ X) := by rw [← hUX]; exact hU.ext hxc
    have hg0 : w.grownBy wc (some g) := ext_grown g hxc
    have HX := Lib.hid (And.intro hUX hXd); clear hUX hXd
    have HXlen := Lib.hid hXlen; clear hXlen
    have Hpre := Lib.hid hpre; clear hpre
    clear hxc hx1 hv1 hv2 hcn2 ho
    go_wp2
    go_loopw [9, 10, 84] (fun cv bv iv wr => ∃ (k c0 b0 : Nat) (X1 : List Nat), k ≤ L ∧ iv = .int .i64 k ∧ cv = .int .u64 c0 ∧ c0 < 4294967296 ∧ bv = .int .u32 b0 ∧ b0 ≤ 1 ∧ DBlk wr g 112 (pre ++ X1) ∧ Digs X1 ∧ X1.length = X.length ∧ (∀ q, k ≤ q → dg X1 q = dg X q) ∧ nv (X1.take k) + G * nv (vs.take k) = nv (X.take k) + (c0 + b0) * bp k ∧ w.grownBy wr (some g)) (fun _ _ iv _ => L - (intOf iv).toNat)
    case atStart => exact ⟨0, 0, 0, X, Nat.zero_le _, rfl, rfl, by omega, rfl, by omega, hU0, dX, rfl, fun _ _ => rfl, by simp [nv_nil], hg0⟩
    case round =>
      obtain ⟨k, c0, b0, X1, hk, rfl, rfl, hc0, rfl, hb0, hb1, dX1, hl1, hs1, hn1, hg1⟩ := hrel
      have Hl1 := Lib.hid hl1; clear hl1
      have Hs1 := Lib.hid hs1; clear hs1
      have Hn1 := Lib.hid hn1; clear hn1
      clear hU0 hg0
      by_cases hkL : k < L
      · have hca := World.grownBy.cell hg1 (Hva.out k hkL) (by rw [add_block]; intro e; exact hag (by injection e))
        have hcb := hb1.cellR Hpre.out (k := k) (by rw [Hl1.out]; omega)
        have hfz := hb1.frozen (j + k)
        rw [Hs1.out k (Nat.le_refl _)] at hcb
        have x1 := dg_bound dX k
        have y1 := dg_bound dV k
        generalize hxx : dg X k = x at *
        generalize hyy : dg vs k = y at *
        have Hxy := Lib.hid (And.intro hxx hyy); clear hxx hyy
        have hp : G * y ≤ 4294967296 * 4294967295 := Nat.mul_le_mul hG4 (by omega)
        have hp2 : G * y ≤ 18446744069414584320 := hp
        clear hp
        have k1 : (0 : Int) ≤ (G : Int) * y := by rw [← Int.natCast_mul]; omega
        have k2 : (G : Int) * y ≤ 18446744069414584320 := by rw [← Int.natCast_mul]; omega
        have k3 : (0 : Int) ≤ ((G : Int) * y + c0) % 4294967296 := by omega
        have k4 : ((G : Int) * y + c0) % 4294967296 < 4294967296 := by omega
        have hbm := bor_mem x (((G : Int) * y + c0) % 4294967296) b0
        have e1 : (((G * y + c0) % 4294967296 : Nat) : Int) = ((G : Int) * y + c0) % 4294967296 := by rw [← Int.natCast_mul]; omega
        have e2 : (((G * y + c0) / 4294967296 : Nat) : Int) = ((G : Int) * y + c0) / 4294967296 := by rw [← Int.natCast_mul]; omega
        have hlo : (G * y + c0) % 4294967296 < 4294967296 := Nat.mod_lt _ (by decide)
        have He := Lib.hid (And.intro e1 (And.intro e2 (And.intro hlo hp2)))
        clear e1 e2 hlo hp2
        go_wp2_with (go_at_call 144; refine (sub32_any _ _ _ _ (by omega) (by omega) (by omega) (by omega) (by omega) (by omega)).mono ?_; rintro e w' ⟨rfl, rfl⟩)
        go_roundw
        case rel =>
          obtain ⟨e1, e2, hlo, hp2⟩ := He.out
          refine ⟨k + 1, (G * y + c0) / 4294967296, if x < (G * y + c0) % 4294967296 + b0 then 1 else 0, X1.set k ((x + 4294967296 - (G * y + c0) % 4294967296 - b0) % 4294967296), by omega, by go_num, by rw [e2], by omega, ?_, by split <;> omega, hb1.setR Hpre.out k _ ?_, dX1.set (Nat.mod_lt _ (by decide)) _, by rw [List.length_set]; exact Hl1.out, fun q hq => by rw [dg_set_ne (by omega)]; exact Hs1.out q (by omega), ?_, grown_set hg1 _ _⟩
          · rw [← e1]; unfold bor; split <;> split <;> first | rfl | omega
          · rw [← e1]; omega
          · rw [nv_take_set (by rw [Hl1.out]; omega), nv_take_dg, nv_take_dg, Hxy.out.1, Hxy.out.2, bp_succ]
            exact mulsub_step x1 hb0 Hn1.out
        case measure => simp [intOf] <;> omega
      · obtain rfl : k = L := by omega
        have hcb := hb1.cellR Hpre.out (k := k) (by rw [Hl1.out]; omega)
        have hfz := hb1.frozen (j + k)
        rw [Hs1.out k (Nat.le_refl _)] at hcb
        have x1 := dg_bound dX k
        have hW : nv X < bp (k + 1) := by
          have h1 := Hlt.out
          rw [← HX.out.2] at h1
          have h2 := nv_lt dV
          rw [Hvl.out] at h2
          rw [bp_succ]; omega
        have hn2 := Hn1.out
        rw [List.take_of_length_le (l := vs) (by rw [Hvl.out]; exact Nat.le_refl _)] at hn2
        have hlast := digit_last hXl Hl1.out Hs1.out hn2 hc0 hb0 x1 hW
        have dX2 : Digs (X1.set k ((dg X k + 4294967296 - c0 - b0) % 4294967296)) := dX1.set (Nat.mod_lt _ (by decide)) _
        have hl2 : (X1.set k ((dg X k + 4294967296 - c0 - b0) % 4294967296)).length = X.length := by rw [List.length_set]; exact Hl1.out
        have hs2 : ∀ q, k + 1 ≤ q → dg (X1.set k ((dg X k + 4294967296 - c0 - b0) % 4294967296)) q = dg X q := fun q hq => by rw [dg_set_ne (by omega)]; exact Hs1.out q (by omega)
        have hx2 : dg (X1.set k ((dg X k + 4294967296 - c0 - b0) % 4294967296)) k = (dg X k + 4294967296 - c0 - b0) % 4294967296 := by rw [dg_lt (by rw [hl2]; omega), List.getElem_set_self]
        have hz : (((dg X k + 4294967296 - c0 - b0) % 4294967296 : Nat) : Int) = ((dg X k : Nat) - (c0 : Int) - b0) % 4294967296 := by omega
        have hb2 := hb1.setR Hpre.out k ((dg X k + 4294967296 - c0 - b0) % 4294967296) hz.symm
        have hg2 := grown_set hg1 (j + k) (.int .u32 (((dg X k : Nat) - (c0 : Int) - b0) % 4294967296))
        have HQ2 : nv X / nv vs = Q := by rw [HX.out.2]; exact HQ.out
        have hX2lt : nv (X1.set k ((dg X k + 4294967296 - c0 - b0) % 4294967296)) < bp (k + 1) := by
          have h2 := digit_last hXl Hl1.out Hs1.out hn2 hc0 hb0 x1 hW
          have ⟨z1, z2⟩ := nv_high hXl hW
          rw [nv_set_at Hl1.out (by rw [Hl1.out]; exact hXl) Hs1.out z1]
          have h3 := nv_lt (dX1.take k)
          rw [List.length_take, Nat.min_eq_left (by rw [Hl1.out]; omega)] at h3
          have h4 : (dg X k + 4294967296 - c0 - b0) % 4294967296 + 1 ≤ 4294967296 := Nat.mod_lt _ (by decide)
          have h5 := Nat.mul_le_mul_left (bp k) h4
          rw [Nat.mul_add, Nat.mul_one] at h5
          rw [bp_succ]
          omega
        generalize X1.set k ((dg X k + 4294967296 - c0 - b0) % 4294967296) = X2 at *
        have Hlast := Lib.hid hlast; clear hlast
        have Hl2 := Lib.hid hl2; clear hl2
        have Hs2 := Lib.hid hs2; clear hs2
        have Hx2 := Lib.hid hx2; clear hx2
        clear hz hn2
        have HX2lt := Lib.hid hX2lt; clear hX2lt
        have HQ3 := Lib.hid HQ2; clear HQ2
        generalize hxx : dg X k = x at *
        have Hxx := Lib.hid hxx; clear hxx
        by_cases hbor : x < c0 + b0
        · have hbq : bor (x : Int) c0 b0 = 1 := bor_pos (by omega)
          have hl := Hlast.out
          rw [if_pos hbor, Nat.one_mul] at hl
          obtain ⟨e1, e2⟩ := digit_end1 (W := nv X) (V := nv vs) (G := G) (A := nv X2) (p := bp (k + 1)) K.vpos (by rw [HQ3.out]; exact hGQ) HX2lt.out hl
          rw [HQ3.out] at e1
          have hG1 : 1 ≤ G := by omega
          clear hl
          have He := Lib.hid (And.intro e1 e2); clear e1 e2
          go_upto_block 4 with (go_at_call 144; refine (sub32_any _ _ _ _ (by omega) (by omega) (by omega) (by omega) (by omega) (by omega)).mono ?_; rintro e w' ⟨rfl, rfl⟩)
          go_wp2
          clear Hlast hb1 hcb hfz
          go_loopw [14, 132] (fun cv iv wr => ∃ (i c1 : Nat) (X3 : List Nat), i ≤ k ∧ iv = .int .i64 i ∧ cv = .int .u32 c1 ∧ c1 ≤ 1 ∧ DBlk wr g 112 (pre ++ X3) ∧ Digs X3 ∧ X3.length = X.length ∧ (∀ q, i ≤ q → dg X3 q = dg X2 q) ∧ nv (X3.take i) + c1 * bp i = nv (X2.take i) + nv (vs.take i) ∧ w.grownBy wr (some g)) (fun _ iv _ => k - (intOf iv).toNat)
          case atStart => exact ⟨0, 0, X2, Nat.zero_le _, rfl, rfl, by omega, hb2, dX2, Hl2.out, fun _ _ => rfl, by simp [nv_nil], hg2⟩
          case round =>
            obtain ⟨i, c1, X3, hi, rfl, rfl, hc1, hb3, dX3, hl3, hs3, hn3, hg3⟩ := hrel
            have Hl3 := Lib.hid hl3; clear hl3
            have Hs3 := Lib.hid hs3; clear hs3
            have Hn3 := Lib.hid hn3; clear hn3
            clear hb2 hg2
            by_cases hik : i < k
            · have hca := World.grownBy.cell hg3 (Hva.out i hik) (by rw [add_block]; intro e; exact hag (by injection e))
              have hcb := hb3.cellR Hpre.out (k := i) (by rw [Hl3.out]; omega)
              have hfz := hb3.frozen (j + i)
              rw [Hs3.out i (Nat.le_refl _)] at hcb
              have x2b := dg_bound dX2 i
              have y1 := dg_bound dV i
              generalize hxx : dg X2 i = x2 at *
              generalize hyy : dg vs i = y at *
              have Hxy := Lib.hid (And.intro hxx hyy); clear hxx hyy
              go_wp2_with (go_at_call 143; refine (add32_any _ _ _ _ (by omega) (by omega) (by omega) (by omega) (by omega) (by omega)).mono ?_; rintro e w' ⟨rfl, rfl⟩)
              go_roundw
              case rel =>
                refine ⟨i + 1, (x2 + y + c1) / 4294967296, X3.set i ((x2 + y + c1) % 4294967296), by omega, by go_num, by go_num, by omega, hb3.setR Hpre.out i _ (by omega), dX3.set (Nat.mod_lt _ (by decide)) _, by rw [List.length_set]; exact Hl3.out, fun q hq => by rw [dg_set_ne (by omega)]; exact Hs3.out q (by omega), ?_, grown_set hg3 _ _⟩
                rw [nv_take_set (by rw [Hl3.out]; omega), nv_take_dg, nv_take_dg, Hxy.out.1, Hxy.out.2, bp_succ]
                exact add_step Hn3.out
              case measure => simp [intOf] <;> omega
            · obtain rfl : i = k := by omega
              have hcb := hb3.cellR Hpre.out (k := i) (by rw [Hl3.out]; omega)
              have hfz := hb3.frozen (j + i)
              rw [Hs3.out i (Nat.le_refl _)] at hcb
              have hn3 := Hn3.out
              rw [List.take_of_length_le (l := vs) (by rw [Hvl.out]; exact Nat.le_refl _)] at hn3
              have hfin := digit_addlast (by rw [Hl2.out]; exact hXl) (by rw [Hl3.out, Hl2.out]) dX3 Hs3.out hn3 hc1 He.out.2 HX2lt.out (dg_bound dX2 i)
              have x2b := dg_bound dX2 i
              have hz : (((dg X2 i + c1) % 4294967296 : Nat) : Int) = ((dg X2 i : Nat) + (c1 : Int)) % 4294967296 := by omega
              have hb4 := hb3.setR Hpre.out i ((dg X2 i + c1) % 4294967296) hz.symm
              have hg4 := grown_set hg3 (j + i) (.int .u32 (((dg X2 i : Nat) + (c1 : Int)) % 4294967296))
              have dX4 : Digs (X3.set i ((dg X2 i + c1) % 4294967296)) := dX3.set (Nat.mod_lt _ (by decide)) _
              have Hfin := Lib.hid hfin; clear hfin
              have Hhz := Lib.hid hz; clear hz hn3
              have hG2 : G - 1 < 4294967296 := by omega
              generalize dg X2 i = x2 at *
              go_wp2
              go_ret
              refine ⟨ret_int (by have := He.out.1; omega), pre ++ X3.set i ((x2 + c1) % 4294967296), hb4, (HX.out.1 ▸ dU).left.append dX4, ?_, ?_, ?_, hg4⟩
              · rw [HX.out.1]; simp [Hl3.out]
              · rw [HX.out.1, List.take_append_of_le_length (by rw [Hpre.out]; exact Nat.le_refl _), List.take_append_of_le_length (by rw [Hpre.out]; exact Nat.le_refl _)]
              · rw [← Hpre.out, List.drop_left, Hpre.out, Hfin.out, HX.out.2]
        · have hbq : bor (x : Int) c0 b0 = 0 := bor_neg (by omega)
          have hl := Hlast.out
          rw [if_neg hbor, Nat.zero_mul, Nat.add_zero] at hl
          obtain ⟨e1, e2⟩ := digit_end0 (W := nv X) (V := nv vs) (G := G) (A := nv X2) K.vpos (by rw [HQ3.out]; exact hQG) hl
          rw [HQ3.out] at e1
          have hG1 : G < 4294967296 := by omega
          clear hl
          have He := Lib.hid (And.intro e1 e2); clear e1 e2
          go_wp2_with (go_at_call 144; refine (sub32_any _ _ _ _ (by omega) (by omega) (by omega) (by omega) (by omega) (by omega)).mono ?_; rintro e w' ⟨rfl, rfl⟩)
          go_ret
          refine ⟨ret_int (by rw [He.out.1]), pre ++ X2, hb2, (HX.out.1 ▸ dU).left.append dX2, ?_, ?_, ?_, hg2⟩
          · rw [HX.out.1]; simp [Hl2.out]
          · rw [HX.out.1, List.take_append_of_le_length (by rw [Hpre.out]; exact Nat.le_refl _), List.take_append_of_le_length (by rw [Hpre.out]; exact Nat.le_refl _)]
          · rw [← Hpre.out, List.drop_left, Hpre.out]; rw [He.out.2, HX.out.2]
end Go.Proofs.YtedoifjbgokmcaaGreat
namespace Go.Proofs.YtedoifjbgokmcaaGreat
open Go.RowKit Go.Hp
theorem cmp_neg {x y : Nat} (h : x < y) : decide (cmp x y < 0) = true := by rw [cmp_lt h]; decide
theorem cmp_nonneg {x y : Nat} (h : y ≤ x) : decide (cmp x y < 0) = false := by
  rcases Nat.eq_or_lt_of_le h with e | e
  · rw [cmp_eq e.symm]; decide
  · rw [cmp_gt e]; decide
/-- What a division of digits gives. -/
def DivV (n d : Nat) (r : Value) (w : World) : Prop := ∃ a b, r = .tuple #[a, b] ∧ NatV w a (n / d) ∧ NatV w b (n % d)
set_option maxHeartbeats 2000000 in
theorem divide_small (v u : Value) (ds es : List Nat) (w : World) (hv : DigV w v ds) (hu : DigV w u es) (htd : Top ds) (hte : Top es) (hn : ds.length ≤ 4398046511104) (hm : es.length ≤ 4398046511104) (h0 : 0 < nv es) (hc : nv ds < nv es) :
    Calls Tryz.prog 130 #[v, u] w (Gives w (DivV (nv ds) (nv es))) := by
  have hq := cmp_neg hc
  have Hc := Lib.hid hc; clear hc
  have Hv := Lib.hid hv; have Hu := Lib.hid hu
  obtain ⟨A, p1, rfl, hl, hc, hA⟩ := hv
  obtain ⟨E, p2, rfl, hl', hc', hE⟩ := hu
  go_enter Tryz.func130, Tryz.ntmps130
  go_wp2_with fail
  refine Calls.mono (compare_any _ _ ds es w Hv.out Hu.out htd hte hn hm) ?_
  rintro e w1 ⟨r, rfl, rfl, hx1⟩
  go_wp2_with fail
  refine Calls.mono (clone_any _ ds w1 (Hv.out.ext hx1) (by omega)) ?_
  rintro e w2 ⟨r, rfl, hr, hx2⟩
  go_wp2
  go_ret2
  refine Gives.mk ⟨_, _, rfl, ⟨[], ⟨none, 0, rfl, by simp, by omega, Digs.nil, fun h => by simp at h⟩, ?_, fun h => absurd rfl h⟩, ⟨ds, hr, ?_, htd⟩⟩ (hx1.trans hx2)
  · rw [Nat.div_eq_of_lt Hc.out]; rfl
  · rw [Nat.mod_eq_of_lt Hc.out]
set_option maxHeartbeats 2000000 in
theorem divide_word (v u : Value) (ds es : List Nat) (w : World) (hv : DigV w v ds) (hu : DigV w u es) (htd : Top ds) (hte : Top es) (hn : ds.length ≤ 2) (h0 : 0 < nv es) (hc : nv es ≤ nv ds) :
    Calls Tryz.prog 130 #[v, u] w (Gives w (DivV (nv ds) (nv es))) := by
  have hq := cmp_nonneg hc
  have hm : es.length ≤ 2 := by
    have := top_len_le hv.choose_spec.choose_spec.2.2.2.1 hte hc
    omega
  have hb1 := nv_lt hv.choose_spec.choose_spec.2.2.2.1
  have hb2 := nv_lt hu.choose_spec.choose_spec.2.2.2.1
  have hb3 := bp_le hn
  have hb4 := bp_le hm
  rw [bp_two] at hb3 hb4
  have hx1' : nv ds < 18446744073709551616 := by omega
  have hx2' : nv es < 18446744073709551616 := by omega
  clear hb1 hb2 hb3 hb4
  have Hc := Lib.hid hc; clear hc
  have Hv := Lib.hid hv; have Hu := Lib.hid hu
  obtain ⟨A, p1, rfl, hl, hc, hA⟩ := hv
  obtain ⟨E, p2, rfl, hl', hc', hE⟩ := hu
  go_enter Tryz.func130, Tryz.ntmps130
  go_wp2_with fail
  refine Calls.mono (compare_any _ _ ds es w Hv.out Hu.out htd hte (by omega) (by omega)) ?_
  rintro e w1 ⟨r, rfl, rfl, hx1⟩
  go_wp2_with fail
  refine Calls.mono (word_any _ ds w1 (Hv.out.ext hx1) hn) ?_
  rintro e w2 ⟨r, rfl, rfl, hx2⟩
  go_wp2_with fail
  refine Calls.mono (word_any _ es w2 ((Hu.out.ext hx1).ext hx2) hm) ?_
  rintro e w3 ⟨r, rfl, rfl, hx3⟩
  generalize nv ds = N at *
  generalize nv es = V at *
  have hV1 : (1 : Int) ≤ V := by omega
  have q0 : (0 : Int) ≤ (N : Int) / V := Int.ediv_nonneg (by omega) (by omega)
  have q1 : (N : Int) / V < 18446744073709551616 := by
    have : ((N / V : Nat) : Int) ≤ (N : Int) := Int.ofNat_le.2 (Nat.div_le_self _ _)
    rw [Int.natCast_ediv] at this
    omega
  have qn : N / V < 18446744073709551616 := Nat.lt_of_le_of_lt (Nat.div_le_self _ _) hx1'
  have rn : N % V < 18446744073709551616 := Nat.lt_of_le_of_lt (Nat.mod_le _ _) hx1'
  have Hq := Lib.hid (And.intro qn rn); clear qn rn
  go_wp2
  refine wp_region_par (k := 7) (D := [28, 29, 30, 31, 32, 33, 34]) (T := [[], [], [0, 1], [0, 1, 2], [], [], [4, 5], [0, 1, 2, 3, 4, 5, 6], [0, 1, 2, 3, 4, 5, 6, 7], [0, 1, 2, 3, 4, 5, 6, 7, 8]]) (EK := [6, 7]) (EV := [?e1x0, ?e1x1]) (VL := [(kv ?v1x0), (kv ?v1x1), (kv ?v1x2), (fun γ => γ 3), (kv ?v1x4), (kv ?v1x5), (kv ?v1x6)]) (FL := fun γ w' => [True, True, True, NatV w' (γ 3) (N / V), True, True, True]) ?hE1 (by kernel_rfl) (by kernel_rfl) (by rfl) (by kernel_rfl) ?hloc1 ?hmono1 ?hstep1 ?htail1
  case hE1 => refine ⟨?_, ?_, trivial⟩ <;> (simp only [List.getElem?_toArray, List.getElem?_cons_succ, List.getElem?_cons_zero]; rfl)
  case hstep1 =>
    refine ⟨⟨⟨⟨⟨⟨⟨trivial, ?_⟩, ?_⟩, ?_⟩, ?_⟩, ?_⟩, ?_⟩, ?_⟩
    · intro γ w' he hf; clear hf; refine ⟨trivial, ?_⟩; intro R hR
      have hc := he.cells
      go_simp
      (try go_ints); (try (rw [if_neg (by omega)])); (try (rw [if_pos (by omega)])); (try go_simp); (try go_ints)
      refine hR _ _ (Ext.refl _) ?_ trivial
      rfl
    · intro γ w' he hf; clear hf; refine ⟨trivial, ?_⟩; intro R hR
      have hc := he.cells
      go_simp
      (try go_ints); (try (rw [if_neg (by omega)])); (try (rw [if_pos (by omega)])); (try go_simp); (try go_ints)
      refine hR _ _ (Ext.refl _) ?_ trivial
      rfl
    · intro γ w' he hf; clear hf; refine ⟨trivial, ?_⟩; intro R hR
      have hc := he.cells
      go_simp
      (try go_ints); (try (rw [if_neg (by omega)])); (try (rw [if_pos (by omega)])); (try go_simp); (try go_ints)
      refine hR _ _ (Ext.refl _) ?_ trivial
      rfl
    · intro γ w' he hf; clear hf; refine ⟨trivial, ?_⟩; intro R hR
      go_simp
      refine Calls.mono (show Calls _ _ _ w' (Gives w' fun r w'' => NatV w'' (r) (N / V)) from Gives.imp (wide_any (N / V) _ (by simp) w' Hq.out.1) (fun _ _ ⟨l, a, b, c, _⟩ => ⟨l, a, b, c⟩)) ?_
      rintro e w2 ⟨v, rfl, hv, hx⟩
      exact ⟨v, rfl, hR v w2 hx rfl hv⟩
    · intro γ w' he hf; clear hf; refine ⟨trivial, ?_⟩; intro R hR
      have hc := he.cells
      go_simp
      (try go_ints); (try (rw [if_neg (by omega)])); (try (rw [if_pos (by omega)])); (try go_simp); (try go_ints)
      refine hR _ _ (Ext.refl _) ?_ trivial
      rfl
    · intro γ w' he hf; clear hf; refine ⟨trivial, ?_⟩; intro R hR
      have hc := he.cells
      go_simp
      (try go_ints); (try (rw [if_neg (by omega)])); (try (rw [if_pos (by omega)])); (try go_simp); (try go_ints)
      refine hR _ _ (Ext.refl _) ?_ trivial
      rfl
    · intro γ w' he hf; clear hf; refine ⟨trivial, ?_⟩; intro R hR
      have hc := he.cells
      go_simp
      (try go_ints); (try (rw [if_neg (by omega)])); (try (rw [if_pos (by omega)])); (try go_simp); (try go_ints)
      refine hR _ _ (Ext.refl _) ?_ trivial
      rfl
  case hloc1 =>
    exact ⟨⟨⟨⟨⟨⟨⟨trivial, (fun γ γ' h => ⟨rfl, fun _ => rfl⟩)⟩, (fun γ γ' h => ⟨rfl, fun _ => rfl⟩)⟩, (fun γ γ' h => ⟨rfl, fun _ => rfl⟩)⟩, (fun γ γ' h => ⟨h 3 rfl, fun w' => (congrArg (fun a => NatV w' (a) (N / V)) (h 3 rfl))⟩)⟩, (fun γ γ' h => ⟨rfl, fun _ => rfl⟩)⟩, (fun γ γ' h => ⟨rfl, fun _ => rfl⟩)⟩, (fun γ γ' h => ⟨rfl, fun _ => rfl⟩)⟩
  case hmono1 =>
    exact ⟨⟨⟨⟨⟨⟨⟨trivial, (fun γ wA w' e h => h)⟩, (fun γ wA w' e h => h)⟩, (fun γ wA w' e h => h)⟩, (fun γ wA w' e h => (show NatV wA (γ 3) (N / V) from h).ext e)⟩, (fun γ wA w' e h => h)⟩, (fun γ wA w' e h => h)⟩, (fun γ wA w' e h => h)⟩
  intro γ w4 hx4 hF
  have p3 : NatV w4 (γ 3) (N / V) := Each.get hF 3 (by decide)
  clear hF
  simp only [fillAll, gV, kv, List.getD_cons_zero, List.getD_cons_succ, Act.put, List.setIfInBounds_toArray, List.set_cons_zero, List.set_cons_succ, List.toList_toArray, List.drop_succ_cons, List.drop_zero, List.drop_nil, Nat.zero_add, Nat.reduceAdd]
  generalize γ 3 = g3 at *
  clear γ
  go_wp2_with fail
  refine Calls.mono (wide_any (N % V) _ (by simp) w4 Hq.out.2) ?_
  rintro e w5 ⟨r, rfl, ⟨l, a, b, c, _⟩, hx5⟩
  go_wp2
  go_ret2
  exact Gives.mk ⟨_, _, rfl, p3.ext hx5, ⟨l, a, b, c⟩⟩ ((((hx1.trans hx2).trans hx3).trans hx4).trans hx5)
set_option maxHeartbeats 2000000 in
theorem divide_short (v u : Value) (ds : List Nat) (d : Nat) (w : World) (hv : DigV w v ds) (hu : DigV w u [d]) (htd : Top ds) (hte : Top [d]) (hn : ds.length ≤ 4398046511104) (hn2 : 2 < ds.length) (h0 : 0 < nv [d]) (hc : nv [d] ≤ nv ds) :
    Calls Tryz.prog 130 #[v, u] w (Gives w (DivV (nv ds) (nv [d]))) := by
  have hq := cmp_nonneg hc
  clear hc
  have Hv := Lib.hid hv; have Hu := Lib.hid hu
  obtain ⟨A, p1, rfl, hl, hc, hA⟩ := hv
  obtain ⟨E, p2, rfl, hl', hc', hE⟩ := hu
  obtain ⟨a, rfl, hcb⟩ := dig_at hE (k := 0) (by simp)
  replace hcb : w.cell? a = some (.int .u32 (d : Nat)) := hcb
  have hd1 : d < 4294967296 := hE.1 d (by simp)
  have hd0 : 0 < d := by simpa [nv_cons, nv_nil] using h0
  have hdd : nv [d] = d := by simp [nv_cons, nv_nil]
  have Hdd := Lib.hid hdd; clear hdd
  clear hE
  go_enter Tryz.func130, Tryz.ntmps130
  go_wp2_with fail
  refine Calls.mono (compare_any _ _ ds [d] w Hv.out Hu.out htd hte hn (by simp)) ?_
  rintro e w1 ⟨r, rfl, rfl, hx1⟩
  replace hcb := hx1.cell hcb
  go_wp2_with fail
  refine Calls.mono (short_any _ ds d w1 (Hv.out.ext hx1) hd0 hd1 hn) ?_
  rintro e w2 ⟨r, rfl, ⟨q, l, rfl, hql, hqn, hqle⟩, hx2⟩
  have hr : nv ds % d < 4294967296 := Nat.lt_trans (Nat.mod_lt _ hd0) hd1
  obtain ⟨lq, hlq⟩ : ∃ x, nv ds % d = x := ⟨_, rfl⟩
  rw [hlq] at hr ⊢
  have Hlq := Lib.hid hlq; clear hlq
  go_wp2_with fail
  refine Calls.mono (trimmed_any _ l w2 hql) ?_
  rintro e w3 ⟨q2, rfl, hq2, hx3⟩
  go_wp2_with fail
  refine Calls.mono (wide_any lq _ rfl w3 (by omega)) ?_
  rintro e w4 ⟨r2, rfl, ⟨l2, a2, b2, c2, _⟩, hx4⟩
  go_wp2
  go_ret2
  refine Gives.mk ⟨_, _, rfl, ⟨trim l, hq2.ext hx4, ?_, trim_top l⟩, ⟨l2, a2, ?_, c2⟩⟩ (((hx1.trans hx2).trans hx3).trans hx4)
  · rw [trim_nv, hqn, Hdd.out]
  · rw [b2, Hdd.out, Hlq.out]
set_option maxHeartbeats 4000000 in
set_option maxRecDepth 100000 in
theorem divide_long (v u : Value) (ds es : List Nat) (w : World) (hv : DigV w v ds) (hu : DigV w u es) (htd : Top ds) (hte : Top es) (hn : ds.length ≤ 4398046511103) (hn2 : 2 < ds.length) (hL2 : 2 ≤ es.length) (hc : nv es ≤ nv ds) :
    Calls Tryz.prog 130 #[v, u] w (Gives w (DivV (nv ds) (nv es))) := by
  have hq := cmp_nonneg hc
  have dD : Digs ds := hv.choose_spec.choose_spec.2.2.2.1
  have dE : Digs es := hu.choose_spec.choose_spec.2.2.2.1
  have hLn : es.length ≤ ds.length := top_len_le dD hte hc
  clear hc
  have Hv := Lib.hid hv; have Hu := Lib.hid hu
  obtain ⟨A, p1, rfl, hl, hc, hA⟩ := hv
  obtain ⟨E, p2, rfl, hl', hc', hE⟩ := hu
  obtain ⟨a, rfl, hcb⟩ := dig_at hE (k := es.length - 1) (by omega)
  have hd1 := dg_bound dE (es.length - 1)
  have hd0 : 0 < dg es (es.length - 1) := by
    have hne : es ≠ [] := fun e => by rw [e] at hL2; simp at hL2
    have := hte hne
    rw [List.getLast_eq_getElem] at this
    rw [dg_lt (by omega)]; omega
  have hsp := lz_spec hd0 hd1
  generalize hd : dg es (es.length - 1) = d at *
  have Hd := Lib.hid hd; clear hd
  clear hE hA
  obtain ⟨m, hm⟩ : ∃ m, m + es.length = ds.length + 1 := ⟨ds.length + 1 - es.length, by omega⟩
  have Hm := Lib.hid hm
  have hm1 : 1 ≤ m := by omega
  have hm2 : m ≤ ds.length := by omega
  clear hm
  go_enter Tryz.func130, Tryz.ntmps130
  go_wp2_with fail
  refine Calls.mono (compare_any _ _ ds es w Hv.out Hu.out htd hte (by omega) (by omega)) ?_
  rintro e w1 ⟨r, rfl, rfl, hx1⟩
  replace hcb := hx1.cell hcb
  have b2 : decide ((ds.length : Int) ≤ 2) = false := by simp; omega
  go_wp2_with fail
  refine Calls.mono (lz_any d w1 hd1) ?_
  rintro e w2 ⟨rfl, rfl⟩
  obtain ⟨s, hs⟩ : ∃ s, lz d = s := ⟨_, rfl⟩
  rw [hs] at hsp ⊢
  clear hs
  obtain ⟨hs32, hhi, hlo⟩ := hsp
  obtain ⟨S, hS⟩ : ∃ S, 2 ^ s = S := ⟨_, rfl⟩
  have hS0 : 0 < S := by rw [← hS]; exact Nat.two_pow_pos _
  rw [hS] at hhi hlo
  have Hsp := Lib.hid (And.intro hhi (And.intro hlo hS)); clear hhi hlo hS
  go_wp2_with fail
  refine Calls.mono (shifted_any _ ds s w1 (Hv.out.ext hx1) hs32 (by omega)) ?_
  rintro e w2 ⟨r, rfl, ⟨lu, g, rfl, hg1, hbu, dlu, hlu, hlul⟩, hx2⟩
  go_wp2_with fail
  refine Calls.mono (shifted_any _ es s w2 ((Hu.out.ext hx1).ext hx2) hs32 (by omega)) ?_
  rintro e w3 ⟨r, rfl, ⟨lv, g', rfl, hg2, hbv, dlv, hlv, hlvl⟩, hx3⟩
  have hlvl' : lv.length = es.length + 1 := hlvl
  go_wp2_with fail
  rw [← hlvl']
  refine Calls.mono (trimmed_eq (some ⟨g', 0, none⟩) lv.length lv w3 (Nat.le_refl _) (by omega) (hbv.digat dlv)) ?_
  rintro e w4 ⟨rfl, rfl⟩
  rw [Hsp.out.2.2] at hlu hlv
  have nd := norm_div dE rfl (by omega) hS0 (by rw [Hd.out]; exact Hsp.out.1) (by rw [Hd.out]; exact Hsp.out.2.1) (trim_digs dlv) (trim_top lv) (by rw [trim_nv, hlv])
  have hmk := fun W => make_u32 m ((ds.length : Int) + 1 - es.length) (by have := Hm.out; omega) (by omega) W
  obtain ⟨ndl, ndt⟩ := nd
  rw [ndl]
  obtain ⟨V, hV⟩ : ∃ V, nv (trim lv) = V := ⟨_, rfl⟩
  have hVe : nv es * S = V := by rw [← hV, trim_nv, hlv]
  have hVpos : 0 < V := by rw [← hVe]; exact Nat.mul_pos (by have := (hte.len (by omega)); have := bp_pos (es.length - 1); omega) hS0
  have hst : nv (lu.drop m) < V := by rw [← hVe]; exact norm_start dD hte (by omega) hS0 hlu Hm.out (by omega)
  have hgg : g < w2.heap.size := hbu.lt
  have hgg' : g' < w3.heap.size := hbv.lt
  have hsz2 := hx1.size
  have hsz3 := hx2.size
  have hsz4 := hx3.size
  have Hgs := Lib.hid (And.intro hgg (And.intro hgg' (And.intro hg1 (And.intro hg2 (And.intro hsz2 (And.intro hsz3 hsz4))))))
  have hxa := ((hx1.trans hx2).trans hx3).alloc (.cells (zcells m) 112)
  have hbu3 := (hbu.ext hx3).alloc (.cells (zcells m) 112)
  have hbv3 := hbv.alloc (.cells (zcells m) 112)
  have Hve := Lib.hid (And.intro hV (And.intro hVe (And.intro hst hlu))); clear hV hVe hst hlu
  clear hlv hsz2 hsz3 hsz4 hg1 hg2 hgg hgg' hcb hx2 hx3 hx1
  have Hlul := Lib.hid hlul; clear hlul
  have Hlv := Lib.hid (And.intro hlvl ndl); clear hlvl hlvl' ndl
  go_wp2
  go_loopw [14] (fun iv wr => ∃ (k : Nat) (U ql : List Nat), k ≤ m ∧ (∃ q : Int, q + 1 = k ∧ iv = .int .i64 q) ∧ DBlk wr g 112 U ∧ Digs U ∧ U.length = ds.length + 1 ∧ DBlk wr w3.heap.size 112 ql ∧ Digs ql ∧ ql.length = m ∧ DBlk wr g' 112 lv ∧ nv (U.take k) + bp k * nv (U.drop k) + nv (ql.drop k) * bp k * V = nv ds * S ∧ nv (U.drop k) < V ∧ Ext w wr) (fun iv _ => (intOf iv + 1).toNat)
  case atStart => exact ⟨m, lu, _, Nat.le_refl _, ⟨_, by omega, rfl⟩, hbu3, dlu, Hlul.out, DBlk.new _ _ _, Digs.zeros _, List.length_replicate, hbv3, by rw [List.drop_of_length_le (l := List.replicate m 0) (by simp), nv_nil, ← nv_split lu m (by have := Hlul.out; omega), Hve.out.2.2.2]; simp, Hve.out.2.2.1, hxa⟩
  case round =>
    obtain ⟨k, U, ql, hk, ⟨q, hq, rfl⟩, hbU, dU, hUl, hbq, dq, hql, hbV, hval, hlt, hx⟩ := hrel
    have HUl := Lib.hid hUl; clear hUl
    have Hql := Lib.hid hql; clear hql
    have Hval := Lib.hid (And.intro hval hlt); clear hval hlt
    clear hbu3 hbv3 hxa
    by_cases hk0 : 0 < k
    · obtain ⟨j, rfl⟩ : ∃ j, k = j + 1 := ⟨k - 1, by omega⟩
      obtain rfl : q = (j : Int) := by omega
      clear hq
      have hjm := Hm.out
      have hj1 : j + es.length + 1 ≤ ds.length + 1 := by omega
      have hj0 : j ≤ ds.length := by omega
      clear hjm
      go_wp2_with fail
      rw [show j + es.length + 1 - j = es.length + 1 from by omega]
      obtain ⟨hgg, hgg', hg1, hg2, hsz2, hsz3, hsz4⟩ := Hgs.out
      obtain ⟨hV, hVe, _, _⟩ := Hve.out
      have hUl := HUl.out
      have hXj : nv (U.drop j) < 4294967296 * V := by
        rw [nv_drop (by omega)]
        exact div_next (dU.get (by omega)) Hval.out.2
      refine Calls.mono (digit_any g j es.length _ _ U (trim lv) ⟨g', 0, none⟩ wr hbU dU hL2 (by omega) (by omega) Hlv.out.2 (trim_digs dlv) (fun k hk => ?hva) (fun e => ?hne) ndt (by rw [hV]; exact hXj) (by omega) (by have := Hlv.out.1; omega)) ?_
      case hva =>
        obtain ⟨a', ha, hc⟩ := dig_at (hbV.digat dlv).trim (k := k) (by rw [Hlv.out.2]; exact hk)
        cases ha
        exact hc
      case hne => simp only at e; omega
      rintro e w5 ⟨rfl, U', hbU', dU', hUl', hUt, hUd, hgr⟩
      have hq5 : DBlk w5 w3.heap.size 112 ql := (hgr.block _ hbq.lt (by intro e; injection e; omega)).trans hbq
      have hV5 : DBlk w5 g' 112 lv := (hgr.block _ hbV.lt (by intro e; injection e; omega)).trans hbV
      have hx5 : Ext w w5 := hx.grown hgr (by intro k hk; injection hk; omega)
      rw [hV] at hUd
      rw [hV]
      have hqj : nv (U.drop j) / V < 4294967296 := Nat.div_lt_of_lt_mul (by rw [Nat.mul_comm]; exact hXj)
      have hcell := hq5.celld (i := j) (by have := Hql.out; omega)
      have hfz := hq5.frozen j
      have Hmore := Lib.hid (And.intro hUl' (And.intro hUt (And.intro hUd hqj)))
      clear hUl' hUt hUd hqj hUl hXj hgg hgg' hg1 hg2 hsz2 hsz3 hsz4 hV hVe
      obtain ⟨qd, hqd⟩ : ∃ x, nv (U.drop j) / V = x := ⟨_, rfl⟩
      rw [hqd]
      have Hqd := Lib.hid hqd; clear hqd
      clear hbq hbV hbU hx hgr
      go_wp2
      go_roundw
      case rel =>
        obtain ⟨hUl', hUt, hUd, hqj⟩ := Hmore.out
        rw [Hqd.out] at hqj
        have hUl := HUl.out
        have hql := Hql.out
        refine ⟨j, U', ql.set j qd, by omega, ⟨_, by omega, rfl⟩, hbU'.far (fun e => ?_) _, dU', by omega, hq5.setI j qd rfl, dq.set hqj _, by simpa using hql, hV5.far (fun e => ?_) _, ?_, by rw [hUd]; exact Nat.mod_lt _ hVpos, hx5.setCell _ _ ?_⟩
        · have := Hgs.out; simp only at e; omega
        · have := Hgs.out; simp only at e; omega
        · have hql' : j < (ql.set j qd).length := by simp; omega
          rw [nv_drop hql', hUt, hUd]
          simp only [List.getElem_set_self, List.drop_set_of_lt (Nat.lt_succ_self j)]
          rw [← Hqd.out]
          refine div_round ?_
          have h1 := Hval.out.1
          rw [← bp_succ, ← h1, nv_take_dg, bp_succ]
          rw [nv_drop (ds := U) (i := j) (by omega), dg_lt (by omega)]
          grind
        · have := Hgs.out; simp only; omega
      case measure => simp [intOf] <;> omega
    · obtain rfl : k = 0 := by omega
      have q1 : q < 0 := by omega
      have Hq := Lib.hid hq; clear hq
      obtain ⟨hV, hVe, _, _⟩ := Hve.out
      have hval := Hval.out
      simp only [List.take_zero, nv_nil, bp_zero, Nat.one_mul, Nat.zero_add, Nat.mul_one, List.drop_zero] at hval
      obtain ⟨e1, e2⟩ := div_end hval.2 hval.1
      have hUL : nv (U.take es.length) = nv U := by
        refine (nv_high (by rw [HUl.out]; omega) ?_).2
        have h1 := nv_lt (trim_digs dlv)
        rw [hV, Hlv.out.2] at h1
        omega
      have hesp : 0 < nv es := by
        rcases Nat.eq_zero_or_pos (nv es) with h | h
        · rw [h, Nat.zero_mul] at hVe; omega
        · exact h
      rw [← hVe, Nat.mul_div_mul_right _ _ hS0] at e1
      rw [← hVe, Nat.mul_mod_mul_right] at e2
      have hqv := hbq.digv dq (c := m) (by rw [Hql.out]; exact Nat.le_refl _) (by omega)
      rw [Hql.out] at hqv
      have hUv := hbU.digtake dU (n := es.length) (c := ds.length + 1) (by rw [HUl.out]; omega) (by rw [HUl.out]; exact Nat.le_refl _) (by omega)
      have hSS := Hsp.out.2.2
      have Hend := Lib.hid (And.intro e1 (And.intro e2 (And.intro hUL (And.intro hqv (And.intro hUv hSS)))))
      clear e1 e2 hUL hqv hUv hval hV hVe hSS
      have hi1 : (0 : Int) ≤ es.length := by omega
      have hi2 : (es.length : Int) ≤ (ds.length : Int) + 1 := by omega
      have hi3 : es.length ≤ ds.length + 1 := by omega
      go_wp2_with fail
      refine wp_region_par (k := 6) (D := [93, 94, 95, 96, 97, 98]) (T := [[], [0], [], [], [2, 3], [], [0, 1, 2, 3, 4, 5], [0, 1, 2, 3, 4, 5, 6], [0, 1, 2, 3, 4, 5, 6, 7], [0, 1, 2, 3, 4, 5, 6, 7, 8]]) (EK := [4, 11, 13, 10]) (EV := [?e2x0, ?e2x1, ?e2x2, ?e2x3]) (VL := [(kv ?v2x0), (fun γ => γ 1), (kv ?v2x2), (kv ?v2x3), (kv ?v2x4), (kv ?v2x5)]) (FL := fun γ w' => [True, DigV w' (γ 1) (trim ql), True, True, True, True]) ?hE2 (by kernel_rfl) (by kernel_rfl) (by rfl) (by kernel_rfl) ?hloc2 ?hmono2 ?hstep2 ?htail2
      case hE2 => refine ⟨?_, ?_, ?_, ?_, trivial⟩ <;> (simp only [List.getElem?_toArray, List.getElem?_cons_succ, List.getElem?_cons_zero]; rfl)
      case hstep2 =>
        refine ⟨⟨⟨⟨⟨⟨trivial, ?_⟩, ?_⟩, ?_⟩, ?_⟩, ?_⟩, ?_⟩
        · intro γ w' he hf; clear hf; refine ⟨trivial, ?_⟩; intro R hR
          have hc := he.cells
          go_simp
          (try go_ints); (try (rw [if_neg (by omega)])); (try (rw [if_pos (by omega)])); (try go_simp); (try go_ints)
          refine hR _ _ (Ext.refl _) ?_ trivial
          rfl
        · intro γ w' he hf; clear hf; refine ⟨trivial, ?_⟩; intro R hR
          go_simp
          refine Calls.mono (show Calls _ _ _ w' (Gives w' fun r w'' => DigV w'' (r) (trim ql)) from trimmed_any _ ql w' (Hend.out.2.2.2.1.ext he)) ?_
          rintro e w2 ⟨v, rfl, hv, hx⟩
          exact ⟨v, rfl, hR v w2 hx rfl hv⟩
        · intro γ w' he hf; clear hf; refine ⟨trivial, ?_⟩; intro R hR
          have hc := he.cells
          go_simp
          (try go_ints); (try (rw [if_neg (by omega)])); (try (rw [if_pos (by omega)])); (try go_simp); (try go_ints)
          refine hR _ _ (Ext.refl _) ?_ trivial
          rfl
        · intro γ w' he hf; clear hf; refine ⟨trivial, ?_⟩; intro R hR
          have hc := he.cells
          go_simp
          (try go_ints); (try (rw [if_neg (by omega)])); (try (rw [if_pos (by omega)])); (try go_simp); (try go_ints)
          refine hR _ _ (Ext.refl _) ?_ trivial
          rfl
        · intro γ w' he hf; clear hf; refine ⟨trivial, ?_⟩; intro R hR
          have hc := he.cells
          go_simp
          (try go_ints); (try (rw [if_neg (by omega)])); (try (rw [if_pos (by omega)])); (try go_simp); (try go_ints)
          refine hR _ _ (Ext.refl _) ?_ trivial
          rfl
        · intro γ w' he hf; clear hf; refine ⟨trivial, ?_⟩; intro R hR
          have hc := he.cells
          go_simp
          (try go_ints); (try (rw [if_neg (by omega)])); (try (rw [if_pos (by omega)])); (try go_simp); (try go_ints)
          refine hR _ _ (Ext.refl _) ?_ trivial
          rfl
      case hloc2 =>
        exact ⟨⟨⟨⟨⟨⟨trivial, (fun γ γ' h => ⟨rfl, fun _ => rfl⟩)⟩, (fun γ γ' h => ⟨h 1 rfl, fun w' => (congrArg (fun a => DigV w' (a) (trim ql)) (h 1 rfl))⟩)⟩, (fun γ γ' h => ⟨rfl, fun _ => rfl⟩)⟩, (fun γ γ' h => ⟨rfl, fun _ => rfl⟩)⟩, (fun γ γ' h => ⟨rfl, fun _ => rfl⟩)⟩, (fun γ γ' h => ⟨rfl, fun _ => rfl⟩)⟩
      case hmono2 =>
        exact ⟨⟨⟨⟨⟨⟨trivial, (fun γ wA w' e h => h)⟩, (fun γ wA w' e h => (show DigV wA (γ 1) (trim ql) from h).ext e)⟩, (fun γ wA w' e h => h)⟩, (fun γ wA w' e h => h)⟩, (fun γ wA w' e h => h)⟩, (fun γ wA w' e h => h)⟩
      intro γ w5 hx5 hF
      have p1 : DigV w5 (γ 1) (trim ql) := Each.get hF 1 (by decide)
      clear hF
      simp only [fillAll, gV, kv, List.getD_cons_zero, List.getD_cons_succ, Act.put, List.setIfInBounds_toArray, List.set_cons_zero, List.set_cons_succ, List.toList_toArray, List.drop_succ_cons, List.drop_zero, List.drop_nil, Nat.zero_add, Nat.reduceAdd]
      generalize γ 1 = g1 at *
      clear γ
      go_wp2_with fail
      refine Calls.mono (unshifted_any _ (U.take es.length) s w5 (Hend.out.2.2.2.2.1.ext hx5) hs32 (by simp; omega)) ?_
      rintro e w7 ⟨r7, rfl, ⟨lr, r1, r2, r3⟩, hx7⟩
      rw [Hend.out.2.2.2.2.2, Hend.out.2.2.1, Hend.out.2.1, Nat.mul_div_cancel _ hS0] at r2
      go_wp2_with fail
      refine Calls.mono (trimmed_any _ lr w7 r1) ?_
      rintro e w6 ⟨rr, rfl, hrr, hx6⟩
      go_wp2
      go_ret2
      refine Gives.mk ⟨_, _, rfl, ⟨trim ql, (p1.ext hx7).ext hx6, ?_, trim_top _⟩, ⟨trim lr, hrr, ?_, trim_top _⟩⟩ (((hx.trans hx5).trans hx7).trans hx6)
      · rw [trim_nv]; exact Hend.out.1
      · rw [trim_nv]; exact r2
end Go.Proofs.YtedoifjbgokmcaaGreat
namespace Go.Proofs.YtedoifjbgokmcaaGreat
open Go.RowKit Go.Hp
theorem divide_nat (v u : Value) (N V : Nat) (w : World) (hv : NatV w v N) (hu : NatV w u V) (h0 : 0 < V) (hn : sz N ≤ 4398046511103) (hm : sz V ≤ 4398046511103) :
    Calls Tryz.prog 130 #[v, u] w (Gives w (DivV N V)) := by
  obtain ⟨ds, a1, rfl, a3, a4⟩ := hv.len
  obtain ⟨es, b1, rfl, b3, b4⟩ := hu.len
  rcases Nat.lt_or_ge (nv ds) (nv es) with hc | hc
  · exact divide_small v u ds es w a1 b1 a3 b3 (by omega) (by omega) h0 hc
  · by_cases h2 : ds.length ≤ 2
    · exact divide_word v u ds es w a1 b1 a3 b3 h2 h0 hc
    · match es, b1, b3, b4, h0, hm, hc with
      | [], _, _, _, h0, _, _ => simp [nv_nil] at h0
      | [d], b1, b3, b4, h0, hm, hc => exact divide_short v u ds d w a1 b1 a3 b3 (by omega) (by omega) h0 hc
      | d :: e :: l, b1, b3, b4, h0, hm, hc => exact divide_long v u ds (d :: e :: l) w a1 b1 a3 b3 (by omega) (by omega) (by simp) hc
theorem trimmed_num (v : Value) (N l : Nat) (w : World) (h : NumV w v N l) : Calls Tryz.prog 111 #[v] w (Gives w fun r w' => NatV w' r N) := by
  obtain ⟨ds, h1, rfl, _⟩ := h
  exact Gives.imp (trimmed_any v ds w h1) fun _ _ h => ⟨trim ds, h, trim_nv ds, trim_top ds⟩
theorem clone_nat (v : Value) (N : Nat) (w : World) (h : NatV w v N) (hn : sz N ≤ 8796093022208) : Calls Tryz.prog 129 #[v] w (Gives w fun r w' => NatV w' r N) := by
  obtain ⟨ds, h1, rfl, h3, h4⟩ := h.len
  exact Gives.imp (clone_any v ds w h1 (by omega)) fun _ _ h => ⟨ds, h, rfl, h3⟩
theorem plus_num (v u : Value) (N M a b : Nat) (w : World) (hv : NumV w v N a) (hu : NumV w u M b) (ha : a ≤ 4398046511104) (hb : b ≤ 4398046511104) : Calls Tryz.prog 131 #[v, u] w (Gives w fun r w' => NumV w' r (N + M) (max a b + 1)) := by
  obtain ⟨ds, h1, rfl, h3⟩ := hv
  obtain ⟨es, k1, rfl, k3⟩ := hu
  exact Gives.imp (plus_any v u ds es w h1 k1 (by omega) (by omega)) fun _ _ ⟨l, q1, q2, q3⟩ => ⟨l, q1, q2, by omega⟩
theorem less_nat (v u : Value) (N M : Nat) (w : World) (hv : NatV w v N) (hu : NatV w u M) (hle : M ≤ N) (ha : sz N ≤ 4398046511104) : Calls Tryz.prog 132 #[v, u] w (Gives w fun r w' => NumV w' r (N - M) (sz N)) := by
  obtain ⟨ds, h1, rfl, h3, h4⟩ := hv.len
  obtain ⟨es, k1, rfl, k3, k4⟩ := hu.len
  have := sz_mono hle
  exact Gives.imp (less_any v u ds es w h1 k1 (by omega) (by omega) hle) fun _ _ ⟨l, q1, q2, q3⟩ => ⟨l, q1, q2, by omega⟩
theorem times_num (v u : Value) (N M a b : Nat) (w : World) (hv : NumV w v N a) (hu : NumV w u M b) (ha : a ≤ 4398046511104) (hb : b ≤ 4398046511104) : Calls Tryz.prog 112 #[v, u] w (Gives w fun r w' => NumV w' r (N * M) (a + b)) := by
  obtain ⟨ds, h1, rfl, h3⟩ := hv
  obtain ⟨es, k1, rfl, k3⟩ := hu
  exact Gives.imp (times_any v u ds es w h1 k1 (by omega) (by omega)) fun _ _ ⟨l, q1, q2, q3⟩ => ⟨l, q1, q2, by omega⟩
theorem compare_nat (v u : Value) (N M : Nat) (w : World) (hv : NatV w v N) (hu : NatV w u M) (ha : sz N ≤ 4398046511104) (hb : sz M ≤ 4398046511104) : Calls Tryz.prog 137 #[v, u] w (Gives w fun r _ => r = .int .i64 (cmp N M)) := by
  obtain ⟨ds, h1, rfl, h3, h4⟩ := hv.len
  obtain ⟨es, k1, rfl, k3, k4⟩ := hu.len
  exact compare_any v u ds es w h1 k1 h3 k3 (by omega) (by omega)
theorem wide_nat (n : Nat) (x : Int) (hxn : x = n) (w : World) (hn : n < 18446744073709551616) : Calls Tryz.prog 108 #[.int .u64 x] w (Gives w fun r w' => NatV w' r n) :=
  Gives.imp (wide_any n x hxn w hn) fun _ _ ⟨l, a, b, c, _⟩ => ⟨l, a, b, c⟩
theorem word_nat (v : Value) (N : Nat) (w : World) (hv : NatV w v N) (hN : N < 18446744073709551616) : Calls Tryz.prog 133 #[v] w (Gives w fun r _ => r = .int .u64 (N : Nat)) := by
  obtain ⟨ds, h1, rfl, h3, h4⟩ := hv.len
  have := sz_small2 hN
  exact word_any v ds w h1 (by omega)
set_option maxHeartbeats 1000000 in
theorem signed_any (neg : Bool) (v : Value) (N l : Nat) (w : World) (hv : NumV w v N l) : Calls Tryz.prog 107 #[.bool neg, v] w (Gives w fun r w' => IsZ w' r (if neg then -(N : Int) else N)) := by
  obtain ⟨ds, h1, hnv, h3⟩ := hv
  have Hv := Lib.hid (And.intro h1 hnv)
  obtain ⟨A, c, rfl, hl', hc, hA⟩ := h1
  clear hnv
  go_enter Tryz.func107, Tryz.ntmps107
  go_wp2_with fail
  refine Calls.mono (trimmed_num _ N l _ ⟨ds, Hv.out.1.ext ((Ext.refl w).alloc _), Hv.out.2, h3⟩) ?_
  rintro e w1 ⟨r, rfl, hr, hx1⟩
  obtain ⟨A', c', rfl, q1, q2⟩ := hr.form
  have hc1 := hx1.cells
  have hf1 := hx1.frozens
  have hnd : NoDig w1 w.heap.size := (NoDig.new w _ _ (by simp [isDig])).ext hx1 (by simp)
  have hxw : Ext w w1 := ((Ext.refl w).alloc _).trans hx1
  have fin : ∀ b : Bool, (b = true → N ≠ 0) → (if b then -(N : Int) else N) = (if neg then -(N : Int) else N) →
      Gives w (fun r w' => IsZ w' r (if neg then -(N : Int) else N)) (.returned (.agg #[.bool b, .slice A' (sz N) c'])) ((w1.setCell ⟨w.heap.size, 0, none⟩ (.bool b)).setCell ⟨w.heap.size, 1, none⟩ (.slice A' (sz N) c')) := by
    intro b h1 h2
    have hk := ((KD.refl w1).set_ (i := 0) hnd (.bool b)).set_ (i := 1) (hnd.set_ rfl) (.slice A' (sz N) c')
    rw [← h2]
    exact Gives.mk (IsZ.mk (hr.kd hk) h1) ((hxw.setCell _ _ (Nat.le_refl _)).setCell _ _ (Nat.le_refl _))
  have Hfin := Lib.hid fin; clear fin
  clear hr hnd hxw
  by_cases h0 : N = 0
  · have hb : decide (0 < sz N) = false := by subst h0; rfl
    have H0 := Lib.hid h0; clear h0
    cases neg
    all_goals
      go_wp2
      refine bodyPost_ret (v := .agg #[.bool false, .slice A' (sz N) c']) (by simp [results, Tryz.results107, go_sem, hc1]) rfl ?_
      have := Hfin.out false (fun h => by cases h) (by simp [H0.out])
      simpa only [if_true, if_false, Bool.false_eq_true] using this
  · have hp : 0 < sz N := by
      have := lt_bp_sz N
      rcases Nat.eq_zero_or_pos (sz N) with h | h
      · rw [h, bp_zero] at this; omega
      · exact h
    have hb : decide (0 < sz N) = true := by simp; exact hp
    clear hp
    have H0 := Lib.hid h0; clear h0
    cases neg
    · go_wp2
      refine bodyPost_ret (v := .agg #[.bool false, .slice A' (sz N) c']) (by simp [results, Tryz.results107, go_sem, hc1]) rfl ?_
      have := Hfin.out false (fun h => by cases h) rfl
      simpa only [if_true, if_false, Bool.false_eq_true] using this
    · go_wp2
      refine bodyPost_ret (v := .agg #[.bool true, .slice A' (sz N) c']) (by simp [results, Tryz.results107, go_sem, hc1]) rfl ?_
      have := Hfin.out true (fun _ => H0.out) rfl
      simpa only [if_true, if_false, Bool.false_eq_true] using this
end Go.Proofs.YtedoifjbgokmcaaGreat
namespace Go.Proofs.YtedoifjbgokmcaaGreat
open Go.RowKit Go.Hp
theorem signed_z (x : Int) (neg : Bool) (v : Value) (N l : Nat) (w : World) (hx : x = if neg then -(N : Int) else N) (hv : NumV w v N l) : Calls Tryz.prog 107 #[.bool neg, v] w (Gives w fun r w' => IsZ w' r x) := by
  subst hx; exact signed_any neg v N l w hv
theorem normal_z (v : Value) (x : Int) (w : World) (hv : HasZ w v x) : Calls Tryz.prog 123 #[v] w (Gives w fun r w' => IsZ w' r x) := by
  obtain ⟨neg, A, n, c, N, rfl, h1, h2, h3, hN, hx⟩ := hv.form
  have HN := Lib.hid hN; clear hN hv
  have Hx := Lib.hid hx; clear hx
  have hs : sz N ≤ n := HN.out.sz
  go_enter Tryz.func123, Tryz.ntmps123
  go_wp2_with fail
  refine wp_region_par (k := 6) (D := [3, 4, 5, 6, 7, 8]) (T := [[], [0], [], [2], [2, 3], [2, 3, 4], [0, 1, 2, 3, 4, 5], [0, 1, 2, 3, 4, 5, 6]]) (EK := [1]) (EV := [?e1x0]) (VL := [(kv ?v1x0), (kv ?v1x1), (kv ?v1x2), (kv ?v1x3), (fun γ => γ 4), (fun γ => γ 5)]) (FL := fun γ w' => [True, True, True, True, NatV w' (γ 4) N, NatV w' (γ 5) N]) ?hE1 (by kernel_rfl) (by kernel_rfl) (by rfl) (by kernel_rfl) ?hloc1 ?hmono1 ?hstep1 ?htail1
  case hE1 => refine ⟨?_, trivial⟩ <;> (simp only [List.getElem?_toArray, List.getElem?_cons_succ, List.getElem?_cons_zero]; rfl)
  case hstep1 =>
    refine ⟨⟨⟨⟨⟨⟨trivial, ?_⟩, ?_⟩, ?_⟩, ?_⟩, ?_⟩, ?_⟩
    · intro γ w' he hf; clear hf; refine ⟨trivial, ?_⟩; intro R hR
      have hc := he.cells
      go_simp
      (try go_ints); (try (rw [if_neg (by omega)])); (try (rw [if_pos (by omega)])); (try go_simp); (try go_ints)
      refine hR _ _ (Ext.refl _) ?_ trivial
      rfl
    · intro γ w' he hf; clear hf; refine ⟨trivial, ?_⟩; intro R hR
      have hc := he.cells
      go_simp
      (try go_ints); (try (rw [if_neg (by omega)])); (try (rw [if_pos (by omega)])); (try go_simp); (try go_ints)
      refine hR _ _ (Ext.refl _) ?_ trivial
      rfl
    · intro γ w' he hf; clear hf; refine ⟨trivial, ?_⟩; intro R hR
      have hc := he.cells
      go_simp
      (try go_ints); (try (rw [if_neg (by omega)])); (try (rw [if_pos (by omega)])); (try go_simp); (try go_ints)
      refine hR _ _ (Ext.refl _) ?_ trivial
      rfl
    · intro γ w' he hf; clear hf; refine ⟨trivial, ?_⟩; intro R hR
      have hc := he.cells
      go_simp
      (try go_ints); (try (rw [if_neg (by omega)])); (try (rw [if_pos (by omega)])); (try go_simp); (try go_ints)
      refine hR _ _ (Ext.refl _) ?_ trivial
      rfl
    · intro γ w' he hf; clear hf; refine ⟨trivial, ?_⟩; intro R hR
      go_simp
      refine Calls.mono (show Calls _ _ _ w' (Gives w' fun r w'' => NatV w'' (r) N) from trimmed_num _ N n w' (HN.out.ext he.a2)) ?_
      rintro e w2 ⟨v, rfl, hv, hx⟩
      exact ⟨v, rfl, hR v w2 hx rfl hv⟩
    · intro γ w' he hf; have f4 : NatV w' (γ 4) N := hf 4 (by decide); clear hf; refine ⟨trivial, ?_⟩; intro R hR
      go_simp
      refine Calls.mono (show Calls _ _ _ w' (Gives w' fun r w'' => NatV w'' (r) N) from clone_nat _ N w' f4 (by omega)) ?_
      rintro e w2 ⟨v, rfl, hv, hx⟩
      exact ⟨v, rfl, hR v w2 hx rfl hv⟩
  case hloc1 =>
    exact ⟨⟨⟨⟨⟨⟨trivial, (fun γ γ' h => ⟨rfl, fun _ => rfl⟩)⟩, (fun γ γ' h => ⟨rfl, fun _ => rfl⟩)⟩, (fun γ γ' h => ⟨rfl, fun _ => rfl⟩)⟩, (fun γ γ' h => ⟨rfl, fun _ => rfl⟩)⟩, (fun γ γ' h => ⟨h 4 rfl, fun w' => (congrArg (fun a => NatV w' (a) N) (h 4 rfl))⟩)⟩, (fun γ γ' h => ⟨h 5 rfl, fun w' => (congrArg (fun a => NatV w' (a) N) (h 5 rfl))⟩)⟩
  case hmono1 =>
    exact ⟨⟨⟨⟨⟨⟨trivial, (fun γ wA w' e h => h)⟩, (fun γ wA w' e h => h)⟩, (fun γ wA w' e h => h)⟩, (fun γ wA w' e h => h)⟩, (fun γ wA w' e h => (show NatV wA (γ 4) N from h).ext e)⟩, (fun γ wA w' e h => (show NatV wA (γ 5) N from h).ext e)⟩
  intro γ w1 hx1 hF
  have p4 : NatV w1 (γ 4) N := Each.get hF 4 (by decide)
  have p5 : NatV w1 (γ 5) N := Each.get hF 5 (by decide)
  clear hF
  simp only [fillAll, gV, kv, List.getD_cons_zero, List.getD_cons_succ, Act.put, List.setIfInBounds_toArray, List.set_cons_zero, List.set_cons_succ, List.toList_toArray, List.drop_succ_cons, List.drop_zero, List.drop_nil, Nat.zero_add, Nat.reduceAdd]
  generalize γ 4 = g4 at *
  generalize γ 5 = g5 at *
  clear γ
  go_wp2_with fail
  refine Calls.mono (signed_z x neg _ N _ w1 Hx.out (p5.num (Nat.le_refl _))) ?_
  rintro e w2 ⟨r, rfl, hr, hx2⟩
  obtain ⟨b, A2, n2, c2, rfl⟩ := hr.cells
  replace hx1 := hx1.trans hx2
  have hc1 := hx1.cells
  have hf1 := hx1.frozens
  have Hfin := Lib.hid (fin_z hr hx1.a2 (NoDig.at_ hx1 (g := w.heap.size + 1) (by simp) (by simp [isDig])) (by omega))
  clear hr p4 p5
  go_wp2
  refine bodyPost_ret (v := .agg #[.bool b, .slice A2 n2 c2]) (by simp [results, Tryz.results123, go_sem, hc1]) rfl ?_
  exact Hfin.out
theorem neg_z (v : Value) (x : Int) (w : World) (hv : HasZ w v x) : Calls Tryz.prog 105 #[v] w (Gives w fun r w' => IsZ w' r (-x)) := by
  obtain ⟨neg, A, n, c, N, rfl, h1, h2, h3, hN, hx⟩ := hv.form
  have HN := Lib.hid hN; clear hN hv
  have Hx := Lib.hid (show -x = if (!neg) = true then -(N : Int) else N by rw [hx]; cases neg <;> simp); clear hx
  have hs : sz N ≤ n := HN.out.sz
  go_enter Tryz.func105, Tryz.ntmps105
  go_wp2_with fail
  refine wp_region_par (k := 7) (D := [3, 4, 5, 6, 7, 8, 9]) (T := [[], [0], [0, 1], [], [3], [3, 4], [3, 4, 5], [0, 1, 2, 3, 4, 5, 6], [0, 1, 2, 3, 4, 5, 6, 7]]) (EK := [1]) (EV := [?e2x0]) (VL := [(kv ?v2x0), (kv ?v2x1), (kv ?v2x2), (kv ?v2x3), (kv ?v2x4), (fun γ => γ 5), (fun γ => γ 6)]) (FL := fun γ w' => [True, True, True, True, True, NatV w' (γ 5) N, NatV w' (γ 6) N]) ?hE2 (by kernel_rfl) (by kernel_rfl) (by rfl) (by kernel_rfl) ?hloc2 ?hmono2 ?hstep2 ?htail2
  case hE2 => refine ⟨?_, trivial⟩ <;> (simp only [List.getElem?_toArray, List.getElem?_cons_succ, List.getElem?_cons_zero]; rfl)
  case hstep2 =>
    refine ⟨⟨⟨⟨⟨⟨⟨trivial, ?_⟩, ?_⟩, ?_⟩, ?_⟩, ?_⟩, ?_⟩, ?_⟩
    · intro γ w' he hf; clear hf; refine ⟨trivial, ?_⟩; intro R hR
      have hc := he.cells
      go_simp
      (try go_ints); (try (rw [if_neg (by omega)])); (try (rw [if_pos (by omega)])); (try go_simp); (try go_ints)
      refine hR _ _ (Ext.refl _) ?_ trivial
      rfl
    · intro γ w' he hf; clear hf; refine ⟨trivial, ?_⟩; intro R hR
      have hc := he.cells
      go_simp
      (try go_ints); (try (rw [if_neg (by omega)])); (try (rw [if_pos (by omega)])); (try go_simp); (try go_ints)
      refine hR _ _ (Ext.refl _) ?_ trivial
      rfl
    · intro γ w' he hf; clear hf; refine ⟨trivial, ?_⟩; intro R hR
      have hc := he.cells
      go_simp
      (try go_ints); (try (rw [if_neg (by omega)])); (try (rw [if_pos (by omega)])); (try go_simp); (try go_ints)
      refine hR _ _ (Ext.refl _) ?_ trivial
      rfl
    · intro γ w' he hf; clear hf; refine ⟨trivial, ?_⟩; intro R hR
      have hc := he.cells
      go_simp
      (try go_ints); (try (rw [if_neg (by omega)])); (try (rw [if_pos (by omega)])); (try go_simp); (try go_ints)
      refine hR _ _ (Ext.refl _) ?_ trivial
      rfl
    · intro γ w' he hf; clear hf; refine ⟨trivial, ?_⟩; intro R hR
      have hc := he.cells
      go_simp
      (try go_ints); (try (rw [if_neg (by omega)])); (try (rw [if_pos (by omega)])); (try go_simp); (try go_ints)
      refine hR _ _ (Ext.refl _) ?_ trivial
      rfl
    · intro γ w' he hf; clear hf; refine ⟨trivial, ?_⟩; intro R hR
      go_simp
      refine Calls.mono (show Calls _ _ _ w' (Gives w' fun r w'' => NatV w'' (r) N) from trimmed_num _ N n w' (HN.out.ext he.a2)) ?_
      rintro e w2 ⟨v, rfl, hv, hx⟩
      exact ⟨v, rfl, hR v w2 hx rfl hv⟩
    · intro γ w' he hf; have f5 : NatV w' (γ 5) N := hf 5 (by decide); clear hf; refine ⟨trivial, ?_⟩; intro R hR
      go_simp
      refine Calls.mono (show Calls _ _ _ w' (Gives w' fun r w'' => NatV w'' (r) N) from clone_nat _ N w' f5 (by omega)) ?_
      rintro e w2 ⟨v, rfl, hv, hx⟩
      exact ⟨v, rfl, hR v w2 hx rfl hv⟩
  case hloc2 =>
    exact ⟨⟨⟨⟨⟨⟨⟨trivial, (fun γ γ' h => ⟨rfl, fun _ => rfl⟩)⟩, (fun γ γ' h => ⟨rfl, fun _ => rfl⟩)⟩, (fun γ γ' h => ⟨rfl, fun _ => rfl⟩)⟩, (fun γ γ' h => ⟨rfl, fun _ => rfl⟩)⟩, (fun γ γ' h => ⟨rfl, fun _ => rfl⟩)⟩, (fun γ γ' h => ⟨h 5 rfl, fun w' => (congrArg (fun a => NatV w' (a) N) (h 5 rfl))⟩)⟩, (fun γ γ' h => ⟨h 6 rfl, fun w' => (congrArg (fun a => NatV w' (a) N) (h 6 rfl))⟩)⟩
  case hmono2 =>
    exact ⟨⟨⟨⟨⟨⟨⟨trivial, (fun γ wA w' e h => h)⟩, (fun γ wA w' e h => h)⟩, (fun γ wA w' e h => h)⟩, (fun γ wA w' e h => h)⟩, (fun γ wA w' e h => h)⟩, (fun γ wA w' e h => (show NatV wA (γ 5) N from h).ext e)⟩, (fun γ wA w' e h => (show NatV wA (γ 6) N from h).ext e)⟩
  intro γ w1 hx1 hF
  have p5 : NatV w1 (γ 5) N := Each.get hF 5 (by decide)
  have p6 : NatV w1 (γ 6) N := Each.get hF 6 (by decide)
  clear hF
  simp only [fillAll, gV, kv, List.getD_cons_zero, List.getD_cons_succ, Act.put, List.setIfInBounds_toArray, List.set_cons_zero, List.set_cons_succ, List.toList_toArray, List.drop_succ_cons, List.drop_zero, List.drop_nil, Nat.zero_add, Nat.reduceAdd]
  generalize γ 5 = g5 at *
  generalize γ 6 = g6 at *
  clear γ
  go_wp2_with fail
  refine Calls.mono (signed_z (-x) (!neg) _ N _ w1 Hx.out (p6.num (Nat.le_refl _))) ?_
  rintro e w2 ⟨r, rfl, hr, hx2⟩
  obtain ⟨b, A2, n2, c2, rfl⟩ := hr.cells
  replace hx1 := hx1.trans hx2
  have hc1 := hx1.cells
  have hf1 := hx1.frozens
  have Hfin := Lib.hid (fin_z hr hx1.a2 (NoDig.at_ hx1 (g := w.heap.size + 1) (by simp) (by simp [isDig])) (by omega))
  clear hr p5 p6
  go_wp2
  refine bodyPost_ret (v := .agg #[.bool b, .slice A2 n2 c2]) (by simp [results, Tryz.results105, go_sem, hc1]) rfl ?_
  exact Hfin.out
theorem wrap_neg {x : Int} (h1 : -9223372036854775808 ≤ x) (h2 : x < 0) : IntKind.u64.wrap (-IntKind.u64.wrap x) = (x.natAbs : Nat) := by
  simp [IntKind.wrap, IntKind.bits, IntKind.signed]; omega
theorem wrap_pos {x : Int} (h1 : 0 ≤ x) (h2 : x < 9223372036854775808) : IntKind.u64.wrap x = (x.natAbs : Nat) := by
  simp [IntKind.wrap, IntKind.bits, IntKind.signed]; omega
theorem of_z (x : Int) (w : World) (h1 : -9223372036854775808 ≤ x) (h2 : x < 9223372036854775808) : Calls Tryz.prog 77 #[.int .i64 x] w (Gives w fun r w' => IsZ w' r x) := by
  have hsz : sz x.natAbs ≤ 2 := sz_small2 (by omega)
  go_enter Tryz.func77, Tryz.ntmps77
  by_cases hneg : x < 0
  · have hb : decide (x < 0) = true := by simpa using hneg
    go_wp2_with fail
    refine Calls.mono (wide_nat x.natAbs _ (wrap_neg h1 hneg) _ (by omega)) ?_
    rintro e w1 ⟨r, rfl, hr, hx1⟩
    go_wp2_with fail
    refine Calls.mono (signed_z x true _ x.natAbs _ w1 (by rw [if_pos rfl]; omega) (hr.num hsz)) ?_
    clear h1 h2
    rintro e w2 ⟨r2, rfl, hr2, hx2⟩
    obtain ⟨b, A2, n2, c2, rfl⟩ := hr2.cells
    replace hx1 := hx1.trans hx2
    have hc1 := hx1.cells
    have hf1 := hx1.frozens
    have Hfin := Lib.hid (fin_z hr2 hx1.a1 (NoDig.at_ hx1 rfl (by simp [isDig])) (by omega))
    clear hr hr2
    go_wp2
    refine bodyPost_ret (v := .agg #[.bool b, .slice A2 n2 c2]) (by simp [results, Tryz.results77, go_sem, hc1]) rfl ?_
    exact Hfin.out
  · have hb : decide (x < 0) = false := by simpa using hneg
    go_wp2_with fail
    refine Calls.mono (wide_nat x.natAbs _ (by omega) _ (by omega)) ?_
    rintro e w1 ⟨r, rfl, hr, hx1⟩
    go_wp2_with fail
    refine Calls.mono (signed_z x false _ x.natAbs _ w1 (by rw [if_neg (by decide)]; omega) (hr.num hsz)) ?_
    clear h1 h2
    rintro e w2 ⟨r2, rfl, hr2, hx2⟩
    obtain ⟨b, A2, n2, c2, rfl⟩ := hr2.cells
    replace hx1 := hx1.trans hx2
    have hc1 := hx1.cells
    have hf1 := hx1.frozens
    have Hfin := Lib.hid (fin_z hr2 hx1.a1 (NoDig.at_ hx1 rfl (by simp [isDig])) (by omega))
    clear hr hr2
    go_wp2
    refine bodyPost_ret (v := .agg #[.bool b, .slice A2 n2 c2]) (by simp [results, Tryz.results77, go_sem, hc1]) rfl ?_
    exact Hfin.out
theorem sign_z (v : Value) (x : Int) (w : World) (hv : HasZ w v x) : Calls Tryz.prog 98 #[v] w (Gives w fun r _ => r = .int .i64 x.sign) := by
  obtain ⟨neg, A, n, c, N, rfl, h1, h2, h3, hN, hx⟩ := hv.form
  have HN := Lib.hid hN; clear hN hv
  have hs : sz N ≤ n := HN.out.sz
  go_enter Tryz.func98, Tryz.ntmps98
  go_wp2_with fail
  refine Calls.mono (trimmed_num _ N n _ (HN.out.ext ((Ext.refl w).alloc _))) ?_
  rintro e w1 ⟨r, rfl, hr, hx1⟩
  obtain ⟨A', c', rfl, q1, q2⟩ := hr.form
  clear hr
  have hc1 := hx1.cells
  by_cases h0 : N = 0
  · have hb : (((sz N : Nat) : Int) == 0) = true := by subst h0; rfl
    have Hs := Lib.hid (show x.sign = 0 by subst h0; rw [hx]; cases neg <;> rfl); clear hx h0
    go_wp2
    go_ret
    exact Gives.mk (by rw [Hs.out]; rfl) hx1.a1
  · have hp := sz_pos h0
    have hb : (((sz N : Nat) : Int) == 0) = false := by simp; omega
    have Hx := Lib.hid hx; clear hx
    have H0 := Lib.hid h0; clear h0
    cases neg
    · have Hs := Lib.hid (show x.sign = 1 by rw [Hx.out]; exact Int.sign_eq_one_of_pos (by have := H0.out; simp; omega))
      go_wp2
      go_ret
      exact Gives.mk (by rw [Hs.out]; rfl) hx1.a1
    · have Hs := Lib.hid (show x.sign = -1 by rw [Hx.out]; exact Int.sign_eq_neg_one_of_neg (by have := H0.out; simp; omega))
      go_wp2
      go_ret
      exact Gives.mk (by rw [Hs.out]; rfl) hx1.a1
end Go.Proofs.YtedoifjbgokmcaaGreat
namespace Go.Hp
theorem take_of_trim {ds : List Nat} {m : Nat} (h : ds.take m = trim ds) (hm : m ≤ ds.length) : (trim ds).length = m := by rw [← h, List.length_take]; omega
end Go.Hp
namespace Go.Proofs.YtedoifjbgokmcaaGreat
open Go.RowKit Go.Hp
/-- Digits in a block from base on. -/
def DigO (base : Nat) (w : World) (v : Value) (ds : List Nat) : Prop := DigV w v ds ∧ (0 < ds.length → ∀ a n c, v = .slice (some a) n c → base ≤ a.block)
theorem DigO.of_own {w : World} {base e n : Nat} {v : Value} {ds : List Nat} (h : w.ownsRow base e 1 v n (ds.map fun d => Value.int .u32 (d : Nat))) (hd : ∀ d ∈ ds, d < 4294967296) : DigO base w v ds :=
  ⟨DigV.of_own h hd, fun _ a n c e => by
    obtain ⟨_, h | ⟨g, cap, cur, h1, h2, _⟩⟩ := h
    · rw [h.1] at e; cases e
    · rw [h1] at e; cases e; exact h2⟩
theorem append_nothing {P : Program} (w : World) (t ty e : TypeId) (i : TypeInfo) (ht : P.underlying t = some (.slice e)) (hi : P.info? e = some i) (g c : Nat) :
    (Builtin.append_ #[t, t] ty #[.slice (some ⟨g, 0, none⟩) 0 0, .slice none 0 c]).run P w = .ok (.slice (some ⟨g, 0, none⟩) 0 0) w := by
  simp [Builtin.append_, run_underlying ht, sizeOf, typeInfo, hi, Builtin.lenOf, run_firstCells_none, storeCells]
set_option maxHeartbeats 1000000 in
theorem trim_own (v : Value) (ds : List Nat) (w : World) (h : DigV w v ds) (hn : ds.length ≤ 8796093022208) : Calls Tryz.prog 117 #[v] w (Gives w fun r w' => DigO w.heap.size w' r (trim ds)) := by
  obtain ⟨A, c, rfl, hl, hc, hd, hA⟩ := h
  have HA := Lib.hid hA; have HD := Lib.hid hd; clear hA hd
  obtain ⟨i0, hi, hz0, hz1, hz2⟩ := info_parts info_u32
  have HI := Lib.hid (And.intro hi (And.intro hz0 (And.intro hz1 hz2))); clear hi hz0 hz1 hz2
  go_enter Tryz.func117, Tryz.ntmps117
  go_wp2
  go_loop [3] (fun v => ∃ m : Nat, m ≤ ds.length ∧ v = .int .i64 m ∧ ∀ j, m ≤ j → (h : j < ds.length) → ds[j] = 0) (fun v => (intOf v).toNat)
  case atStart => exact ⟨ds.length, Nat.le_refl _, rfl, fun j h1 h2 => by omega⟩
  case round =>
    obtain ⟨m, hm, rfl, hz⟩ := hrel
    have Hz := Lib.hid hz; clear hz
    by_cases hgo : ∃ h : 0 < m, ds[m - 1]'(by omega) = 0
    · obtain ⟨h0, hd0⟩ := hgo
      obtain ⟨m, rfl⟩ : ∃ k, m = k + 1 := ⟨m - 1, by omega⟩
      obtain ⟨a, rfl, hcell⟩ := HA.out (by omega)
      have hcm := hcell m (by omega)
      have hb : (((ds[m]'(by omega) : Nat) : Int) == 0) = true := by simpa using hd0
      clear hcell
      have Hd0 := Lib.hid hd0; clear hd0
      go_wp2
      go_round
      case rel => exact ⟨m, by omega, by go_num, fun j h1 h2 => by
        rcases Nat.eq_or_lt_of_le h1 with e | e
        · subst e; exact Hd0.out
        · exact Hz.out j (by omega) h2⟩
      case measure => simp [intOf] <;> omega
    · have ht := trim_take hm Hz.out (fun h hh e => hgo ⟨hh, e⟩)
      have hlen := take_of_trim ht hm
      have HT := Lib.hid (And.intro ht hlen); clear ht hlen
      have hcase : m = 0 ∨ ∃ k, m = k + 1 ∧ ∃ h : k < ds.length, ds[k] ≠ 0 := by
        rcases Nat.eq_zero_or_pos m with h | h
        · exact .inl h
        · exact .inr ⟨m - 1, by omega, by omega, fun e => hgo ⟨h, e⟩⟩
      clear hgo
      obtain ⟨news, hnw⟩ : ∃ news : List Value, news = (trim ds).map fun d => Value.int .u32 (d : Nat) := ⟨_, rfl⟩
      have fin : ∀ (v' : Value) (w' : World), w'.ownsRow w.heap.size 112 1 v' m news → DigO w.heap.size w' v' (trim ds) := by
        intro v' w' h
        rw [hnw] at h
        exact DigO.of_own h (trim_digs HD.out)
      have Hfin := Lib.hid fin; clear fin
      have hnews : ∀ a, A = some a → ∀ (j : Nat) (u : Value), news[j]? = some u → w.cell? (a.add j) = some u := by
        intro a ha j u hu
        rw [hnw, ← HT.out.1, List.getElem?_map] at hu
        rcases Nat.lt_or_ge j (ds.take m).length with h | h
        · rw [List.getElem?_eq_getElem h] at hu
          have hj : j < ds.length := by have := List.length_take_le' m ds; omega
          obtain ⟨a', ha', hc⟩ := HA.out (by omega)
          rw [ha] at ha'; cases ha'
          rw [hc j hj]; simpa using hu
        · rw [List.getElem?_eq_none h] at hu; cases hu
      have Hn := Lib.hid hnews; clear hnews
      have hone : news.length = m * 1 ∧ ∀ u ∈ news, u.oneCell' = true := by
        rw [hnw]
        refine ⟨by simp [HT.out.2], fun u hu => ?_⟩
        simp at hu; obtain ⟨d, _, rfl⟩ := hu; rfl
      have Ho := Lib.hid hone; clear hone hnw
      rcases hcase with h0 | ⟨k, h0, hk, hd0⟩
      · obtain rfl : m = 0 := h0
        cases A with
        | none =>
          have hds : ds = [] := by
            rcases Nat.eq_zero_or_pos ds.length with h | h
            · exact List.eq_nil_of_length_eq_zero h
            · obtain ⟨a, ha, _⟩ := HA.out h; cases ha
          clear Hfin Hn HT HA Hz HD hl hm hn Ho
          subst hds
          have hap := fun W ty g c' => append_nothing (P := Tryz.prog) W 36 ty 112 i0 Tryz.underlying36 HI.out.1 g c'
          go_wp2
          go_ret
          exact Gives.mk ⟨⟨_, 0, rfl, Nat.le_refl _, by omega, Digs.nil, fun h => absurd h (by simp [trim_nil])⟩, fun h => absurd h (by simp [trim_nil])⟩ ((Ext.refl _).alloc _)
        | some a =>
          clear Hz hm
          go_wp2_with (at_builtin; refine wpList_append_own _ rfl _ _ 36 rfl w.heap.size 112 i0 (.int .u32 0) 1 4 Tryz.underlying36 HI.out.1 HI.out.2.1 HI.out.2.2.1 HI.out.2.2.2 rfl (by decide) _ _ _ rfl (World.ownsRow_made w #[] 0 (Nat.le_refl _) (by simp [maxLen]) rfl) a (0) c news rfl Ho.out.1 ?c1 ?c2 ?c3 ?c4 ?c5 ?_)
          case c1 => intro j u hu; exact ((Ext.refl w).alloc _).cell (Hn.out a rfl j u hu)
          case c2 => exact Ho.out.2
          try (case c3 => simp only [maxLen]; omega)
          try (case c4 => omega)
          try (case c5 => simp)
          intro v' w' hown hg _
          have Hown := Lib.hid hown; clear hown
          go_wp2
          go_ret
          refine Gives.mk (Hfin.out _ _ Hown.out) (((Ext.refl w).alloc _).grown hg ?_)
          intro k hk
          simp [Value.ownBlock] at hk
          omega
      · obtain rfl : m = k + 1 := h0
        obtain ⟨a, rfl, hcell⟩ := HA.out (by omega)
        have hcm := hcell k (by omega)
        have hb : (((ds[k]'(by omega) : Nat) : Int) == 0) = false := by simpa using hd0
        clear hcell hd0 Hz
        go_wp2_with (at_builtin; refine wpList_append_own _ rfl _ _ 36 rfl w.heap.size 112 i0 (.int .u32 0) 1 4 Tryz.underlying36 HI.out.1 HI.out.2.1 HI.out.2.2.1 HI.out.2.2.2 rfl (by decide) _ _ _ rfl (World.ownsRow_made w #[] 0 (Nat.le_refl _) (by simp [maxLen]) rfl) a (k + 1) c news rfl Ho.out.1 ?d1 ?d2 ?d3 ?d4 ?d5 ?_)
        case d1 => intro j u hu; exact ((Ext.refl w).alloc _).cell (Hn.out a rfl j u hu)
        case d2 => exact Ho.out.2
        try (case d3 => simp only [maxLen]; omega)
        try (case d4 => omega)
        try (case d5 => simp)
        intro v' w' hown hg _
        have Hown := Lib.hid hown; clear hown
        go_wp2
        go_ret
        refine Gives.mk (Hfin.out _ _ Hown.out) (((Ext.refl w).alloc _).grown hg ?_)
        intro k hk
        simp [Value.ownBlock] at hk
        omega
theorem trim_ref (v : Value) (ds : List Nat) (w : World) (h : DigV w v ds) (hn : ds.length ≤ 8796093022208) : Calls Tryz.prog 117 #[v] w (Gives w fun r w' => DigV w' r (trim ds)) :=
  Gives.imp (trim_own v ds w h hn) fun _ _ h => h.1
end Go.Proofs.YtedoifjbgokmcaaGreat
namespace Go.Proofs.YtedoifjbgokmcaaGreat
open Go.RowKit Go.Hp
theorem trim_num (v : Value) (N l : Nat) (w : World) (h : NumV w v N l) (hl : l ≤ 8796093022208) : Calls Tryz.prog 117 #[v] w (Gives w fun r w' => NatV w' r N) := by
  obtain ⟨ds, h1, rfl, h3⟩ := h
  exact Gives.imp (trim_ref v ds w h1 (by omega)) fun _ _ h => ⟨trim ds, h, trim_nv ds, trim_top ds⟩
set_option maxHeartbeats 1000000 in
theorem norm_r (v : Value) (x : Int) (w : World) (hv : HasZ w v x) : Calls Tryz.prog 103 #[v] w (Gives w fun r w' => IsZ w' r x) := by
  obtain ⟨neg, A, n, c, N, rfl, h1, h2, h3, hN, hx⟩ := hv.form
  have HN := Lib.hid hN; clear hN hv
  have Hx := Lib.hid hx; clear hx
  go_enter Tryz.func103, Tryz.ntmps103
  go_wp2_with fail
  refine Calls.mono (trim_num _ N n _ (HN.out.ext (((Ext.refl w).alloc _).alloc _)) (by omega)) ?_
  rintro e w1 ⟨r, rfl, hr, hx1⟩
  obtain ⟨A', c', rfl, q1, q2⟩ := hr.form
  have hc1 := hx1.cells
  have hf1 := hx1.frozens
  cases neg
  · skip
    have hz := IsZ.mk (neg := false) hr (fun h => by cases h)
    have ez : (if false = true then -(N : Int) else (N : Int)) = x := (by rw [Hx.out])
    rw [ez] at hz
    have Hfin := Lib.hid (fin_z hz hx1.a2 (NoDig.at_ hx1 (g := w.heap.size + 1) (by simp) (by simp [isDig])) (by omega))
    clear hr hz ez
    go_wp2
    refine bodyPost_ret (v := .agg #[.bool false, .slice A' (sz N) c']) (by simp [results, Tryz.results103, go_sem, hc1]) rfl ?_
    exact Hfin.out
  · by_cases h0 : N = 0
    · have hb : decide (0 < sz N) = false := by subst h0; rfl
      have H0 := Lib.hid h0; clear h0
      have hz := IsZ.mk (neg := false) hr (fun h => by cases h)
      have ez : (if false = true then -(N : Int) else (N : Int)) = x := (by rw [Hx.out, H0.out]; simp)
      rw [ez] at hz
      have Hfin := Lib.hid (fin_z hz hx1.a2 (NoDig.at_ hx1 (g := w.heap.size + 1) (by simp) (by simp [isDig])) (by omega))
      clear hr hz ez
      go_wp2
      refine bodyPost_ret (v := .agg #[.bool false, .slice A' (sz N) c']) (by simp [results, Tryz.results103, go_sem, hc1]) rfl ?_
      exact Hfin.out
    · have hb : decide (0 < sz N) = true := by have := sz_pos h0; simpa using this
      have H0 := Lib.hid h0; clear h0
      have hz := IsZ.mk (neg := true) hr (fun _ => H0.out)
      have ez : (if true = true then -(N : Int) else (N : Int)) = x := (by rw [Hx.out])
      rw [ez] at hz
      have Hfin := Lib.hid (fin_z hz hx1.a2 (NoDig.at_ hx1 (g := w.heap.size + 1) (by simp) (by simp [isDig])) (by omega))
      clear hr hz ez
      go_wp2
      refine bodyPost_ret (v := .agg #[.bool true, .slice A' (sz N) c']) (by simp [results, Tryz.results103, go_sem, hc1]) rfl ?_
      exact Hfin.out
theorem signed_r (x : Int) (neg : Bool) (v : Value) (N l : Nat) (w : World) (hx : x = if neg then -(N : Int) else N) (hv : NumV w v N l) (hl : l ≤ 1099511627776) : Calls Tryz.prog 115 #[.bool neg, v] w (Gives w fun r w' => IsZ w' r x) := by
  obtain ⟨ds, h1, hnv, h3⟩ := hv
  have hz : HasZ w (.agg #[.bool neg, v]) x := ⟨neg, ds, ⟨v, rfl, h1⟩, by unfold iv; rw [hnv, hx], by omega⟩
  have Hz := Lib.hid hz; clear hz
  obtain ⟨A, c, rfl, hl', hc, hA⟩ := h1
  clear hx hnv hA
  go_enter Tryz.func115, Tryz.ntmps115
  go_wp2_with fail
  refine Calls.mono (norm_r _ x _ (Hz.out.ext ((Ext.refl w).alloc _))) ?_
  rintro e w1 ⟨r, rfl, hr, hx1⟩
  obtain ⟨b5, A5, n5, c5, rfl⟩ := hr.cells
  have hc1 := hx1.cells
  have hf1 := hx1.frozens
  have Hfin := Lib.hid (fin_z hr hx1.a1 (NoDig.at_ hx1 (g := w.heap.size + 0) (by simp) (by simp [isDig])) (by omega))
  clear hr
  go_wp2
  refine bodyPost_ret (v := .agg #[.bool b5, .slice A5 n5 c5]) (by simp [results, Tryz.results115, go_sem, hc1]) rfl ?_
  exact Hfin.out
theorem sign_r (v : Value) (x : Int) (w : World) (hv : HasZ w v x) : Calls Tryz.prog 92 #[v] w (Gives w fun r _ => r = .int .i64 x.sign) := by
  have HV := Lib.hid hv
  obtain ⟨neg, A, n, c, N, rfl, h1, h2, h3, hN, hx⟩ := hv.form
  clear hN hv hx
  go_enter Tryz.func92, Tryz.ntmps92
  go_wp2_with fail
  refine Calls.mono (norm_r _ x _ (HV.out.ext ((Ext.refl w).alloc _))) ?_
  rintro e w1 ⟨r, rfl, hr, hx1⟩
  obtain ⟨A5, c5, rfl, q1, q2, hr2⟩ := hr.form
  clear hr hr2
  rcases Int.lt_trichotomy x 0 with h | h | h
  · have hb : (((sz x.natAbs : Nat) : Int) == 0) = false := by have := sz_pos (n := x.natAbs) (by omega); simp; omega
    have hb2 : decide (x < 0) = true := by simpa using h
    have Hs := Lib.hid (Int.sign_eq_neg_one_of_neg h); clear h
    go_wp2
    go_ret
    exact Gives.mk (by rw [Hs.out]; rfl) (hx1.a1.alloc _)
  · have hb : (((sz x.natAbs : Nat) : Int) == 0) = true := by subst h; rfl
    have Hs := Lib.hid (show x.sign = 0 by rw [h]; rfl); clear h
    go_wp2
    go_ret
    exact Gives.mk (by rw [Hs.out]; rfl) (hx1.a1.alloc _)
  · have hb : (((sz x.natAbs : Nat) : Int) == 0) = false := by have := sz_pos (n := x.natAbs) (by omega); simp; omega
    have hb2 : decide (x < 0) = false := by simp; omega
    have Hs := Lib.hid (Int.sign_eq_one_of_pos h); clear h
    go_wp2
    go_ret
    exact Gives.mk (by rw [Hs.out]; rfl) (hx1.a1.alloc _)
theorem neg_r (v : Value) (x : Int) (w : World) (hv : HasZ w v x) : Calls Tryz.prog 93 #[v] w (Gives w fun r w' => IsZ w' r (-x)) := by
  obtain ⟨neg, A, n, c, N, rfl, h1, h2, h3, hN, hx⟩ := hv.form
  have HN := Lib.hid hN; clear hN hv
  have Hx := Lib.hid (show -x = if (!neg) = true then -(N : Int) else N by rw [hx]; cases neg <;> simp); clear hx
  go_enter Tryz.func93, Tryz.ntmps93
  go_wp2_with fail
  refine Calls.mono (signed_r (-x) (!neg) _ N n _ Hx.out (HN.out.ext (((Ext.refl w).alloc _).alloc _)) h3) ?_
  rintro e w1 ⟨r, rfl, hr, hx1⟩
  obtain ⟨b5, A5, n5, c5, rfl⟩ := hr.cells
  have hc1 := hx1.cells
  have hf1 := hx1.frozens
  have Hfin := Lib.hid (fin_z hr hx1.a2 (NoDig.at_ hx1 (g := w.heap.size + 1) (by simp) (by simp [isDig])) (by omega))
  clear hr
  go_wp2
  refine bodyPost_ret (v := .agg #[.bool b5, .slice A5 n5 c5]) (by simp [results, Tryz.results93, go_sem, hc1]) rfl ?_
  exact Hfin.out
theorem abs_r (v : Value) (x : Int) (w : World) (hv : HasZ w v x) : Calls Tryz.prog 118 #[v] w (Gives w fun r w' => IsZ w' r (x.natAbs : Nat)) := by
  obtain ⟨neg, A, n, c, N, rfl, h1, h2, h3, hN, hx⟩ := hv.form
  have HN := Lib.hid hN; clear hN hv
  have Hx := Lib.hid (show ((x.natAbs : Nat) : Int) = if false = true then -(N : Int) else N by rw [hx]; cases neg <;> simp); clear hx
  go_enter Tryz.func118, Tryz.ntmps118
  go_wp2_with fail
  refine Calls.mono (signed_r _ false _ N n _ Hx.out (HN.out.ext (((Ext.refl w).alloc _).alloc _)) h3) ?_
  rintro e w1 ⟨r, rfl, hr, hx1⟩
  obtain ⟨b5, A5, n5, c5, rfl⟩ := hr.cells
  have hc1 := hx1.cells
  have hf1 := hx1.frozens
  have Hfin := Lib.hid (fin_z hr hx1.a2 (NoDig.at_ hx1 (g := w.heap.size + 1) (by simp) (by simp [isDig])) (by omega))
  clear hr
  go_wp2
  refine bodyPost_ret (v := .agg #[.bool b5, .slice A5 n5 c5]) (by simp [results, Tryz.results118, go_sem, hc1]) rfl ?_
  exact Hfin.out
theorem of_r (x : Int) (w : World) (h1 : -9223372036854775808 ≤ x) (h2 : x < 9223372036854775808) : Calls Tryz.prog 83 #[.int .i64 x] w (Gives w fun r w' => IsZ w' r x) := by
  have key : ∀ (n g : Nat) (W : World) (t : TypeId) (a b : Int), a = (n % 4294967296 : Nat) → b = (n / 4294967296 : Nat) → g = W.heap.size → n < 18446744073709551616 → NumV (W.alloc (.cells #[.int .u32 a, .int .u32 b] t)) (.slice (some ⟨g, 0, none⟩) 2 2) n 2 := by
    intro n g W t a b ha hb hg hn
    subst ha hb hg
    have hb : DBlk (W.alloc (.cells #[.int .u32 (n % 4294967296 : Nat), .int .u32 (n / 4294967296 : Nat)] t)) W.heap.size t [n % 4294967296, n / 4294967296] := dblk_lit2 (heap_alloc_new W _)
    exact ⟨_, hb.digv (Digs.cons (by omega) (Digs.cons (by omega) Digs.nil)) (c := 2) (by simp) (by omega), by simp [nv_cons, nv_nil]; omega, by simp⟩
  have Hk := Lib.hid key; clear key
  go_enter Tryz.func83, Tryz.ntmps83
  by_cases hneg : x < 0
  · have hb : decide (x < 0) = true := by simpa using hneg
    have hw := wrap_neg h1 hneg
    have Hw := Lib.hid hw; clear hw
    go_wp2_with fail
    refine Calls.mono (signed_r x true _ x.natAbs 2 _ (by rw [if_pos rfl]; omega) (Hk.out x.natAbs _ _ _ _ _ (by rw [Hw.out]; omega) (by rw [Hw.out]; omega) (by simp) (by omega)) (by omega)) ?_
    rintro e w1 ⟨r, rfl, hr, hx1⟩
    replace hx1 := hx1.a1
    obtain ⟨b5, A5, n5, c5, rfl⟩ := hr.cells
    have hc1 := hx1.cells
    have hf1 := hx1.frozens
    have Hfin := Lib.hid (fin_z hr hx1.a1 (NoDig.at_ hx1 (g := w.heap.size + 0) (by simp) (by simp [isDig])) (by omega))
    clear hr
    go_wp2
    refine bodyPost_ret (v := .agg #[.bool b5, .slice A5 n5 c5]) (by simp [results, Tryz.results83, go_sem, hc1]) rfl ?_
    exact Hfin.out
  · have hb : decide (x < 0) = false := by simpa using hneg
    go_wp2_with fail
    refine Calls.mono (signed_r x false _ x.natAbs 2 _ (by rw [if_neg (by decide)]; omega) (Hk.out x.natAbs _ _ _ _ _ (by omega) (by omega) (by simp) (by omega)) (by omega)) ?_
    rintro e w1 ⟨r, rfl, hr, hx1⟩
    replace hx1 := hx1.a1
    obtain ⟨b5, A5, n5, c5, rfl⟩ := hr.cells
    have hc1 := hx1.cells
    have hf1 := hx1.frozens
    have Hfin := Lib.hid (fin_z hr hx1.a1 (NoDig.at_ hx1 (g := w.heap.size + 0) (by simp) (by simp [isDig])) (by omega))
    clear hr
    go_wp2
    refine bodyPost_ret (v := .agg #[.bool b5, .slice A5 n5 c5]) (by simp [results, Tryz.results83, go_sem, hc1]) rfl ?_
    exact Hfin.out
end Go.Proofs.YtedoifjbgokmcaaGreat
namespace Go.Hp
open Go.RowKit
/-- The form of a normal integer, with its digits. -/
theorem IsZ.digs {w : World} {v : Value} {x : Int} (h : IsZ w v x) : ∃ A c ds, v = .agg #[.bool (decide (x < 0)), .slice A (sz x.natAbs) c] ∧ DigAt w A ds ∧ ds.length = sz x.natAbs ∧ nv ds = x.natAbs ∧ Digs ds ∧ sz x.natAbs ≤ c ∧ c ≤ 9223372036854775807 := by
  obtain ⟨A, c, e, h1, h2, hN⟩ := h.form
  obtain ⟨ds, hD, hn, ht, hl⟩ := hN.len
  obtain ⟨A', c', he, q1, q2, q3⟩ := hD
  simp only [Value.slice.injEq] at he
  obtain ⟨rfl, _, _⟩ := he
  exact ⟨A, c, ds, e, q3, hl, hn, q3.1, h1, h2⟩
theorem same_abs {x y : Int} (h : x.natAbs = y.natAbs) (hs : decide (x < 0) = decide (y < 0)) : x = y := by
  by_cases hx : x < 0 <;> by_cases hy : y < 0 <;> simp [hx, hy] at hs <;> omega
theorem digs_eq {ds es : List Nat} (hl : ds.length = es.length) (h : ∀ j, j < ds.length → dg ds j = dg es j) : ds = es := by
  apply List.ext_getElem hl
  intro i h1 h2
  have := h i h1
  rwa [dg_lt h1, dg_lt h2] at this
end Go.Hp
namespace Go.Proofs.YtedoifjbgokmcaaGreat
open Go.RowKit Go.Hp
set_option maxHeartbeats 1000000 in
theorem same_r (v u : Value) (x y : Int) (w : World) (hv : IsZ w v x) (hu : IsZ w u y) : Calls Tryz.prog 60 #[v, u] w (Gives w fun r _ => r = .bool (decide (x = y))) := by
  obtain ⟨A, c, ds, rfl, hA, hl, hn, hd, hc, hm⟩ := hv.digs
  obtain ⟨E, d, es, rfl, hE, kl, kn, he, kc, km⟩ := hu.digs
  have HA := Lib.hid hA; have HE := Lib.hid hE
  have HL := Lib.hid (And.intro hl (And.intro hn (And.intro kl (And.intro kn (And.intro hd he)))))
  clear hA hE hl hn kl kn hd he hv hu
  obtain ⟨sx, hsx⟩ : ∃ sx, sx = decide (x < 0) := ⟨_, rfl⟩
  obtain ⟨sy, hsy⟩ : ∃ sy, sy = decide (y < 0) := ⟨_, rfl⟩
  rw [← hsx, ← hsy]
  have Hs := Lib.hid (And.intro hsx hsy); clear hsx hsy
  obtain ⟨bx, hbx⟩ : ∃ bx, bx = decide (x = y) := ⟨_, rfl⟩
  rw [← hbx]
  have Hb := Lib.hid hbx; clear hbx
  by_cases hs : sx = sy
  · obtain rfl : sx = sy := hs
    by_cases hsz : sz x.natAbs = sz y.natAbs
    · have Hz := Lib.hid hsz
      generalize hny : sz y.natAbs = ny at *
      subst hsz
      generalize hnx : sz x.natAbs = nx at *
      have Hnn := Lib.hid (And.intro hnx hny); clear hnx hny
      go_enter Tryz.func60, Tryz.ntmps60
      go_wp2
      go_loopw [5] (fun iv wr => ∃ k : Nat, k ≤ nx ∧ iv = .int .i64 k ∧ (∀ j, j < k → dg ds j = dg es j) ∧ Ext ((w.alloc (.cells #[.bool sx, .slice A nx c] 38)).alloc (.cells #[.bool sx, .slice E nx d] 38)) wr) (fun iv _ => nx - (intOf iv).toNat)
      case atStart => exact ⟨0, Nat.zero_le _, rfl, fun j h => by omega, Ext.refl _⟩
      case round =>
        obtain ⟨k, hk, rfl, heq, hx⟩ := hrel
        have Heq := Lib.hid heq; clear heq
        have ca0 := hx.a1.box (g := w.heap.size) (i := 0) rfl rfl
        have ca1 := hx.a1.box (g := w.heap.size) (i := 1) rfl rfl
        have cb0 := hx.box (g := w.heap.size + 1) (i := 0) (by simp) rfl
        have cb1 := hx.box (g := w.heap.size + 1) (i := 1) (by simp) rfl
        by_cases hkn : k < nx
        · obtain ⟨a, rfl, q0⟩ := dig_at HA.out (k := k) (by have := HL.out.1; omega)
          obtain ⟨b, rfl, q1⟩ := dig_at HE.out (k := k) (by have := HL.out.2.2.1; omega)
          replace q0 := hx.a2.cell q0
          replace q1 := hx.a2.cell q1
          generalize hxx : dg ds k = p at *
          generalize hyy : dg es k = q at *
          have Hx := Lib.hid hxx; have Hy := Lib.hid hyy; clear hxx hyy
          by_cases hpq : p = q
          · have hb3 : (((p : Nat) : Int) != (q : Nat)) = false := by simp [hpq]
            have Hpq := Lib.hid hpq; clear hpq
            go_wp2_with fail
            refine wp_region_par (k := 10) (D := [27, 28, 29, 30, 31, 32, 33, 34, 35, 36]) (T := [[], [0], [], [0, 1, 2], [0, 1, 2, 3], [], [5], [], [5, 6, 7], [5, 6, 7, 8], [0, 1, 2, 3, 4, 5, 6, 7, 8, 9]]) (EK := [2, 5, 3]) (EV := [?e1x0, ?e1x1, ?e1x2]) (VL := [(kv ?v1x0), (kv ?v1x1), (kv ?v1x2), (kv ?v1x3), (kv ?v1x4), (kv ?v1x5), (kv ?v1x6), (kv ?v1x7), (kv ?v1x8), (kv ?v1x9)]) (FL := fun γ w' => [True, True, True, True, True, True, True, True, True, True]) ?hE1 (by kernel_rfl) (by kernel_rfl) (by rfl) (by kernel_rfl) ?hloc1 ?hmono1 ?hstep1 ?htail1
            case hE1 => refine ⟨?_, ?_, ?_, trivial⟩ <;> (simp only [List.getElem?_toArray, List.getElem?_cons_succ, List.getElem?_cons_zero]; rfl)
            case hstep1 =>
              refine ⟨⟨⟨⟨⟨⟨⟨⟨⟨⟨trivial, ?_⟩, ?_⟩, ?_⟩, ?_⟩, ?_⟩, ?_⟩, ?_⟩, ?_⟩, ?_⟩, ?_⟩
              · intro γ w' he hf; clear hf; refine ⟨trivial, ?_⟩; intro R hR
                have hc := he.cells
                go_simp
                (try go_ints); (try (rw [if_neg (by omega)])); (try (rw [if_pos (by omega)])); (try go_simp); (try go_ints)
                refine hR _ _ (Ext.refl _) ?_ trivial
                rfl
              · intro γ w' he hf; clear hf; refine ⟨trivial, ?_⟩; intro R hR
                have hc := he.cells
                have cq0 := he.cell ca0
                have cq1 := he.cell ca1
                have cq2 := he.cell cb0
                have cq3 := he.cell cb1
                have cq4 := he.cell q0
                have cq5 := he.cell q1
                go_simp
                (try go_ints); (try (rw [if_neg (by omega)])); (try (rw [if_pos (by omega)])); (try go_simp); (try go_ints)
                refine hR _ _ (Ext.refl _) ?_ trivial
                rfl
              · intro γ w' he hf; clear hf; refine ⟨trivial, ?_⟩; intro R hR
                have hc := he.cells
                go_simp
                (try go_ints); (try (rw [if_neg (by omega)])); (try (rw [if_pos (by omega)])); (try go_simp); (try go_ints)
                refine hR _ _ (Ext.refl _) ?_ trivial
                rfl
              · intro γ w' he hf; clear hf; refine ⟨trivial, ?_⟩; intro R hR
                have hc := he.cells
                go_simp
                (try go_ints); (try (rw [if_neg (by omega)])); (try (rw [if_pos (by omega)])); (try go_simp); (try go_ints)
                refine hR _ _ (Ext.refl _) ?_ trivial
                rfl
              · intro γ w' he hf; clear hf; refine ⟨trivial, ?_⟩; intro R hR
                have hc := he.cells
                have cq0 := he.cell ca0
                have cq1 := he.cell ca1
                have cq2 := he.cell cb0
                have cq3 := he.cell cb1
                have cq4 := he.cell q0
                have cq5 := he.cell q1
                go_simp
                (try go_ints); (try (rw [if_neg (by omega)])); (try (rw [if_pos (by omega)])); (try go_simp); (try go_ints)
                refine hR _ _ (Ext.refl _) ?_ trivial
                rfl
              · intro γ w' he hf; clear hf; refine ⟨trivial, ?_⟩; intro R hR
                have hc := he.cells
                go_simp
                (try go_ints); (try (rw [if_neg (by omega)])); (try (rw [if_pos (by omega)])); (try go_simp); (try go_ints)
                refine hR _ _ (Ext.refl _) ?_ trivial
                rfl
              · intro γ w' he hf; clear hf; refine ⟨trivial, ?_⟩; intro R hR
                have hc := he.cells
                have cq0 := he.cell ca0
                have cq1 := he.cell ca1
                have cq2 := he.cell cb0
                have cq3 := he.cell cb1
                have cq4 := he.cell q0
                have cq5 := he.cell q1
                go_simp
                (try go_ints); (try (rw [if_neg (by omega)])); (try (rw [if_pos (by omega)])); (try go_simp); (try go_ints)
                refine hR _ _ (Ext.refl _) ?_ trivial
                rfl
              · intro γ w' he hf; clear hf; refine ⟨trivial, ?_⟩; intro R hR
                have hc := he.cells
                go_simp
                (try go_ints); (try (rw [if_neg (by omega)])); (try (rw [if_pos (by omega)])); (try go_simp); (try go_ints)
                refine hR _ _ (Ext.refl _) ?_ trivial
                rfl
              · intro γ w' he hf; clear hf; refine ⟨trivial, ?_⟩; intro R hR
                have hc := he.cells
                go_simp
                (try go_ints); (try (rw [if_neg (by omega)])); (try (rw [if_pos (by omega)])); (try go_simp); (try go_ints)
                refine hR _ _ (Ext.refl _) ?_ trivial
                rfl
              · intro γ w' he hf; clear hf; refine ⟨trivial, ?_⟩; intro R hR
                have hc := he.cells
                have cq0 := he.cell ca0
                have cq1 := he.cell ca1
                have cq2 := he.cell cb0
                have cq3 := he.cell cb1
                have cq4 := he.cell q0
                have cq5 := he.cell q1
                go_simp
                (try go_ints); (try (rw [if_neg (by omega)])); (try (rw [if_pos (by omega)])); (try go_simp); (try go_ints)
                refine hR _ _ (Ext.refl _) ?_ trivial
                rfl
            case hloc1 =>
              exact ⟨⟨⟨⟨⟨⟨⟨⟨⟨⟨trivial, (fun γ γ' h => ⟨rfl, fun _ => rfl⟩)⟩, (fun γ γ' h => ⟨rfl, fun _ => rfl⟩)⟩, (fun γ γ' h => ⟨rfl, fun _ => rfl⟩)⟩, (fun γ γ' h => ⟨rfl, fun _ => rfl⟩)⟩, (fun γ γ' h => ⟨rfl, fun _ => rfl⟩)⟩, (fun γ γ' h => ⟨rfl, fun _ => rfl⟩)⟩, (fun γ γ' h => ⟨rfl, fun _ => rfl⟩)⟩, (fun γ γ' h => ⟨rfl, fun _ => rfl⟩)⟩, (fun γ γ' h => ⟨rfl, fun _ => rfl⟩)⟩, (fun γ γ' h => ⟨rfl, fun _ => rfl⟩)⟩
            case hmono1 =>
              exact ⟨⟨⟨⟨⟨⟨⟨⟨⟨⟨trivial, (fun γ wA w' e h => h)⟩, (fun γ wA w' e h => h)⟩, (fun γ wA w' e h => h)⟩, (fun γ wA w' e h => h)⟩, (fun γ wA w' e h => h)⟩, (fun γ wA w' e h => h)⟩, (fun γ wA w' e h => h)⟩, (fun γ wA w' e h => h)⟩, (fun γ wA w' e h => h)⟩, (fun γ wA w' e h => h)⟩
            intro γ w1 hx1 hF
            clear hF
            simp only [fillAll, gV, kv, List.getD_cons_zero, List.getD_cons_succ, Act.put, List.setIfInBounds_toArray, List.set_cons_zero, List.set_cons_succ, List.toList_toArray, List.drop_succ_cons, List.drop_zero, List.drop_nil, Nat.zero_add, Nat.reduceAdd]
            clear γ
            go_wp2
            go_roundw
            case rel => exact ⟨k + 1, by omega, by go_num, fun j h => by
              rcases Nat.eq_or_lt_of_le (Nat.le_of_lt_succ h) with e | e
              · rw [e, Hx.out, Hy.out]; exact Hpq.out
              · exact Heq.out j e, hx.trans hx1⟩
            case measure => simp [intOf]; omega
          · have hb3 : (((p : Nat) : Int) != (q : Nat)) = true := by simp; omega
            have Hpq := Lib.hid hpq; clear hpq
            go_wp2_with fail
            refine wp_region_par (k := 10) (D := [27, 28, 29, 30, 31, 32, 33, 34, 35, 36]) (T := [[], [0], [], [0, 1, 2], [0, 1, 2, 3], [], [5], [], [5, 6, 7], [5, 6, 7, 8], [0, 1, 2, 3, 4, 5, 6, 7, 8, 9]]) (EK := [2, 5, 3]) (EV := [?e2x0, ?e2x1, ?e2x2]) (VL := [(kv ?v2x0), (kv ?v2x1), (kv ?v2x2), (kv ?v2x3), (kv ?v2x4), (kv ?v2x5), (kv ?v2x6), (kv ?v2x7), (kv ?v2x8), (kv ?v2x9)]) (FL := fun γ w' => [True, True, True, True, True, True, True, True, True, True]) ?hE2 (by kernel_rfl) (by kernel_rfl) (by rfl) (by kernel_rfl) ?hloc2 ?hmono2 ?hstep2 ?htail2
            case hE2 => refine ⟨?_, ?_, ?_, trivial⟩ <;> (simp only [List.getElem?_toArray, List.getElem?_cons_succ, List.getElem?_cons_zero]; rfl)
            case hstep2 =>
              refine ⟨⟨⟨⟨⟨⟨⟨⟨⟨⟨trivial, ?_⟩, ?_⟩, ?_⟩, ?_⟩, ?_⟩, ?_⟩, ?_⟩, ?_⟩, ?_⟩, ?_⟩
              · intro γ w' he hf; clear hf; refine ⟨trivial, ?_⟩; intro R hR
                have hc := he.cells
                go_simp
                (try go_ints); (try (rw [if_neg (by omega)])); (try (rw [if_pos (by omega)])); (try go_simp); (try go_ints)
                refine hR _ _ (Ext.refl _) ?_ trivial
                rfl
              · intro γ w' he hf; clear hf; refine ⟨trivial, ?_⟩; intro R hR
                have hc := he.cells
                have cq0 := he.cell ca0
                have cq1 := he.cell ca1
                have cq2 := he.cell cb0
                have cq3 := he.cell cb1
                have cq4 := he.cell q0
                have cq5 := he.cell q1
                go_simp
                (try go_ints); (try (rw [if_neg (by omega)])); (try (rw [if_pos (by omega)])); (try go_simp); (try go_ints)
                refine hR _ _ (Ext.refl _) ?_ trivial
                rfl
              · intro γ w' he hf; clear hf; refine ⟨trivial, ?_⟩; intro R hR
                have hc := he.cells
                go_simp
                (try go_ints); (try (rw [if_neg (by omega)])); (try (rw [if_pos (by omega)])); (try go_simp); (try go_ints)
                refine hR _ _ (Ext.refl _) ?_ trivial
                rfl
              · intro γ w' he hf; clear hf; refine ⟨trivial, ?_⟩; intro R hR
                have hc := he.cells
                go_simp
                (try go_ints); (try (rw [if_neg (by omega)])); (try (rw [if_pos (by omega)])); (try go_simp); (try go_ints)
                refine hR _ _ (Ext.refl _) ?_ trivial
                rfl
              · intro γ w' he hf; clear hf; refine ⟨trivial, ?_⟩; intro R hR
                have hc := he.cells
                have cq0 := he.cell ca0
                have cq1 := he.cell ca1
                have cq2 := he.cell cb0
                have cq3 := he.cell cb1
                have cq4 := he.cell q0
                have cq5 := he.cell q1
                go_simp
                (try go_ints); (try (rw [if_neg (by omega)])); (try (rw [if_pos (by omega)])); (try go_simp); (try go_ints)
                refine hR _ _ (Ext.refl _) ?_ trivial
                rfl
              · intro γ w' he hf; clear hf; refine ⟨trivial, ?_⟩; intro R hR
                have hc := he.cells
                go_simp
                (try go_ints); (try (rw [if_neg (by omega)])); (try (rw [if_pos (by omega)])); (try go_simp); (try go_ints)
                refine hR _ _ (Ext.refl _) ?_ trivial
                rfl
              · intro γ w' he hf; clear hf; refine ⟨trivial, ?_⟩; intro R hR
                have hc := he.cells
                have cq0 := he.cell ca0
                have cq1 := he.cell ca1
                have cq2 := he.cell cb0
                have cq3 := he.cell cb1
                have cq4 := he.cell q0
                have cq5 := he.cell q1
                go_simp
                (try go_ints); (try (rw [if_neg (by omega)])); (try (rw [if_pos (by omega)])); (try go_simp); (try go_ints)
                refine hR _ _ (Ext.refl _) ?_ trivial
                rfl
              · intro γ w' he hf; clear hf; refine ⟨trivial, ?_⟩; intro R hR
                have hc := he.cells
                go_simp
                (try go_ints); (try (rw [if_neg (by omega)])); (try (rw [if_pos (by omega)])); (try go_simp); (try go_ints)
                refine hR _ _ (Ext.refl _) ?_ trivial
                rfl
              · intro γ w' he hf; clear hf; refine ⟨trivial, ?_⟩; intro R hR
                have hc := he.cells
                go_simp
                (try go_ints); (try (rw [if_neg (by omega)])); (try (rw [if_pos (by omega)])); (try go_simp); (try go_ints)
                refine hR _ _ (Ext.refl _) ?_ trivial
                rfl
              · intro γ w' he hf; clear hf; refine ⟨trivial, ?_⟩; intro R hR
                have hc := he.cells
                have cq0 := he.cell ca0
                have cq1 := he.cell ca1
                have cq2 := he.cell cb0
                have cq3 := he.cell cb1
                have cq4 := he.cell q0
                have cq5 := he.cell q1
                go_simp
                (try go_ints); (try (rw [if_neg (by omega)])); (try (rw [if_pos (by omega)])); (try go_simp); (try go_ints)
                refine hR _ _ (Ext.refl _) ?_ trivial
                rfl
            case hloc2 =>
              exact ⟨⟨⟨⟨⟨⟨⟨⟨⟨⟨trivial, (fun γ γ' h => ⟨rfl, fun _ => rfl⟩)⟩, (fun γ γ' h => ⟨rfl, fun _ => rfl⟩)⟩, (fun γ γ' h => ⟨rfl, fun _ => rfl⟩)⟩, (fun γ γ' h => ⟨rfl, fun _ => rfl⟩)⟩, (fun γ γ' h => ⟨rfl, fun _ => rfl⟩)⟩, (fun γ γ' h => ⟨rfl, fun _ => rfl⟩)⟩, (fun γ γ' h => ⟨rfl, fun _ => rfl⟩)⟩, (fun γ γ' h => ⟨rfl, fun _ => rfl⟩)⟩, (fun γ γ' h => ⟨rfl, fun _ => rfl⟩)⟩, (fun γ γ' h => ⟨rfl, fun _ => rfl⟩)⟩
            case hmono2 =>
              exact ⟨⟨⟨⟨⟨⟨⟨⟨⟨⟨trivial, (fun γ wA w' e h => h)⟩, (fun γ wA w' e h => h)⟩, (fun γ wA w' e h => h)⟩, (fun γ wA w' e h => h)⟩, (fun γ wA w' e h => h)⟩, (fun γ wA w' e h => h)⟩, (fun γ wA w' e h => h)⟩, (fun γ wA w' e h => h)⟩, (fun γ wA w' e h => h)⟩, (fun γ wA w' e h => h)⟩
            intro γ w1 hx1 hF
            clear hF
            simp only [fillAll, gV, kv, List.getD_cons_zero, List.getD_cons_succ, Act.put, List.setIfInBounds_toArray, List.set_cons_zero, List.set_cons_succ, List.toList_toArray, List.drop_succ_cons, List.drop_zero, List.drop_nil, Nat.zero_add, Nat.reduceAdd]
            clear γ
            go_wp2
            go_ret
            refine Gives.mk ?_ (hx.a2.trans hx1)
            rw [Hb.out]
            have : ¬ x = y := by
              rintro rfl
              have e : ds = es := digs_inj HL.out.2.2.2.2.1 HL.out.2.2.2.2.2 (by have := HL.out.1; have := HL.out.2.2.1; have := Hz.out; omega) (by rw [HL.out.2.1, HL.out.2.2.2.1])
              exact Hpq.out (by rw [← Hx.out, ← Hy.out, e])
            simp [this]
        · obtain rfl : k = nx := by omega
          have hdone : x = y := by
            have e := digs_eq (ds := ds) (es := es) (by have := HL.out.1; have := HL.out.2.2.1; have := Hz.out; omega) (fun j hj => Heq.out j (by have := HL.out.1; omega))
            exact same_abs (by rw [← HL.out.2.1, ← HL.out.2.2.2.1, e]) (Hs.out.1 ▸ Hs.out.2)
          have Hd := Lib.hid hdone; clear hdone
          go_wp2
          go_ret
          exact Gives.mk (by rw [Hb.out, decide_eq_true Hd.out]; rfl) hx.a2
    · have hb2 : (((sz x.natAbs : Nat) : Int) != (sz y.natAbs : Nat)) = true := by simp; omega
      have hne : bx = false := by rw [Hb.out]; simp; rintro rfl; exact hsz rfl
      subst hne
      clear hsz
      go_enter Tryz.func60, Tryz.ntmps60
      go_wp2
      go_ret
      exact Gives.mk rfl (((Ext.refl w).alloc _).alloc _)
  · have hne : bx = false := by rw [Hb.out]; simp; rintro rfl; exact hs (Hs.out.1.trans Hs.out.2.symm)
    subst hne
    obtain rfl : sy = !sx := by cases sx <;> cases sy <;> simp_all
    clear hs
    cases sx
    all_goals
      go_enter Tryz.func60, Tryz.ntmps60
      go_wp2
      go_ret
      exact Gives.mk rfl (((Ext.refl w).alloc _).alloc _)
set_option maxHeartbeats 1000000 in
theorem sameint_b (v u : Value) (x y : Int) (w : World) (hv : IsZ w v x) (hu : IsZ w u y) : Calls Tryz.prog 89 #[v, u] w (Gives w fun r _ => r = .bool (decide (x = y))) := by
  obtain ⟨A, c, ds, rfl, hA, hl, hn, hd, hc, hm⟩ := hv.digs
  obtain ⟨E, d, es, rfl, hE, kl, kn, he, kc, km⟩ := hu.digs
  have HA := Lib.hid hA; have HE := Lib.hid hE
  have HL := Lib.hid (And.intro hl (And.intro hn (And.intro kl (And.intro kn (And.intro hd he)))))
  clear hA hE hl hn kl kn hd he hv hu
  obtain ⟨sx, hsx⟩ : ∃ sx, sx = decide (x < 0) := ⟨_, rfl⟩
  obtain ⟨sy, hsy⟩ : ∃ sy, sy = decide (y < 0) := ⟨_, rfl⟩
  rw [← hsx, ← hsy]
  have Hs := Lib.hid (And.intro hsx hsy); clear hsx hsy
  obtain ⟨bx, hbx⟩ : ∃ bx, bx = decide (x = y) := ⟨_, rfl⟩
  rw [← hbx]
  have Hb := Lib.hid hbx; clear hbx
  by_cases hs : sx = sy
  · obtain rfl : sx = sy := hs
    by_cases hsz : sz x.natAbs = sz y.natAbs
    · have Hz := Lib.hid hsz
      generalize hny : sz y.natAbs = ny at *
      subst hsz
      generalize hnx : sz x.natAbs = nx at *
      have Hnn := Lib.hid (And.intro hnx hny); clear hnx hny
      go_enter Tryz.func89, Tryz.ntmps89
      go_wp2
      go_loopw [5] (fun iv wr => ∃ k : Nat, k ≤ nx ∧ iv = .int .i64 k ∧ (∀ j, j < k → dg ds j = dg es j) ∧ Ext ((w.alloc (.cells #[.bool sx, .slice A nx c] 38)).alloc (.cells #[.bool sx, .slice E nx d] 38)) wr) (fun iv _ => nx - (intOf iv).toNat)
      case atStart => exact ⟨0, Nat.zero_le _, rfl, fun j h => by omega, Ext.refl _⟩
      case round =>
        obtain ⟨k, hk, rfl, heq, hx⟩ := hrel
        have Heq := Lib.hid heq; clear heq
        have ca0 := hx.a1.box (g := w.heap.size) (i := 0) rfl rfl
        have ca1 := hx.a1.box (g := w.heap.size) (i := 1) rfl rfl
        have cb0 := hx.box (g := w.heap.size + 1) (i := 0) (by simp) rfl
        have cb1 := hx.box (g := w.heap.size + 1) (i := 1) (by simp) rfl
        by_cases hkn : k < nx
        · obtain ⟨a, rfl, q0⟩ := dig_at HA.out (k := k) (by have := HL.out.1; omega)
          obtain ⟨b, rfl, q1⟩ := dig_at HE.out (k := k) (by have := HL.out.2.2.1; omega)
          replace q0 := hx.a2.cell q0
          replace q1 := hx.a2.cell q1
          generalize hxx : dg ds k = p at *
          generalize hyy : dg es k = q at *
          have Hx := Lib.hid hxx; have Hy := Lib.hid hyy; clear hxx hyy
          by_cases hpq : p = q
          · have hb3 : (((p : Nat) : Int) != (q : Nat)) = false := by simp [hpq]
            have Hpq := Lib.hid hpq; clear hpq
            go_wp2_with fail
            refine wp_region_par (k := 10) (D := [27, 28, 29, 30, 31, 32, 33, 34, 35, 36]) (T := [[], [0], [], [0, 1, 2], [0, 1, 2, 3], [], [5], [], [5, 6, 7], [5, 6, 7, 8], [0, 1, 2, 3, 4, 5, 6, 7, 8, 9]]) (EK := [2, 5, 3]) (EV := [?e3x0, ?e3x1, ?e3x2]) (VL := [(kv ?v3x0), (kv ?v3x1), (kv ?v3x2), (kv ?v3x3), (kv ?v3x4), (kv ?v3x5), (kv ?v3x6), (kv ?v3x7), (kv ?v3x8), (kv ?v3x9)]) (FL := fun γ w' => [True, True, True, True, True, True, True, True, True, True]) ?hE3 (by kernel_rfl) (by kernel_rfl) (by rfl) (by kernel_rfl) ?hloc3 ?hmono3 ?hstep3 ?htail3
            case hE3 => refine ⟨?_, ?_, ?_, trivial⟩ <;> (simp only [List.getElem?_toArray, List.getElem?_cons_succ, List.getElem?_cons_zero]; rfl)
            case hstep3 =>
              refine ⟨⟨⟨⟨⟨⟨⟨⟨⟨⟨trivial, ?_⟩, ?_⟩, ?_⟩, ?_⟩, ?_⟩, ?_⟩, ?_⟩, ?_⟩, ?_⟩, ?_⟩
              · intro γ w' he hf; clear hf; refine ⟨trivial, ?_⟩; intro R hR
                have hc := he.cells
                go_simp
                (try go_ints); (try (rw [if_neg (by omega)])); (try (rw [if_pos (by omega)])); (try go_simp); (try go_ints)
                refine hR _ _ (Ext.refl _) ?_ trivial
                rfl
              · intro γ w' he hf; clear hf; refine ⟨trivial, ?_⟩; intro R hR
                have hc := he.cells
                have cq0 := he.cell ca0
                have cq1 := he.cell ca1
                have cq2 := he.cell cb0
                have cq3 := he.cell cb1
                have cq4 := he.cell q0
                have cq5 := he.cell q1
                go_simp
                (try go_ints); (try (rw [if_neg (by omega)])); (try (rw [if_pos (by omega)])); (try go_simp); (try go_ints)
                refine hR _ _ (Ext.refl _) ?_ trivial
                rfl
              · intro γ w' he hf; clear hf; refine ⟨trivial, ?_⟩; intro R hR
                have hc := he.cells
                go_simp
                (try go_ints); (try (rw [if_neg (by omega)])); (try (rw [if_pos (by omega)])); (try go_simp); (try go_ints)
                refine hR _ _ (Ext.refl _) ?_ trivial
                rfl
              · intro γ w' he hf; clear hf; refine ⟨trivial, ?_⟩; intro R hR
                have hc := he.cells
                go_simp
                (try go_ints); (try (rw [if_neg (by omega)])); (try (rw [if_pos (by omega)])); (try go_simp); (try go_ints)
                refine hR _ _ (Ext.refl _) ?_ trivial
                rfl
              · intro γ w' he hf; clear hf; refine ⟨trivial, ?_⟩; intro R hR
                have hc := he.cells
                have cq0 := he.cell ca0
                have cq1 := he.cell ca1
                have cq2 := he.cell cb0
                have cq3 := he.cell cb1
                have cq4 := he.cell q0
                have cq5 := he.cell q1
                go_simp
                (try go_ints); (try (rw [if_neg (by omega)])); (try (rw [if_pos (by omega)])); (try go_simp); (try go_ints)
                refine hR _ _ (Ext.refl _) ?_ trivial
                rfl
              · intro γ w' he hf; clear hf; refine ⟨trivial, ?_⟩; intro R hR
                have hc := he.cells
                go_simp
                (try go_ints); (try (rw [if_neg (by omega)])); (try (rw [if_pos (by omega)])); (try go_simp); (try go_ints)
                refine hR _ _ (Ext.refl _) ?_ trivial
                rfl
              · intro γ w' he hf; clear hf; refine ⟨trivial, ?_⟩; intro R hR
                have hc := he.cells
                have cq0 := he.cell ca0
                have cq1 := he.cell ca1
                have cq2 := he.cell cb0
                have cq3 := he.cell cb1
                have cq4 := he.cell q0
                have cq5 := he.cell q1
                go_simp
                (try go_ints); (try (rw [if_neg (by omega)])); (try (rw [if_pos (by omega)])); (try go_simp); (try go_ints)
                refine hR _ _ (Ext.refl _) ?_ trivial
                rfl
              · intro γ w' he hf; clear hf; refine ⟨trivial, ?_⟩; intro R hR
                have hc := he.cells
                go_simp
                (try go_ints); (try (rw [if_neg (by omega)])); (try (rw [if_pos (by omega)])); (try go_simp); (try go_ints)
                refine hR _ _ (Ext.refl _) ?_ trivial
                rfl
              · intro γ w' he hf; clear hf; refine ⟨trivial, ?_⟩; intro R hR
                have hc := he.cells
                go_simp
                (try go_ints); (try (rw [if_neg (by omega)])); (try (rw [if_pos (by omega)])); (try go_simp); (try go_ints)
                refine hR _ _ (Ext.refl _) ?_ trivial
                rfl
              · intro γ w' he hf; clear hf; refine ⟨trivial, ?_⟩; intro R hR
                have hc := he.cells
                have cq0 := he.cell ca0
                have cq1 := he.cell ca1
                have cq2 := he.cell cb0
                have cq3 := he.cell cb1
                have cq4 := he.cell q0
                have cq5 := he.cell q1
                go_simp
                (try go_ints); (try (rw [if_neg (by omega)])); (try (rw [if_pos (by omega)])); (try go_simp); (try go_ints)
                refine hR _ _ (Ext.refl _) ?_ trivial
                rfl
            case hloc3 =>
              exact ⟨⟨⟨⟨⟨⟨⟨⟨⟨⟨trivial, (fun γ γ' h => ⟨rfl, fun _ => rfl⟩)⟩, (fun γ γ' h => ⟨rfl, fun _ => rfl⟩)⟩, (fun γ γ' h => ⟨rfl, fun _ => rfl⟩)⟩, (fun γ γ' h => ⟨rfl, fun _ => rfl⟩)⟩, (fun γ γ' h => ⟨rfl, fun _ => rfl⟩)⟩, (fun γ γ' h => ⟨rfl, fun _ => rfl⟩)⟩, (fun γ γ' h => ⟨rfl, fun _ => rfl⟩)⟩, (fun γ γ' h => ⟨rfl, fun _ => rfl⟩)⟩, (fun γ γ' h => ⟨rfl, fun _ => rfl⟩)⟩, (fun γ γ' h => ⟨rfl, fun _ => rfl⟩)⟩
            case hmono3 =>
              exact ⟨⟨⟨⟨⟨⟨⟨⟨⟨⟨trivial, (fun γ wA w' e h => h)⟩, (fun γ wA w' e h => h)⟩, (fun γ wA w' e h => h)⟩, (fun γ wA w' e h => h)⟩, (fun γ wA w' e h => h)⟩, (fun γ wA w' e h => h)⟩, (fun γ wA w' e h => h)⟩, (fun γ wA w' e h => h)⟩, (fun γ wA w' e h => h)⟩, (fun γ wA w' e h => h)⟩
            intro γ w1 hx1 hF
            clear hF
            simp only [fillAll, gV, kv, List.getD_cons_zero, List.getD_cons_succ, Act.put, List.setIfInBounds_toArray, List.set_cons_zero, List.set_cons_succ, List.toList_toArray, List.drop_succ_cons, List.drop_zero, List.drop_nil, Nat.zero_add, Nat.reduceAdd]
            clear γ
            go_wp2
            go_roundw
            case rel => exact ⟨k + 1, by omega, by go_num, fun j h => by
              rcases Nat.eq_or_lt_of_le (Nat.le_of_lt_succ h) with e | e
              · rw [e, Hx.out, Hy.out]; exact Hpq.out
              · exact Heq.out j e, hx.trans hx1⟩
            case measure => simp [intOf]; omega
          · have hb3 : (((p : Nat) : Int) != (q : Nat)) = true := by simp; omega
            have Hpq := Lib.hid hpq; clear hpq
            go_wp2_with fail
            refine wp_region_par (k := 10) (D := [27, 28, 29, 30, 31, 32, 33, 34, 35, 36]) (T := [[], [0], [], [0, 1, 2], [0, 1, 2, 3], [], [5], [], [5, 6, 7], [5, 6, 7, 8], [0, 1, 2, 3, 4, 5, 6, 7, 8, 9]]) (EK := [2, 5, 3]) (EV := [?e4x0, ?e4x1, ?e4x2]) (VL := [(kv ?v4x0), (kv ?v4x1), (kv ?v4x2), (kv ?v4x3), (kv ?v4x4), (kv ?v4x5), (kv ?v4x6), (kv ?v4x7), (kv ?v4x8), (kv ?v4x9)]) (FL := fun γ w' => [True, True, True, True, True, True, True, True, True, True]) ?hE4 (by kernel_rfl) (by kernel_rfl) (by rfl) (by kernel_rfl) ?hloc4 ?hmono4 ?hstep4 ?htail4
            case hE4 => refine ⟨?_, ?_, ?_, trivial⟩ <;> (simp only [List.getElem?_toArray, List.getElem?_cons_succ, List.getElem?_cons_zero]; rfl)
            case hstep4 =>
              refine ⟨⟨⟨⟨⟨⟨⟨⟨⟨⟨trivial, ?_⟩, ?_⟩, ?_⟩, ?_⟩, ?_⟩, ?_⟩, ?_⟩, ?_⟩, ?_⟩, ?_⟩
              · intro γ w' he hf; clear hf; refine ⟨trivial, ?_⟩; intro R hR
                have hc := he.cells
                go_simp
                (try go_ints); (try (rw [if_neg (by omega)])); (try (rw [if_pos (by omega)])); (try go_simp); (try go_ints)
                refine hR _ _ (Ext.refl _) ?_ trivial
                rfl
              · intro γ w' he hf; clear hf; refine ⟨trivial, ?_⟩; intro R hR
                have hc := he.cells
                have cq0 := he.cell ca0
                have cq1 := he.cell ca1
                have cq2 := he.cell cb0
                have cq3 := he.cell cb1
                have cq4 := he.cell q0
                have cq5 := he.cell q1
                go_simp
                (try go_ints); (try (rw [if_neg (by omega)])); (try (rw [if_pos (by omega)])); (try go_simp); (try go_ints)
                refine hR _ _ (Ext.refl _) ?_ trivial
                rfl
              · intro γ w' he hf; clear hf; refine ⟨trivial, ?_⟩; intro R hR
                have hc := he.cells
                go_simp
                (try go_ints); (try (rw [if_neg (by omega)])); (try (rw [if_pos (by omega)])); (try go_simp); (try go_ints)
                refine hR _ _ (Ext.refl _) ?_ trivial
                rfl
              · intro γ w' he hf; clear hf; refine ⟨trivial, ?_⟩; intro R hR
                have hc := he.cells
                go_simp
                (try go_ints); (try (rw [if_neg (by omega)])); (try (rw [if_pos (by omega)])); (try go_simp); (try go_ints)
                refine hR _ _ (Ext.refl _) ?_ trivial
                rfl
              · intro γ w' he hf; clear hf; refine ⟨trivial, ?_⟩; intro R hR
                have hc := he.cells
                have cq0 := he.cell ca0
                have cq1 := he.cell ca1
                have cq2 := he.cell cb0
                have cq3 := he.cell cb1
                have cq4 := he.cell q0
                have cq5 := he.cell q1
                go_simp
                (try go_ints); (try (rw [if_neg (by omega)])); (try (rw [if_pos (by omega)])); (try go_simp); (try go_ints)
                refine hR _ _ (Ext.refl _) ?_ trivial
                rfl
              · intro γ w' he hf; clear hf; refine ⟨trivial, ?_⟩; intro R hR
                have hc := he.cells
                go_simp
                (try go_ints); (try (rw [if_neg (by omega)])); (try (rw [if_pos (by omega)])); (try go_simp); (try go_ints)
                refine hR _ _ (Ext.refl _) ?_ trivial
                rfl
              · intro γ w' he hf; clear hf; refine ⟨trivial, ?_⟩; intro R hR
                have hc := he.cells
                have cq0 := he.cell ca0
                have cq1 := he.cell ca1
                have cq2 := he.cell cb0
                have cq3 := he.cell cb1
                have cq4 := he.cell q0
                have cq5 := he.cell q1
                go_simp
                (try go_ints); (try (rw [if_neg (by omega)])); (try (rw [if_pos (by omega)])); (try go_simp); (try go_ints)
                refine hR _ _ (Ext.refl _) ?_ trivial
                rfl
              · intro γ w' he hf; clear hf; refine ⟨trivial, ?_⟩; intro R hR
                have hc := he.cells
                go_simp
                (try go_ints); (try (rw [if_neg (by omega)])); (try (rw [if_pos (by omega)])); (try go_simp); (try go_ints)
                refine hR _ _ (Ext.refl _) ?_ trivial
                rfl
              · intro γ w' he hf; clear hf; refine ⟨trivial, ?_⟩; intro R hR
                have hc := he.cells
                go_simp
                (try go_ints); (try (rw [if_neg (by omega)])); (try (rw [if_pos (by omega)])); (try go_simp); (try go_ints)
                refine hR _ _ (Ext.refl _) ?_ trivial
                rfl
              · intro γ w' he hf; clear hf; refine ⟨trivial, ?_⟩; intro R hR
                have hc := he.cells
                have cq0 := he.cell ca0
                have cq1 := he.cell ca1
                have cq2 := he.cell cb0
                have cq3 := he.cell cb1
                have cq4 := he.cell q0
                have cq5 := he.cell q1
                go_simp
                (try go_ints); (try (rw [if_neg (by omega)])); (try (rw [if_pos (by omega)])); (try go_simp); (try go_ints)
                refine hR _ _ (Ext.refl _) ?_ trivial
                rfl
            case hloc4 =>
              exact ⟨⟨⟨⟨⟨⟨⟨⟨⟨⟨trivial, (fun γ γ' h => ⟨rfl, fun _ => rfl⟩)⟩, (fun γ γ' h => ⟨rfl, fun _ => rfl⟩)⟩, (fun γ γ' h => ⟨rfl, fun _ => rfl⟩)⟩, (fun γ γ' h => ⟨rfl, fun _ => rfl⟩)⟩, (fun γ γ' h => ⟨rfl, fun _ => rfl⟩)⟩, (fun γ γ' h => ⟨rfl, fun _ => rfl⟩)⟩, (fun γ γ' h => ⟨rfl, fun _ => rfl⟩)⟩, (fun γ γ' h => ⟨rfl, fun _ => rfl⟩)⟩, (fun γ γ' h => ⟨rfl, fun _ => rfl⟩)⟩, (fun γ γ' h => ⟨rfl, fun _ => rfl⟩)⟩
            case hmono4 =>
              exact ⟨⟨⟨⟨⟨⟨⟨⟨⟨⟨trivial, (fun γ wA w' e h => h)⟩, (fun γ wA w' e h => h)⟩, (fun γ wA w' e h => h)⟩, (fun γ wA w' e h => h)⟩, (fun γ wA w' e h => h)⟩, (fun γ wA w' e h => h)⟩, (fun γ wA w' e h => h)⟩, (fun γ wA w' e h => h)⟩, (fun γ wA w' e h => h)⟩, (fun γ wA w' e h => h)⟩
            intro γ w1 hx1 hF
            clear hF
            simp only [fillAll, gV, kv, List.getD_cons_zero, List.getD_cons_succ, Act.put, List.setIfInBounds_toArray, List.set_cons_zero, List.set_cons_succ, List.toList_toArray, List.drop_succ_cons, List.drop_zero, List.drop_nil, Nat.zero_add, Nat.reduceAdd]
            clear γ
            go_wp2
            go_ret
            refine Gives.mk ?_ (hx.a2.trans hx1)
            rw [Hb.out]
            have : ¬ x = y := by
              rintro rfl
              have e : ds = es := digs_inj HL.out.2.2.2.2.1 HL.out.2.2.2.2.2 (by have := HL.out.1; have := HL.out.2.2.1; have := Hz.out; omega) (by rw [HL.out.2.1, HL.out.2.2.2.1])
              exact Hpq.out (by rw [← Hx.out, ← Hy.out, e])
            simp [this]
        · obtain rfl : k = nx := by omega
          have hdone : x = y := by
            have e := digs_eq (ds := ds) (es := es) (by have := HL.out.1; have := HL.out.2.2.1; have := Hz.out; omega) (fun j hj => Heq.out j (by have := HL.out.1; omega))
            exact same_abs (by rw [← HL.out.2.1, ← HL.out.2.2.2.1, e]) (Hs.out.1 ▸ Hs.out.2)
          have Hd := Lib.hid hdone; clear hdone
          go_wp2
          go_ret
          exact Gives.mk (by rw [Hb.out, decide_eq_true Hd.out]; rfl) hx.a2
    · have hb2 : (((sz x.natAbs : Nat) : Int) != (sz y.natAbs : Nat)) = true := by simp; omega
      have hne : bx = false := by rw [Hb.out]; simp; rintro rfl; exact hsz rfl
      subst hne
      clear hsz
      go_enter Tryz.func89, Tryz.ntmps89
      go_wp2
      go_ret
      exact Gives.mk rfl (((Ext.refl w).alloc _).alloc _)
  · have hne : bx = false := by rw [Hb.out]; simp; rintro rfl; exact hs (Hs.out.1.trans Hs.out.2.symm)
    subst hne
    obtain rfl : sy = !sx := by cases sx <;> cases sy <;> simp_all
    clear hs
    cases sx
    all_goals
      go_enter Tryz.func89, Tryz.ntmps89
      go_wp2
      go_ret
      exact Gives.mk rfl (((Ext.refl w).alloc _).alloc _)
end Go.Proofs.YtedoifjbgokmcaaGreat
namespace Go.Hp
open Go.RowKit
/-- The digits of the greater one of numerator and denominator. -/
def qsz (q : Rat) : Nat := max (sz q.num.natAbs) (sz q.den)
/-- v reads as the normal form of q. -/
def IsQ (w : World) (v : Value) (q : Rat) : Prop := ∃ b A n c b' A' n' c', v = .agg #[.bool b, .slice A n c, .bool b', .slice A' n' c'] ∧ IsZ w (.agg #[.bool b, .slice A n c]) q.num ∧ IsZ w (.agg #[.bool b', .slice A' n' c']) (q.den : Int)
/-- v reads as some form of q; numbers of at most 2^38 digits; a denominator 0 makes 0. -/
def HasQ (w : World) (v : Value) (q : Rat) : Prop := ∃ b A n c b' A' n' c' x y, v = .agg #[.bool b, .slice A n c, .bool b', .slice A' n' c'] ∧ HasZ w (.agg #[.bool b, .slice A n c]) x ∧ HasZ w (.agg #[.bool b', .slice A' n' c']) y ∧ sz x.natAbs ≤ 274877906944 ∧ sz y.natAbs ≤ 274877906944 ∧ q = Rat.divInt x y
theorem IsQ.kd {w w' : World} {v : Value} {q : Rat} (h : IsQ w v q) (k : KD w w') : IsQ w' v q := by
  obtain ⟨b, A, n, c, b', A', n', c', rfl, h1, h2⟩ := h; exact ⟨b, A, n, c, b', A', n', c', rfl, h1.kd k, h2.kd k⟩
theorem HasQ.kd {w w' : World} {v : Value} {q : Rat} (h : HasQ w v q) (k : KD w w') : HasQ w' v q := by
  obtain ⟨b, A, n, c, b', A', n', c', x, y, rfl, h1, h2, h3⟩ := h; exact ⟨b, A, n, c, b', A', n', c', x, y, rfl, h1.kd k, h2.kd k, h3⟩
theorem IsQ.ext {w w' : World} {v : Value} {q : Rat} (h : IsQ w v q) (k : Ext w w') : IsQ w' v q := h.kd k.kd
theorem HasQ.ext {w w' : World} {v : Value} {q : Rat} (h : HasQ w v q) (k : Ext w w') : HasQ w' v q := h.kd k.kd
theorem IsQ.has {w : World} {v : Value} {q : Rat} (h : IsQ w v q) (hs : qsz q ≤ 274877906944) : HasQ w v q := by
  obtain ⟨b, A, n, c, b', A', n', c', rfl, h1, h2⟩ := h
  unfold qsz at hs
  have e : ((q.den : Nat) : Int).natAbs = q.den := by simp
  exact ⟨b, A, n, c, b', A', n', c', _, _, rfl, h1.has (by omega), h2.has (by rw [e]; omega), by omega, by rw [e]; omega, (Rat.num_divInt_den q).symm⟩
/-- The normal form is no greater. -/
theorem num_divInt_le (x y : Int) : (Rat.divInt x y).num.natAbs ≤ x.natAbs := by
  rw [Rat.num_divInt]
  by_cases h : y = 0
  · subst h; simp
  · rw [Int.natAbs_ediv_of_dvd]
    · refine Nat.le_trans (Nat.div_le_self _ _) ?_
      rw [Int.natAbs_mul, Int.natAbs_sign_of_ne_zero h, Nat.one_mul]
      exact Nat.le_refl _
    · exact Int.dvd_trans (Int.gcd_dvd_right ..) (Int.dvd_mul_left ..)
theorem den_divInt_le (x y : Int) (h : y ≠ 0) : (Rat.divInt x y).den ≤ y.natAbs := by
  rw [Rat.den_divInt, if_neg h]; exact Nat.div_le_self _ _
theorem qsz_divInt {x y : Int} {k : Nat} (hx : sz x.natAbs ≤ k) (hy : sz y.natAbs ≤ k) (hk : 1 ≤ k) : qsz (Rat.divInt x y) ≤ k := by
  unfold qsz
  have h1 := sz_mono (num_divInt_le x y)
  by_cases h : y = 0
  · subst h
    have : sz (Rat.divInt x 0).den = 1 := by rw [Rat.divInt_zero]; rfl
    rw [this]; omega
  · have h2 := sz_mono (den_divInt_le x y h)
    omega
theorem HasQ.qsz {w : World} {v : Value} {q : Rat} (h : HasQ w v q) : qsz q ≤ 274877906944 := by
  obtain ⟨b, A, n, c, b', A', n', c', x, y, rfl, h1, h2, h3, h4, rfl⟩ := h
  exact qsz_divInt h3 h4 (by omega)
theorem qsz_pos (q : Rat) : 1 ≤ qsz q := by
  have := sz_pos q.den_nz
  unfold qsz; omega
theorem qsz_mul (a b : Rat) : qsz (a * b) ≤ qsz a + qsz b := by
  rw [Rat.mul_def', ← Rat.divInt_ofNat]
  have h1 := qsz_pos a
  have h2 := sz_mul a.num.natAbs b.num.natAbs
  have h3 := sz_mul a.den b.den
  refine qsz_divInt ?_ ?_ (by omega)
  · rw [Int.natAbs_mul]; unfold qsz; omega
  · simp only [Int.natAbs_natCast]; unfold qsz; omega
theorem qsz_neg (a : Rat) : qsz (-a) = qsz a := by unfold qsz; simp
theorem qsz_inv (a : Rat) : qsz (a⁻¹) ≤ qsz a := by
  rw [Rat.inv_def]
  have h1 := qsz_pos a
  refine qsz_divInt ?_ ?_ h1
  · simp only [Int.natAbs_natCast]; unfold qsz; omega
  · unfold qsz; omega
theorem qsz_div (a b : Rat) : qsz (a / b) ≤ qsz a + qsz b := by
  rw [Rat.div_def]; have := qsz_mul a b⁻¹; have := qsz_inv b; omega
end Go.Hp
namespace Go.Hp
open Go.RowKit
section
variable {α : Type}
/-- From A on the world holds elements of k cells each, which read as l. -/
def RowAt (k : Nat) (rd : World → Value → α → Prop) (base : Nat) (w : World) (A : Option Addr) (l : List α) : Prop :=
  0 < l.length → ∃ g o, A = some ⟨g, o, none⟩ ∧ base ≤ g ∧ ∀ j (h : j < l.length), ∃ cs : Array Value, cs.size = k ∧ (∀ i, i < k → w.cell? ⟨g, o + j * k + i, none⟩ = cs[i]?) ∧ rd w (.agg cs) l[j]
/-- A slice that reads, in w, as l; its elements lie in blocks from base on. -/
def RowV (k : Nat) (rd : World → Value → α → Prop) (base : Nat) (w : World) (v : Value) (l : List α) : Prop :=
  ∃ A c, v = .slice A l.length c ∧ l.length ≤ c ∧ c ≤ 9223372036854775807 ∧ RowAt k rd base w A l
variable {k : Nat} {rd : World → Value → α → Prop} {base : Nat} {w w' : World} {v : Value} {l : List α} {A : Option Addr}
theorem RowAt.ext (h : RowAt k rd base w A l) (e : Ext w w') (hr : ∀ u x, rd w u x → rd w' u x) : RowAt k rd base w' A l := fun h0 => by
  obtain ⟨g, o, ha, hb, hc⟩ := h h0
  refine ⟨g, o, ha, hb, fun j hj => ?_⟩
  obtain ⟨cs, h1, h2, h3⟩ := hc j hj
  refine ⟨cs, h1, fun i hi => ?_, hr _ _ h3⟩
  have hs : cs[i]? = some cs[i] := Array.getElem?_eq_getElem (by omega)
  rw [hs]
  exact e.cell ((h2 i hi).trans hs)
theorem RowV.ext (h : RowV k rd base w v l) (e : Ext w w') (hr : ∀ u x, rd w u x → rd w' u x) : RowV k rd base w' v l := by
  obtain ⟨A, c, h1, h2, h3, h4⟩ := h
  exact ⟨A, c, h1, h2, h3, h4.ext e hr⟩
theorem RowAt.base_le (h : RowAt k rd base w A l) {b : Nat} (hb : b ≤ base) : RowAt k rd b w A l := fun h0 => by
  obtain ⟨g, o, ha, hb', hc⟩ := h h0; exact ⟨g, o, ha, Nat.le_trans hb hb', hc⟩
theorem RowV.base_le (h : RowV k rd base w v l) {b : Nat} (hb : b ≤ base) : RowV k rd b w v l := by
  obtain ⟨A, c, h1, h2, h3, h4⟩ := h
  exact ⟨A, c, h1, h2, h3, h4.base_le hb⟩
theorem RowV.nil (k : Nat) (rd : World → Value → α → Prop) (base : Nat) (w : World) : RowV k rd base w (.slice none 0 0) [] :=
  ⟨none, 0, rfl, Nat.le_refl 0, by omega, fun h => absurd h (by simp)⟩
/-- What stands in blocks that a store leaves alone stays. -/
theorem RowV.upd {G : List Nat} (h : RowV k rd base w v l) (U : Upd G w w') (hG : ∀ g ∈ G, g < base) (hr : ∀ u x, rd w u x → rd w' u x) : RowV k rd base w' v l := by
  obtain ⟨A, c, h1, h2, h3, h4⟩ := h
  refine ⟨A, c, h1, h2, h3, fun h0 => ?_⟩
  obtain ⟨g, o, ha, hb, hc⟩ := h4 h0
  refine ⟨g, o, ha, hb, fun j hj => ?_⟩
  obtain ⟨cs, q1, q2, q3⟩ := hc j hj
  refine ⟨cs, q1, fun i hi => ?_, hr _ _ q3⟩
  rw [← q2 i hi]
  have hs : cs[i]? = some cs[i] := Array.getElem?_eq_getElem (by omega)
  have hcell := (q2 i hi).trans hs
  have hlt := World.block_lt_of_cell? w _ hcell
  have hblk := U.1 g w.heap[g] (fun hm => by have := hG g hm; omega) (Array.getElem?_eq_getElem hlt)
  unfold World.cell?
  simp only [hblk, Array.getElem?_eq_getElem hlt]
theorem RowAt.take (h : RowAt k rd base w A l) (n : Nat) : RowAt k rd base w A (l.take n) := fun h0 => by
  have hl : (l.take n).length ≤ l.length := List.length_take_le' _ _
  obtain ⟨g, o, ha, hb, hc⟩ := h (by omega)
  refine ⟨g, o, ha, hb, fun j hj => ?_⟩
  obtain ⟨cs, q1, q2, q3⟩ := hc j (by omega)
  exact ⟨cs, q1, q2, by rw [List.getElem_take]; exact q3⟩
theorem RowV.len (h : RowV k rd base w v l) : ∃ A c, v = .slice A l.length c := by obtain ⟨A, c, h1, _⟩ := h; exact ⟨A, c, h1⟩
end
/-! ### fractions -/
def QsV (base : Nat) (w : World) (v : Value) (l : List Rat) : Prop := RowV 4 IsQ base w v l
def QsAt (base : Nat) (w : World) (A : Option Addr) (l : List Rat) : Prop := RowAt 4 IsQ base w A l
/-- A slice of fractions in some form. -/
def HsV (base : Nat) (w : World) (v : Value) (l : List Rat) : Prop := RowV 4 HasQ base w v l
def HsAt (base : Nat) (w : World) (A : Option Addr) (l : List Rat) : Prop := RowAt 4 HasQ base w A l
theorem QsV.ext {base : Nat} {w w' : World} {v : Value} {l : List Rat} (h : QsV base w v l) (e : Ext w w') : QsV base w' v l := RowV.ext h e fun _ _ q => q.ext e
theorem HsV.ext {base : Nat} {w w' : World} {v : Value} {l : List Rat} (h : HsV base w v l) (e : Ext w w') : HsV base w' v l := RowV.ext h e fun _ _ q => q.ext e
theorem HsAt.ext {base : Nat} {w w' : World} {A : Option Addr} {l : List Rat} (h : HsAt base w A l) (e : Ext w w') : HsAt base w' A l := RowAt.ext h e fun _ _ q => q.ext e
theorem QsAt.ext {base : Nat} {w w' : World} {A : Option Addr} {l : List Rat} (h : QsAt base w A l) (e : Ext w w') : QsAt base w' A l := RowAt.ext h e fun _ _ q => q.ext e
theorem agg4 {cs : Array Value} {a b c d : Value} (e : Value.agg cs = .agg #[a, b, c, d]) : cs = #[a, b, c, d] := by injection e
/-- The cells of the j-th element. -/
theorem HsAt.at_ {base : Nat} {w : World} {A : Option Addr} {l : List Rat} (h : HsAt base w A l) {j : Nat} (hj : j < l.length) :
    ∃ g o b A1 n c b' A1' n' c', A = some ⟨g, o, none⟩ ∧ base ≤ g ∧ w.cell? ⟨g, o + j * 4, none⟩ = some (.bool b) ∧ w.cell? ⟨g, o + j * 4 + 1, none⟩ = some (.slice A1 n c) ∧ w.cell? ⟨g, o + j * 4 + 2, none⟩ = some (.bool b') ∧ w.cell? ⟨g, o + j * 4 + 3, none⟩ = some (.slice A1' n' c') ∧ HasQ w (.agg #[.bool b, .slice A1 n c, .bool b', .slice A1' n' c']) l[j] := by
  obtain ⟨g, o, ha, hb, hc⟩ := h (by omega)
  obtain ⟨cs, q1, q2, q3⟩ := hc j hj
  have hf := q3
  obtain ⟨b, A1, n, c, b', A1', n', c', x, y, e, _⟩ := hf
  obtain rfl := agg4 e
  exact ⟨g, o, b, A1, n, c, b', A1', n', c', ha, hb, q2 0 (by omega), q2 1 (by omega), q2 2 (by omega), q2 3 (by omega), q3⟩
theorem QsAt.at_ {base : Nat} {w : World} {A : Option Addr} {l : List Rat} (h : QsAt base w A l) {j : Nat} (hj : j < l.length) :
    ∃ g o b A1 n c b' A1' n' c', A = some ⟨g, o, none⟩ ∧ base ≤ g ∧ w.cell? ⟨g, o + j * 4, none⟩ = some (.bool b) ∧ w.cell? ⟨g, o + j * 4 + 1, none⟩ = some (.slice A1 n c) ∧ w.cell? ⟨g, o + j * 4 + 2, none⟩ = some (.bool b') ∧ w.cell? ⟨g, o + j * 4 + 3, none⟩ = some (.slice A1' n' c') ∧ IsQ w (.agg #[.bool b, .slice A1 n c, .bool b', .slice A1' n' c']) l[j] := by
  obtain ⟨g, o, ha, hb, hc⟩ := h (by omega)
  obtain ⟨cs, q1, q2, q3⟩ := hc j hj
  have hf := q3
  obtain ⟨b, A1, n, c, b', A1', n', c', e, _⟩ := hf
  obtain rfl := agg4 e
  exact ⟨g, o, b, A1, n, c, b', A1', n', c', ha, hb, q2 0 (by omega), q2 1 (by omega), q2 2 (by omega), q2 3 (by omega), q3⟩
theorem IsQ.num_len {w : World} {b b' : Bool} {A A' : Option Addr} {n c n' c' : Nat} {q : Rat} (h : IsQ w (.agg #[.bool b, .slice A n c, .bool b', .slice A' n' c']) q) : n = sz q.num.natAbs := by
  obtain ⟨_, _, _, _, _, _, _, _, e, h1, _⟩ := h
  have e := agg4 e
  simp only [Array.mk.injEq, List.cons.injEq, Value.bool.injEq, Value.slice.injEq, and_true] at e
  obtain ⟨rfl, ⟨rfl, rfl, rfl⟩, _⟩ := e
  obtain ⟨A2, c2, e, _⟩ := h1.form
  simp only [Value.agg.injEq, Array.mk.injEq, List.cons.injEq, Value.slice.injEq, and_true] at e
  exact e.2.2.1
/-- Without the zeros at the end. -/
def trimR (l : List Rat) : List Rat := (l.reverse.dropWhile (· == 0)).reverse
theorem trimR_snoc_zero (l : List Rat) : trimR (l ++ [0]) = trimR l := by simp [trimR]
theorem trimR_snoc (l : List Rat) (d : Rat) (h : d ≠ 0) : trimR (l ++ [d]) = l ++ [d] := by simp [trimR, h]
theorem snoc_ind {α : Type} {p : List α → Prop} (h0 : p []) (h1 : ∀ l d, p l → p (l ++ [d])) : ∀ l, p l := by
  intro l
  have := List.reverse_reverse l
  generalize l.reverse = m at this
  subst this
  induction m with
  | nil => exact h0
  | cons a m ih => rw [List.reverse_cons]; exact h1 _ _ ih
theorem trimR_prefix (l : List Rat) : trimR l = l.take (trimR l).length := by
  refine snoc_ind (p := fun l => trimR l = l.take (trimR l).length) rfl (fun l d ih => ?_) l
  by_cases h : d = 0
  · subst h
    rw [trimR_snoc_zero]
    have hl : (trimR l).length ≤ l.length := by rw [ih]; exact List.length_take_le' _ _
    rw [List.take_append_of_le_length hl]; exact ih
  · rw [trimR_snoc _ _ h, List.take_of_length_le (Nat.le_refl _)]
theorem trimR_len (l : List Rat) : (trimR l).length ≤ l.length := by rw [trimR_prefix]; exact List.length_take_le' _ _
/-- What the loop that cuts zeros comes to. -/
theorem trimR_take {l : List Rat} {m : Nat} (hm : m ≤ l.length) (hz : ∀ j, m ≤ j → (h : j < l.length) → l[j] = 0) (hlast : ∀ h : m - 1 < l.length, 0 < m → l[m - 1] ≠ 0) : trimR l = l.take m := by
  have h1 : l = l.take m ++ List.replicate (l.length - m) 0 := by
    apply List.ext_getElem
    · simp; omega
    · intro i h1 h2
      rw [List.getElem_append]
      split
      · simp
      · rename_i h; simp at h; simp; exact hz i (by omega) h1
  have h2 : ∀ n (xs : List Rat), trimR (xs ++ List.replicate n 0) = trimR xs := by
    intro n
    induction n with
    | zero => intro xs; simp
    | succ n ih => intro xs; rw [List.replicate_succ', ← List.append_assoc, trimR_snoc_zero, ih]
  have h3 : trimR (l.take m) = l.take m := by
    rcases Nat.eq_zero_or_pos m with h0 | h0
    · subst h0; rfl
    · obtain ⟨m, rfl⟩ : ∃ k, m = k + 1 := ⟨m - 1, by omega⟩
      rw [List.take_succ_eq_append_getElem (by omega)]
      exact trimR_snoc _ _ (hlast (by omega) h0)
  calc trimR l = trimR (l.take m ++ List.replicate (l.length - m) 0) := by rw [← h1]
    _ = _ := by rw [h2, h3]
end Go.Hp
namespace Go.Hp
open Go.RowKit
def zrat : Value := .agg #[.bool false, .slice none 0 0, .bool false, .slice none 0 0]
def ElO (w : World) (v : Value) : Option Rat → Prop
  | none => v = zrat
  | some q => IsQ w v q
theorem ElO.kd {w w' : World} {v : Value} {x : Option Rat} (h : ElO w v x) (k : KD w w') : ElO w' v x := by
  cases x with
  | none => exact h
  | some q => exact IsQ.kd h k
theorem ElO.form {w : World} {v : Value} {x : Option Rat} (h : ElO w v x) : ∃ b A n c b' A' n' c', v = .agg #[.bool b, .slice A n c, .bool b', .slice A' n' c'] := by
  cases x with
  | none => exact ⟨_, _, _, _, _, _, _, _, h⟩
  | some q => obtain ⟨b, A, n, c, b', A', n', c', e, _⟩ := h; exact ⟨_, _, _, _, _, _, _, _, e⟩
/-- Block g is, whole, the fractions l; none: not yet set. -/
def QArr (w : World) (g : Nat) (t : TypeId) (l : List (Option Rat)) : Prop :=
  ∃ cs, Box w g t cs ∧ l.length * 4 ≤ cs.size ∧ ∀ j (h : j < l.length), ∃ b A n c b' A' n' c', cs[j * 4]? = some (.bool b) ∧ cs[j * 4 + 1]? = some (.slice A n c) ∧ cs[j * 4 + 2]? = some (.bool b') ∧ cs[j * 4 + 3]? = some (.slice A' n' c') ∧ ElO w (.agg #[.bool b, .slice A n c, .bool b', .slice A' n' c']) l[j]
section
variable {w w' : World} {g : Nat} {t : TypeId} {l : List (Option Rat)}
theorem QArr.lt (h : QArr w g t l) : g < w.heap.size := by obtain ⟨cs, h1, _⟩ := h; exact h1.lt
theorem QArr.frozen (h : QArr w g t l) (i : Nat) : w.frozen? ⟨g, i, none⟩ = false := by obtain ⟨cs, h1, _⟩ := h; exact h1.frozen i
theorem QArr.ext (h : QArr w g t l) (e : Ext w w') : QArr w' g t l := by
  obtain ⟨cs, h1, h2, h3⟩ := h
  refine ⟨cs, h1.ext e, h2, fun j hj => ?_⟩
  obtain ⟨b, A, n, c, b', A', n', c', q0, q1, q2, q3, q⟩ := h3 j hj
  exact ⟨b, A, n, c, b', A', n', c', q0, q1, q2, q3, q.kd e.kd⟩
theorem QArr.upd {G : List Nat} (h : QArr w g t l) (U : Upd G w w') (hg : g ∉ G) : QArr w' g t l := by
  obtain ⟨cs, h1, h2, h3⟩ := h
  refine ⟨cs, h1.upd U hg, h2, fun j hj => ?_⟩
  obtain ⟨b, A, n, c, b', A', n', c', q0, q1, q2, q3, q⟩ := h3 j hj
  exact ⟨b, A, n, c, b', A', n', c', q0, q1, q2, q3, q.kd U.kd⟩
/-- The cells of the j-th element. -/
theorem QArr.at_ (h : QArr w g t l) {j : Nat} (hj : j < l.length) :
    ∃ b A n c b' A' n' c', w.cell? ⟨g, j * 4, none⟩ = some (.bool b) ∧ w.cell? ⟨g, j * 4 + 1, none⟩ = some (.slice A n c) ∧ w.cell? ⟨g, j * 4 + 2, none⟩ = some (.bool b') ∧ w.cell? ⟨g, j * 4 + 3, none⟩ = some (.slice A' n' c') ∧ ElO w (.agg #[.bool b, .slice A n c, .bool b', .slice A' n' c']) l[j] := by
  obtain ⟨cs, h1, h2, h3⟩ := h
  obtain ⟨b, A, n, c, b', A', n', c', q0, q1, q2, q3, q⟩ := h3 j hj
  exact ⟨b, A, n, c, b', A', n', c', h1.cell q0, h1.cell q1, h1.cell q2, h1.cell q3, q⟩
theorem QArr.put (h : QArr w g t l) {k : Nat} (hk : k < l.length) {b b' : Bool} {A A' : Option Addr} {n c n' c' : Nat} {q : Rat} (hq : IsQ w (.agg #[.bool b, .slice A n c, .bool b', .slice A' n' c']) q) :
    ∃ W, W = (((w.setCell ⟨g, k * 4, none⟩ (.bool b)).setCell ⟨g, k * 4 + 1, none⟩ (.slice A n c)).setCell ⟨g, k * 4 + 2, none⟩ (.bool b')).setCell ⟨g, k * 4 + 3, none⟩ (.slice A' n' c') ∧ QArr W g t (l.set k (some q)) ∧ Upd [g] w W := by
  obtain ⟨cs, h1, h2, h3⟩ := h
  have B1 := h1.set_ (k * 4) (u := .bool b) rfl
  have B2 := B1.set_ (k * 4 + 1) (u := .slice A n c) rfl
  have B3 := B2.set_ (k * 4 + 2) (u := .bool b') rfl
  have B4 := B3.set_ (k * 4 + 3) (u := .slice A' n' c') rfl
  have U : Upd [g] w _ := (((Upd.set_ h1.nodig (k * 4) (.bool b)).trans (Upd.set_ B1.nodig (k * 4 + 1) (.slice A n c))).trans (Upd.set_ B2.nodig (k * 4 + 2) (.bool b'))).trans (Upd.set_ B3.nodig (k * 4 + 3) (.slice A' n' c'))
  refine ⟨_, rfl, ⟨_, B4, by simpa using h2, fun j hj => ?_⟩, U⟩
  have hj' : j < l.length := by simpa using hj
  by_cases e : j = k
  · subst e
    refine ⟨b, A, n, c, b', A', n', c', ?_, ?_, ?_, ?_, ?_⟩
    · rw [Array.getElem?_setIfInBounds_ne (by omega), Array.getElem?_setIfInBounds_ne (by omega), Array.getElem?_setIfInBounds_ne (by omega), Array.getElem?_setIfInBounds, if_pos rfl, if_pos (by omega)]
    · rw [Array.getElem?_setIfInBounds_ne (by omega), Array.getElem?_setIfInBounds_ne (by omega), Array.getElem?_setIfInBounds, if_pos rfl, if_pos (by simp; omega)]
    · rw [Array.getElem?_setIfInBounds_ne (by omega), Array.getElem?_setIfInBounds, if_pos rfl, if_pos (by simp; omega)]
    · rw [Array.getElem?_setIfInBounds, if_pos rfl, if_pos (by simp; omega)]
    · rw [List.getElem_set_self]
      exact hq.kd U.kd
  · obtain ⟨b, A, n, c, b', A', n', c', q0, q1, q2, q3, q⟩ := h3 j hj'
    refine ⟨b, A, n, c, b', A', n', c', ?_, ?_, ?_, ?_, ?_⟩
    · rw [Array.getElem?_setIfInBounds_ne (by omega), Array.getElem?_setIfInBounds_ne (by omega), Array.getElem?_setIfInBounds_ne (by omega), Array.getElem?_setIfInBounds_ne (by omega)]; exact q0
    · rw [Array.getElem?_setIfInBounds_ne (by omega), Array.getElem?_setIfInBounds_ne (by omega), Array.getElem?_setIfInBounds_ne (by omega), Array.getElem?_setIfInBounds_ne (by omega)]; exact q1
    · rw [Array.getElem?_setIfInBounds_ne (by omega), Array.getElem?_setIfInBounds_ne (by omega), Array.getElem?_setIfInBounds_ne (by omega), Array.getElem?_setIfInBounds_ne (by omega)]; exact q2
    · rw [Array.getElem?_setIfInBounds_ne (by omega), Array.getElem?_setIfInBounds_ne (by omega), Array.getElem?_setIfInBounds_ne (by omega), Array.getElem?_setIfInBounds_ne (by omega)]; exact q3
    · rw [List.getElem_set_ne (by omega)]; exact q.kd U.kd
theorem QArr.new (w : World) (t : TypeId) (n : Nat) : QArr (w.alloc (.cells (madeCells #[.bool false, .slice none 0 0, .bool false, .slice none 0 0] (n * 4)) t)) w.heap.size t (List.replicate n none) := by
  have key : ∀ j i v, j < n → i < 4 → #[Value.bool false, .slice none 0 0, .bool false, .slice none 0 0][i]? = some v → (madeCells #[Value.bool false, .slice none 0 0, .bool false, .slice none 0 0] (n * 4))[j * 4 + i]? = some v := by
    intro j i v hj hi hv
    rw [Array.getElem?_eq_getElem (by rw [size_madeCells]; omega)]
    simp only [madeCells, Array.getElem_map, Array.getElem_range]
    rw [show (j * 4 + i) % #[Value.bool false, .slice none 0 0, .bool false, .slice none 0 0].size = i from by show (j * 4 + i) % 4 = i; omega]
    match i, hi with
    | 0, _ => exact hv
    | 1, _ => exact hv
    | 2, _ => exact hv
    | 3, _ => exact hv
  refine ⟨_, Box.new w t _ ?_, by rw [size_madeCells, List.length_replicate]; exact Nat.le_refl _, fun j hj => ?_⟩
  · rw [Array.all_eq_true]
    intro i hi
    have hi' : i < n * 4 := by rw [size_madeCells] at hi; exact hi
    have hs := Array.getElem?_eq_getElem hi
    generalize (madeCells #[Value.bool false, Value.slice none 0 0, Value.bool false, Value.slice none 0 0] (n * 4))[i] = u at *
    have h4 : i % 4 = 0 ∨ i % 4 = 1 ∨ i % 4 = 2 ∨ i % 4 = 3 := by omega
    rcases h4 with h | h | h | h
    · have := key (i / 4) 0 _ (by omega) (by omega) rfl
      rw [show i / 4 * 4 + 0 = i from by omega, hs] at this; cases this; rfl
    · have := key (i / 4) 1 _ (by omega) (by omega) rfl
      rw [show i / 4 * 4 + 1 = i from by omega, hs] at this; cases this; rfl
    · have := key (i / 4) 2 _ (by omega) (by omega) rfl
      rw [show i / 4 * 4 + 2 = i from by omega, hs] at this; cases this; rfl
    · have := key (i / 4) 3 _ (by omega) (by omega) rfl
      rw [show i / 4 * 4 + 3 = i from by omega, hs] at this; cases this; rfl
  · have hj' : j < n := by simpa using hj
    exact ⟨false, none, 0, 0, false, none, 0, 0, key j 0 _ hj' (by omega) rfl, key j 1 _ hj' (by omega) rfl, key j 2 _ hj' (by omega) rfl, key j 3 _ hj' (by omega) rfl, by simp [ElO, zrat]⟩
/-- An array that is set whole is a row. -/
theorem QArr.row (h : QArr w g t l) {m : List Rat} (hm : l = m.map some) {base : Nat} (hb : base ≤ g) : QsAt base w (some ⟨g, 0, none⟩) m := fun _ => by
  subst hm
  obtain ⟨cs, h1, h2, h3⟩ := h
  refine ⟨g, 0, rfl, hb, fun j hj => ?_⟩
  obtain ⟨b, A, n, c, b', A', n', c', q0, q1, q2, q3, q⟩ := h3 j (by simpa using hj)
  refine ⟨_, rfl, ?_, by simpa [ElO] using q⟩
  intro i hi
  match i, hi with
  | 0, _ => simpa using h1.cell q0
  | 1, _ => simpa using h1.cell q1
  | 2, _ => simpa using h1.cell q2
  | 3, _ => simpa using h1.cell q3
end
end Go.Hp
namespace Go.Hp
open Go.RowKit
def nodig (cs : Array Value) : Bool := cs.all fun u => !isDig u
/-- v owns, in a block of its own from base on, n elements of k cells, no cell of the block a digit. -/
def OwnC (k : Nat) (base : Nat) (e : TypeId) (w : World) (v : Value) (n : Nat) (xs : List Value) : Prop :=
  xs.length = n * k ∧ ((v = .slice none 0 0 ∧ n = 0) ∨ ∃ g cap cur, v = .slice (some ⟨g, 0, none⟩) n cap ∧ base ≤ g ∧ Box w g e cur ∧ n ≤ cap ∧ cap ≤ maxLen ∧ cur.size = cap * k ∧ cur.toList.take (n * k) = xs)
def blk (v : Value) : List Nat := v.ownBlock.toList
theorem OwnC.owns {k base : Nat} {e : TypeId} {w : World} {v : Value} {n : Nat} {xs : List Value} (h : OwnC k base e w v n xs) : w.ownsRow base e k v n xs := by
  obtain ⟨h1, h2⟩ := h
  refine ⟨h1, ?_⟩
  rcases h2 with h2 | ⟨g, cap, cur, a, b, c, d⟩
  · exact .inl h2
  · exact .inr ⟨g, cap, cur, a, b, c.1, d⟩
theorem all_list {cs : Array Value} : cs.all (fun u => !isDig u) = true ↔ ∀ u ∈ cs.toList, isDig u = false := by
  rw [Array.all_eq_true_iff_forall_mem]
  constructor
  · intro h u hu; simpa using h u (by simpa using hu)
  · intro h u hu; simpa using h u (by simpa using hu)
theorem kd_block {w w' : World} {g : Nat} {e : TypeId} {cur : Array Value} (hb : Box w g e cur) (ho : ∀ h, h ≠ g → h < w.heap.size → w'.heap[h]? = w.heap[h]?) : KD w w' := by
  intro p n hp
  have hlt := World.block_lt_of_cell? w p hp
  by_cases e' : p.block = g
  · exfalso
    obtain ⟨pb, po, ps⟩ := p
    simp only at e'
    subst e'
    have : ps = none := by
      unfold World.cell? at hp
      simp only [hb.1] at hp
      cases ps with
      | none => rfl
      | some _ => simp at hp
    subst this
    exact hb.nodig po n hp
  · rw [World.cell?_of_block (ho _ e' hlt)]; exact hp
section
variable {P : Program}
/-- append of one element. -/
theorem run_append_one (w : World) (k base : Nat) (t ty e : TypeId) (i : TypeInfo) (z : Value) (bytes : Nat) (ht : P.underlying t = some (.slice e)) (hi : P.info? e = some i) (hz : i.zero = some z)
    (hsize : i.size = k) (hby : i.bytes = bytes) (hzs : z.cells.size = k) (hzd : nodig z.cells = true) (hsz : 0 < k)
    (v : Value) (n : Nat) (xs : List Value) (hown : OwnC k base e w v n xs)
    (a : Addr) (c : Nat) (news : List Value) (hl : news.length = k) (hnews : ∀ j u, news[j]? = some u → w.cell? (a.add j) = some u) (h1 : ∀ u ∈ news, u.oneCell' = true) (hnd : ∀ u ∈ news, isDig u = false)
    (h63 : n + 1 ≤ maxLen) (hbytes : (n + 1) * bytes ≤ 140737488355328) (hbase : base ≤ w.heap.size) :
    ∃ v' w', (Builtin.append_ #[t, t] ty #[v, .slice (some a) 1 c]).run P w = .ok v' w' ∧ OwnC k base e w' v' (n + 1) (xs ++ news) ∧ Upd (blk v) w w' := by
  subst hsize
  subst hby
  have hl' : news.length = 1 * i.size := by rw [Nat.one_mul]; exact hl
  have hlen : (xs ++ news).length = (n + 1) * i.size := by rw [List.length_append, hown.1, hl, Nat.succ_mul]
  have hsmall : n + 1 ≤ 9223372036854775807 := by simp only [maxLen] at h63; omega
  have hzl := all_list.1 hzd
  have hzc : ∀ m, ∀ u ∈ (Builtin.zeroCells z.cells m).toList, isDig u = false := by
    intro m u hu
    simp only [Builtin.zeroCells, Array.toList_map, Array.toList_range, List.mem_map, List.mem_range] at hu
    obtain ⟨j, hj, rfl⟩ := hu
    have : j % z.cells.size < z.cells.size := Nat.mod_lt _ (by omega)
    rw [getElem!_pos z.cells _ this]
    exact hzl _ (by simp)
  have hxd : ∀ u ∈ xs, isDig u = false := by
    rcases hown.2 with ⟨_, h0⟩ | ⟨g, cap, cur, _, _, hb, _, _, _, htake⟩
    · intro u hu
      have : xs = [] := List.eq_nil_of_length_eq_zero (by rw [hown.1, h0, Nat.zero_mul])
      rw [this] at hu; cases hu
    · intro u hu
      rw [← htake] at hu
      exact all_list.1 hb.2 _ (List.mem_of_mem_take hu)
  have grown : ∀ (old : Nat), old < n + 1 →
      OwnC i.size base e (w.drew.alloc (.cells (xs.toArray ++ news.toArray ++ Builtin.zeroCells z.cells (grownCap w (n + 1) old e - (n + 1))) e)) (.slice (some ⟨w.heap.size, 0, none⟩) (n + 1) (grownCap w (n + 1) old e)) (n + 1) (xs ++ news) ∧
      ∀ G, Upd G w (w.drew.alloc (.cells (xs.toArray ++ news.toArray ++ Builtin.zeroCells z.cells (grownCap w (n + 1) old e - (n + 1))) e)) := by
    intro old ho
    have hge := grownCap_ge w (n + 1) old e
    have hcm : grownCap w (n + 1) old e ≤ maxLen := grownCap_le_maxLen w (n + 1) old e h63
    refine ⟨⟨hlen, .inr ⟨w.heap.size, _, _, rfl, hbase, ⟨heap_alloc_new w.drew _, ?_⟩, hge, hcm, ?_, ?_⟩⟩, fun G => Upd.of_ext ((Ext.refl w).drew.alloc _)⟩
    · rw [all_list]
      intro u hu
      simp only [Array.toList_append, List.mem_append] at hu
      rcases hu with (hu | hu) | hu
      · exact hxd u (by simpa using hu)
      · exact hnd u (by simpa using hu)
      · exact hzc _ u hu
    · simp only [Array.size_append, List.size_toArray, size_zeroCells, hzs, hown.1, hl]
      rw [← Nat.succ_mul, ← Nat.add_mul]
      congr 1
      omega
    · simp only [Array.toList_append, List.append_assoc]
      rw [← List.append_assoc, ← hlen]
      exact List.take_left
  rcases hown.2 with ⟨rfl, rfl⟩ | ⟨g, cap, cur, rfl, hbg, hb, hnc, hcm, hcs, htake⟩
  · have hx : xs = [] := List.eq_nil_of_length_eq_zero (by simpa using hown.1)
    subst hx
    have hr := run_append_nil (P := P) w t ty e i z ht hi hz a 1 c news hl' hnews (by omega) (by omega) (by have hb := hbytes; simp only [Nat.zero_add] at hb; omega)
    have hgr := grown 0 (by omega)
    simp only [Nat.zero_add, List.nil_append, Array.empty_append] at hgr ⊢
    exact ⟨_, _, hr, hgr.1, hgr.2 _⟩
  · have hg := hb.1
    by_cases hroom : n + 1 ≤ cap
    · have hfit : n * i.size + news.length ≤ cur.size := by rw [hl, hcs, ← Nat.succ_mul]; exact Nat.mul_le_mul_right _ hroom
      have hr := run_append_room (P := P) w t ty e i ht hi g n cap cur hg a 1 c news hl' hnews h1 hroom hfit
      have hnew : ∀ u ∈ cur.toList.take (n * i.size) ++ news ++ cur.toList.drop (n * i.size + news.length), isDig u = false := by
        intro u hu
        simp only [List.mem_append] at hu
        rcases hu with (hu | hu) | hu
        · exact all_list.1 hb.2 _ (List.mem_of_mem_take hu)
        · exact hnd u hu
        · exact all_list.1 hb.2 _ (List.mem_of_mem_drop hu)
      have hbx : Box (w.setRow g (cur.toList.take (n * i.size) ++ news ++ cur.toList.drop (n * i.size + news.length)).toArray) g e _ := ⟨setRow_heap w g cur _ e _ hg, all_list.2 (by simpa using hnew)⟩
      refine ⟨_, _, hr, ⟨hlen, .inr ⟨g, cap, _, rfl, hbg, hbx, hroom, hcm, ?_, ?_⟩⟩, ⟨fun g' o hg' ho => ?_, kd_block hb fun h hne _ => setRow_other w g h _ hne, fun a' ha hG => ?_⟩⟩
      · simp only [List.size_toArray, List.length_append, List.length_take, List.length_drop, Array.length_toList]
        omega
      · rw [htake, ← hlen]
        exact List.take_left
      · rw [setRow_other w g g' _ (fun e => hg' (by simp [blk, Value.ownBlock, e]))]; exact ho
      · have hga : a'.heap.size ≤ g := hG g (by simp [blk, Value.ownBlock])
        exact ha.grown (row := some g) ⟨rfl, rfl, rfl, by simp [World.setRow], fun k _ hk => setRow_other w g k _ (fun e => hk (by rw [e]))⟩ (fun k hk => by cases hk; exact hga)
    · have holds : ∀ j u, xs[j]? = some u → w.cell? ((⟨g, 0, none⟩ : Addr).add j) = some u := hown.owns.cells (g := g) rfl
      have hr := run_append_grow (P := P) w t ty e i z ht hi hz ⟨g, 0, none⟩ n cap xs hown.1 holds a 1 c news hl' hnews (by omega) (by omega) (growslice_fits (by omega) hbytes)
      have hgr := grown cap (by omega)
      exact ⟨_, _, hr, hgr.1, hgr.2 _⟩
end
theorem news_new (w : World) (t : TypeId) (cs : Array Value) : ∀ j u, cs.toList[j]? = some u → (w.alloc (.cells cs t)).cell? ((⟨w.heap.size, 0, none⟩ : Addr).add j) = some u := by
  intro j u h
  have e : (⟨w.heap.size, 0, none⟩ : Addr).add j = ⟨w.heap.size, j, none⟩ := by unfold Addr.add; split <;> simp_all
  rw [e, cell_of_row _ w.heap.size j cs t (0, 0) (heap_alloc_new w _)]
  simpa using h
theorem wpList_append_run {P : Program} {ops : Array Oper} {rest : List Oper} {o : Oper} {a : Act} {w : World} {Q : Exit → Act → World → Prop} (hgd : o.guard = none) (s x : Operand) (t : TypeId)
    (ho : o.op = .call { callee := .builtin .append, args := #[s, x], argTypes := #[t, t] }) (v u : Value) (hs : a.eval s = v) (hx : a.eval x = u) {R : Value → World → Prop}
    (hrun : ∃ v' w', (Builtin.append_ #[t, t] o.type #[v, u]).run P w = .ok v' w' ∧ R v' w')
    (h : ∀ v' w', R v' w' → wpList P ops Q rest (a.put o.dst v') w') : wpList P ops Q (o :: rest) a w :=
  wpList_plain hgd fun _ hK => by
    obtain ⟨v', w', hr, hR⟩ := hrun
    unfold Oper.wp execOp
    simp only [ho, resolve, invoke, builtin, Sem.run_bind, Sem.run_pure, Result.andThen_ok, List.map_toArray, List.map_cons, List.map_nil, hs, hx, hr]
    exact hK _ _ (h v' w' hR)
/-! ### read as elements -/
section
variable {α : Type}
def OwnR (k : Nat) (rd : World → Value → α → Prop) (base : Nat) (e : TypeId) (w : World) (v : Value) (l : List α) : Prop :=
  ∃ ess : List (Array Value), ess.length = l.length ∧ (∀ c ∈ ess, c.size = k) ∧ OwnC k base e w v l.length (ess.flatMap Array.toList) ∧ ∀ j (h : j < l.length) (h' : j < ess.length), rd w (.agg ess[j]) l[j]
theorem flat_get {k : Nat} : ∀ {ess : List (Array Value)}, (∀ c ∈ ess, c.size = k) → ∀ {j i : Nat} (h : j < ess.length), i < k → (ess.flatMap Array.toList)[j * k + i]? = (ess[j])[i]?
  | [], _, j, i, h, _ => by simp at h
  | c :: ess, hs, j, i, h, hi => by
    have hc := hs c (by simp)
    rw [List.flatMap_cons]
    cases j with
    | zero =>
      rw [Nat.zero_mul, Nat.zero_add, List.getElem?_append_left (by simp [hc, hi])]
      simp
    | succ j =>
      rw [List.getElem?_append_right (by simp [hc, Nat.succ_mul]; omega)]
      have : (j + 1) * k + i - c.toList.length = j * k + i := by simp [hc, Nat.succ_mul]; omega
      rw [this]
      exact flat_get (fun d hd => hs d (by simp [hd])) (by simpa using h) hi
variable {k : Nat} {rd : World → Value → α → Prop} {base : Nat} {e : TypeId} {w w' : World} {v : Value} {l : List α}
theorem OwnR.nil (k : Nat) (rd : World → Value → α → Prop) (base : Nat) (e : TypeId) (w : World) : OwnR k rd base e w (.slice none 0 0) [] :=
  ⟨[], rfl, fun _ h => by simp at h, ⟨by simp, .inl ⟨rfl, rfl⟩⟩, fun j h => by simp at h⟩
theorem OwnR.row (h : OwnR k rd base e w v l) : RowV k rd base w v l := by
  obtain ⟨ess, h1, h2, ⟨h3, h4⟩, h5⟩ := h
  rcases h4 with ⟨rfl, h0⟩ | ⟨g, cap, cur, rfl, hbg, hb, hnc, hcm, hcs, htake⟩
  · obtain rfl := List.eq_nil_of_length_eq_zero h0
    exact RowV.nil k rd base w
  · refine ⟨_, cap, rfl, hnc, maxLen_le hcm, fun _ => ⟨g, 0, rfl, hbg, fun j hj => ⟨ess[j]'(by omega), h2 _ (List.getElem_mem _), fun i hi => ?_, h5 j hj _⟩⟩⟩
    rw [Nat.zero_add, cell_of_row w g (j * k + i) cur e (0, 0) hb.1]
    have hlt : j * k + i < l.length * k := by
      have : (j + 1) * k ≤ l.length * k := Nat.mul_le_mul_right _ hj
      rw [Nat.succ_mul] at this; omega
    rw [← flat_get h2 (by omega) hi, ← htake, List.getElem?_take_of_lt hlt]
    simp
theorem OwnR.ext (h : OwnR k rd base e w v l) (x : Ext w w') (hr : ∀ u y, rd w u y → rd w' u y) : OwnR k rd base e w' v l := by
  obtain ⟨ess, h1, h2, ⟨h3, h4⟩, h5⟩ := h
  refine ⟨ess, h1, h2, ⟨h3, ?_⟩, fun j a b => hr _ _ (h5 j a b)⟩
  rcases h4 with h4 | ⟨g, cap, cur, a, b, c, d⟩
  · exact .inl h4
  · exact .inr ⟨g, cap, cur, a, b, c.ext x, d⟩
theorem OwnR.upd {G : List Nat} (h : OwnR k rd base e w v l) (U : Upd G w w') (hg : ∀ g ∈ blk v, g ∉ G) (hr : ∀ u y, rd w u y → rd w' u y) : OwnR k rd base e w' v l := by
  obtain ⟨ess, h1, h2, ⟨h3, h4⟩, h5⟩ := h
  refine ⟨ess, h1, h2, ⟨h3, ?_⟩, fun j a b => hr _ _ (h5 j a b)⟩
  rcases h4 with h4 | ⟨g, cap, cur, rfl, b, c, d⟩
  · exact .inl h4
  · exact .inr ⟨g, cap, cur, rfl, b, c.upd U (hg g (by simp [blk, Value.ownBlock])), d⟩
theorem OwnR.blk_ge (h : OwnR k rd base e w v l) : ∀ g ∈ blk v, base ≤ g ∧ g < w.heap.size := by
  obtain ⟨ess, h1, h2, ⟨h3, h4⟩, h5⟩ := h
  rcases h4 with ⟨rfl, _⟩ | ⟨g, cap, cur, rfl, b, c, d⟩
  · intro g hg; simp [blk, Value.ownBlock] at hg
  · intro g' hg; simp [blk, Value.ownBlock] at hg; subst hg; exact ⟨b, c.lt⟩
theorem OwnR.len (h : OwnR k rd base e w v l) : ∃ A c, v = .slice A l.length c := h.row.len
/-- append of one element, read as elements. -/
theorem OwnR.append {P : Program} (h : OwnR k rd base e w v l) (t ty : TypeId) (i : TypeInfo) (z : Value) (bytes : Nat) (ht : P.underlying t = some (.slice e)) (hi : P.info? e = some i) (hz : i.zero = some z)
    (hsize : i.size = k) (hby : i.bytes = bytes) (hzs : z.cells.size = k) (hzd : nodig z.cells = true) (hsz : 0 < k) {x : α}
    (a : Addr) (c : Nat) (news : Array Value) (hl : news.size = k) (hx : rd w (.agg news) x) (hnews : ∀ j u, news.toList[j]? = some u → w.cell? (a.add j) = some u) (h1 : ∀ u ∈ news.toList, u.oneCell' = true) (hnd : nodig news = true)
    (h63 : l.length + 1 ≤ maxLen) (hbytes : (l.length + 1) * bytes ≤ 140737488355328) (hbase : base ≤ w.heap.size) (hr : ∀ w' u y, KD w w' → rd w u y → rd w' u y) :
    ∃ v' w', (Builtin.append_ #[t, t] ty #[v, .slice (some a) 1 c]).run P w = .ok v' w' ∧ OwnR k rd base e w' v' (l ++ [x]) ∧ Upd (blk v) w w' := by
  obtain ⟨ess, g1, g2, g3, g5⟩ := h
  obtain ⟨v', w', hrun, hown, hupd⟩ := run_append_one (P := P) w k base t ty e i z bytes ht hi hz hsize hby hzs hzd hsz v l.length _ g3 a c news.toList (by simpa using hl) hnews h1 (all_list.1 hnd) h63 hbytes hbase
  refine ⟨v', w', hrun, ⟨ess ++ [news], by simp [g1], ?_, ?_, ?_⟩, hupd⟩
  · intro d hd
    rcases List.mem_append.1 hd with hd | hd
    · exact g2 d hd
    · simp at hd; subst hd; exact hl
  · have e1 : (ess ++ [news]).flatMap Array.toList = ess.flatMap Array.toList ++ news.toList := by simp
    rw [e1, List.length_append]
    exact hown
  · intro j hj hj'
    rcases Nat.lt_or_ge j l.length with hlt | hge
    · rw [List.getElem_append_left hlt, List.getElem_append_left (by omega)]
      exact hr _ _ _ hupd.kd (g5 j hlt (by omega))
    · have : j = l.length := by simp at hj; omega
      subst this
      rw [List.getElem_append_right (by omega), List.getElem_append_right (by omega)]
      simpa using hr _ _ _ hupd.kd hx
end
/-- One element, as the slice that append is handed. -/
def NewEl {α : Type} (k : Nat) (rd : World → Value → α → Prop) (w : World) (v : Value) (base : Nat) (x : α) (t : TypeId) : Prop := ∃ g cs, v = .slice (some ⟨g, 0, none⟩) 1 1 ∧ base ≤ g ∧ Box w g t cs ∧ cs.size = k ∧ rd w (.agg cs) x
theorem NewEl.ext {α : Type} {k : Nat} {rd : World → Value → α → Prop} {w w' : World} {v : Value} {base : Nat} {x : α} {t : TypeId} (h : NewEl k rd w v base x t) (e : Ext w w') (hr : ∀ u y, rd w u y → rd w' u y) : NewEl k rd w' v base x t := by
  obtain ⟨g, cs, h1, h2, h3, h4, h5⟩ := h; exact ⟨g, cs, h1, h2, h3.ext e, h4, hr _ _ h5⟩
theorem Box.news {w : World} {g : Nat} {t : TypeId} {cs : Array Value} (h : Box w g t cs) : ∀ j u, cs.toList[j]? = some u → w.cell? ((⟨g, 0, none⟩ : Addr).add j) = some u := by
  intro j u hu
  have e : (⟨g, 0, none⟩ : Addr).add j = ⟨g, j, none⟩ := by unfold Addr.add; split <;> simp_all
  rw [e]
  exact h.cell (by simpa using hu)
/-- A new element of fractions. -/
def NewQ (w : World) (v : Value) (base : Nat) (q : Rat) (t : TypeId) : Prop := NewEl 4 IsQ w v base q t
theorem NewQ.ext {w w' : World} {v : Value} {base : Nat} {q : Rat} {t : TypeId} (h : NewQ w v base q t) (e : Ext w w') : NewQ w' v base q t := NewEl.ext h e fun _ _ h => h.ext e
theorem NewQ.mk {w : World} {b b' : Bool} {A A' : Option Addr} {n c n' c' : Nat} {q : Rat} (h : IsQ w (.agg #[.bool b, .slice A n c, .bool b', .slice A' n' c']) q) {base : Nat} (hb : base ≤ w.heap.size) (t : TypeId) :
    NewQ (w.alloc (.cells #[.bool b, .slice A n c, .bool b', .slice A' n' c'] t)) (.slice (some ⟨w.heap.size, 0, none⟩) 1 1) base q t :=
  ⟨_, _, rfl, hb, Box.new w t _ (by simp [isDig]), rfl, h.ext ((Ext.refl w).alloc _)⟩
theorem IsQ.cells_ {w : World} {v : Value} {q : Rat} (h : IsQ w v q) : ∃ b A n c b' A' n' c', v = .agg #[.bool b, .slice A n c, .bool b', .slice A' n' c'] := by
  obtain ⟨b, A, n, c, b', A', n', c', e, _⟩ := h; exact ⟨_, _, _, _, _, _, _, _, e⟩
theorem IsQ.one {w : World} {cs : Array Value} {q : Rat} (h : IsQ w (.agg cs) q) : (∀ u ∈ cs.toList, u.oneCell' = true) ∧ nodig cs = true ∧ cs.size = 4 := by
  obtain ⟨b, A, n, c, b', A', n', c', e⟩ := h.cells_
  obtain rfl := agg4 e
  refine ⟨fun u hu => ?_, by simp [nodig, isDig], rfl⟩
  simp at hu
  rcases hu with rfl | rfl | rfl | rfl <;> rfl
theorem IsQ.el {w : World} {v : Value} {q : Rat} (h : IsQ w v q) {p : Prop} (k : ∀ b A n c b' A' n' c', v = .agg #[.bool b, .slice A n c, .bool b', .slice A' n' c'] → IsQ w (.agg #[.bool b, .slice A n c, .bool b', .slice A' n' c']) q → p) : p := by
  obtain ⟨b, A, n, c, b', A', n', c', e⟩ := h.cells_
  exact k b A n c b' A' n' c' e (e ▸ h)
/-- A row of fractions of the call's own. -/
def OwnQ (base : Nat) (e : TypeId) (w : World) (v : Value) (l : List Rat) : Prop := OwnR 4 IsQ base e w v l
theorem OwnQ.ext {base : Nat} {e : TypeId} {w w' : World} {v : Value} {l : List Rat} (h : OwnQ base e w v l) (x : Ext w w') : OwnQ base e w' v l := OwnR.ext h x fun _ _ q => q.ext x
theorem OwnQ.upd {base : Nat} {e : TypeId} {w w' : World} {v : Value} {l : List Rat} {G : List Nat} (h : OwnQ base e w v l) (U : Upd G w w') (hg : ∀ g ∈ G, g < base) : OwnQ base e w' v l :=
  OwnR.upd h U (fun g hb hG => by have := hg g hG; have := (OwnR.blk_ge h g hb).1; omega) fun _ _ q => q.kd U.kd
theorem OwnQ.row {base : Nat} {e : TypeId} {w : World} {v : Value} {l : List Rat} (h : OwnQ base e w v l) : QsV base w v l := OwnR.row h
theorem OwnQ.from_ {base : Nat} {e : TypeId} {a w w' : World} {v : Value} {l : List Rat} (h : OwnQ base e w v l) (U : Upd (blk v) w w') (x : Ext a w) (hb : a.heap.size ≤ base) : Ext a w' :=
  U.from_ x fun g hg => Nat.le_trans hb (OwnR.blk_ge h g hg).1
theorem OwnQ.box {base : Nat} {e t : TypeId} {w w' : World} {v : Value} {l : List Rat} {g : Nat} {cs : Array Value} (h : OwnQ base e w v l) (U : Upd (blk v) w w') (b : Box w g t cs) (hb : g < base) : Box w' g t cs :=
  b.upd U fun hg => by have := (OwnR.blk_ge h g hg).1; omega
end Go.Hp
namespace Go.Proofs.YtedoifjbgokmcaaGreat
open Go.RowKit Go.Hp
/-- A row of digits of the call's own. -/
def OwnD (base : Nat) (w : World) (v : Value) (ds : List Nat) : Prop := w.ownsRow base 112 1 v ds.length (ds.map fun d => Value.int .u32 (d : Nat))
theorem OwnD.nil (base : Nat) (w : World) : OwnD base w (.slice none 0 0) [] := World.ownsRow_nil w base _ 1
theorem OwnD.digv {base : Nat} {w : World} {v : Value} {ds : List Nat} (h : OwnD base w v ds) (hd : Digs ds) : DigV w v ds := DigV.of_own h hd
theorem OwnD.from_ {base : Nat} {a w w' : World} {v : Value} {ds : List Nat} (h : OwnD base w v ds) (hg : w.grownBy w' v.ownBlock) (x : Ext a w) (hb : a.heap.size ≤ base) : Ext a w' :=
  x.grown hg fun k hk => Nat.le_trans hb (World.ownsRow.lt h k hk).1
theorem OwnD.alloc {base : Nat} {w : World} {v : Value} {ds : List Nat} (h : OwnD base w v ds) (o : Obj) : OwnD base (w.alloc o) v ds := World.ownsRow.alloc h o
theorem append_d (W : World) (base ty : Nat) (v : Value) (ds : List Nat) (d g : Nat) (z : Int) (h : OwnD base W v ds) (hz : z = (d : Nat)) (hn : ds.length ≤ 8796093022208) (hb : base ≤ W.heap.size) (hg : g = W.heap.size) :
    ∃ v' w', (Builtin.append_ #[36, 36] ty #[v, .slice (some ⟨g, 0, none⟩) 1 1]).run Tryz.prog (W.alloc (.cells #[.int .u32 z] 112)) = .ok v' w' ∧ (OwnD base w' v' (ds ++ [d]) ∧ (W.alloc (.cells #[.int .u32 z] 112)).grownBy w' v.ownBlock) := by
  subst hz hg
  obtain ⟨i0, hi, hz0, hz1, hz2⟩ := info_parts info_u32
  obtain ⟨v', w', a, b, c, _⟩ := run_append_own (P := Tryz.prog) (W.alloc (.cells #[.int .u32 (d : Nat)] 112)) base 36 ty 112 i0 (.int .u32 0) 1 4 Tryz.underlying36 hi hz0 hz1 hz2 rfl (by decide) v ds.length _ (h.alloc _) ⟨W.heap.size, 0, none⟩ 1 1 [.int .u32 (d : Nat)] rfl (news_new W _ _) (by intro u hu; simp at hu; subst hu; rfl) (by simp only [maxLen]; omega) (by omega) (by simp; omega)
  refine ⟨v', w', a, ?_, c⟩
  unfold OwnD
  rw [List.length_append, List.map_append]
  exact b
set_option maxHeartbeats 1000000 in
theorem below_r (v u : Value) (ds es : List Nat) (w : World) (hv : DigV w v ds) (hu : DigV w u es) (htd : Top ds) (hte : Top es) :
    Calls Tryz.prog 127 #[v, u] w (Gives w fun r _ => r = .bool (decide (nv ds < nv es))) := by
  obtain ⟨A, p1, rfl, hl, hc, hA⟩ := hv
  obtain ⟨E, p2, rfl, hl', hc', hE⟩ := hu
  obtain ⟨bx, hbx⟩ : ∃ bx, bx = decide (nv ds < nv es) := ⟨_, rfl⟩
  rw [← hbx]
  have Hb := Lib.hid hbx; clear hbx
  by_cases hne : ds.length = es.length
  · have hb0 : ((ds.length : Int) != es.length) = false := by simp [hne]
    have Hne := Lib.hid hne; clear hne
    have hle : es.length ≤ ds.length := by have := Hne.out; omega
    go_enter Tryz.func127, Tryz.ntmps127
    go_wp2
    go_loopw [5] (fun iv wr => ∃ k : Nat, k ≤ ds.length ∧ (∃ q : Int, q + 1 = k ∧ iv = .int .i64 q) ∧ nv (ds.drop k) = nv (es.drop k) ∧ Ext w wr) (fun iv _ => (intOf iv + 1).toNat)
    case atStart => exact ⟨ds.length, Nat.le_refl _, ⟨_, by omega, rfl⟩, by rw [List.drop_length, List.drop_of_length_le hle], Ext.refl _⟩
    case round =>
      obtain ⟨k, hk, ⟨q, hq, rfl⟩, hval, hx⟩ := hrel
      have Hv := Lib.hid hval; clear hval
      by_cases hk0 : 0 < k
      · obtain ⟨k, rfl⟩ : ∃ j, k = j + 1 := ⟨k - 1, by omega⟩
        obtain rfl : q = (k : Int) := by omega
        clear hq
        have hke : k < es.length := by have := Hne.out; omega
        obtain ⟨a, rfl, hca⟩ := dig_at hA (k := k) (by omega)
        obtain ⟨b, rfl, hcb⟩ := dig_at hE (k := k) hke
        replace hca := hx.cell hca
        replace hcb := hx.cell hcb
        have x1 := dg_bound hA.1 k
        have y1 := dg_bound hE.1 k
        generalize hxx : dg ds k = x at *
        generalize hyy : dg es k = y at *
        have Hx := Lib.hid hxx; clear hxx
        have Hy := Lib.hid hyy; clear hyy
        rcases Nat.lt_trichotomy x y with hlt | heq | hgt
        · have b1 : ((x : Int) != y) = true := by simp; omega
          have b2 : decide ((x : Int) < y) = true := by simp; omega
          go_wp2
          refine wp_region_par (k := 8) (D := [23, 24, 25, 26, 27, 28, 29, 30]) (T := [[], [], [0, 1], [0, 1, 2], [], [], [4, 5], [4, 5, 6], [0, 1, 2, 3, 4, 5, 6, 7]]) (EK := [0, 5, 1]) (EV := [?e1x0, ?e1x1, ?e1x2]) (VL := [(kv ?v1x0), (kv ?v1x1), (kv ?v1x2), (kv ?v1x3), (kv ?v1x4), (kv ?v1x5), (kv ?v1x6), (kv ?v1x7)]) (FL := fun γ w' => [True, True, True, True, True, True, True, True]) ?hE1 (by kernel_rfl) (by kernel_rfl) (by rfl) (by kernel_rfl) ?hloc1 ?hmono1 ?hstep1 ?htail1
          case hE1 => refine ⟨?_, ?_, ?_, trivial⟩ <;> (simp only [List.getElem?_toArray, List.getElem?_cons_succ, List.getElem?_cons_zero]; rfl)
          case hstep1 =>
            refine ⟨⟨⟨⟨⟨⟨⟨⟨trivial, ?_⟩, ?_⟩, ?_⟩, ?_⟩, ?_⟩, ?_⟩, ?_⟩, ?_⟩
            · intro γ w' he hf; clear hf; refine ⟨trivial, ?_⟩; intro R hR
              have hc := he.cells
              go_simp
              (try go_ints); (try (rw [if_neg (by omega)])); (try (rw [if_pos (by omega)])); (try go_simp); (try go_ints)
              refine hR _ _ (Ext.refl _) ?_ trivial
              rfl
            · intro γ w' he hf; clear hf; refine ⟨trivial, ?_⟩; intro R hR
              have hc := he.cells
              go_simp
              (try go_ints); (try (rw [if_neg (by omega)])); (try (rw [if_pos (by omega)])); (try go_simp); (try go_ints)
              refine hR _ _ (Ext.refl _) ?_ trivial
              rfl
            · intro γ w' he hf; clear hf; refine ⟨trivial, ?_⟩; intro R hR
              have hc := he.cells
              go_simp
              (try go_ints); (try (rw [if_neg (by omega)])); (try (rw [if_pos (by omega)])); (try go_simp); (try go_ints)
              refine hR _ _ (Ext.refl _) ?_ trivial
              rfl
            · intro γ w' he hf; clear hf; refine ⟨trivial, ?_⟩; intro R hR
              have hc := he.cells
              have cq0 := he.cell hca
              have cq1 := he.cell hcb
              go_simp
              (try go_ints); (try (rw [if_neg (by omega)])); (try (rw [if_pos (by omega)])); (try go_simp); (try go_ints)
              refine hR _ _ (Ext.refl _) ?_ trivial
              rfl
            · intro γ w' he hf; clear hf; refine ⟨trivial, ?_⟩; intro R hR
              have hc := he.cells
              go_simp
              (try go_ints); (try (rw [if_neg (by omega)])); (try (rw [if_pos (by omega)])); (try go_simp); (try go_ints)
              refine hR _ _ (Ext.refl _) ?_ trivial
              rfl
            · intro γ w' he hf; clear hf; refine ⟨trivial, ?_⟩; intro R hR
              have hc := he.cells
              go_simp
              (try go_ints); (try (rw [if_neg (by omega)])); (try (rw [if_pos (by omega)])); (try go_simp); (try go_ints)
              refine hR _ _ (Ext.refl _) ?_ trivial
              rfl
            · intro γ w' he hf; clear hf; refine ⟨trivial, ?_⟩; intro R hR
              have hc := he.cells
              go_simp
              (try go_ints); (try (rw [if_neg (by omega)])); (try (rw [if_pos (by omega)])); (try go_simp); (try go_ints)
              refine hR _ _ (Ext.refl _) ?_ trivial
              rfl
            · intro γ w' he hf; clear hf; refine ⟨trivial, ?_⟩; intro R hR
              have hc := he.cells
              have cq0 := he.cell hca
              have cq1 := he.cell hcb
              go_simp
              (try go_ints); (try (rw [if_neg (by omega)])); (try (rw [if_pos (by omega)])); (try go_simp); (try go_ints)
              refine hR _ _ (Ext.refl _) ?_ trivial
              rfl
          case hloc1 =>
            exact ⟨⟨⟨⟨⟨⟨⟨⟨trivial, (fun γ γ' h => ⟨rfl, fun _ => rfl⟩)⟩, (fun γ γ' h => ⟨rfl, fun _ => rfl⟩)⟩, (fun γ γ' h => ⟨rfl, fun _ => rfl⟩)⟩, (fun γ γ' h => ⟨rfl, fun _ => rfl⟩)⟩, (fun γ γ' h => ⟨rfl, fun _ => rfl⟩)⟩, (fun γ γ' h => ⟨rfl, fun _ => rfl⟩)⟩, (fun γ γ' h => ⟨rfl, fun _ => rfl⟩)⟩, (fun γ γ' h => ⟨rfl, fun _ => rfl⟩)⟩
          case hmono1 =>
            exact ⟨⟨⟨⟨⟨⟨⟨⟨trivial, (fun γ wA w' e h => h)⟩, (fun γ wA w' e h => h)⟩, (fun γ wA w' e h => h)⟩, (fun γ wA w' e h => h)⟩, (fun γ wA w' e h => h)⟩, (fun γ wA w' e h => h)⟩, (fun γ wA w' e h => h)⟩, (fun γ wA w' e h => h)⟩
          intro γ w1 hx1 hF
          clear hF
          simp only [fillAll, gV, kv, List.getD_cons_zero, List.getD_cons_succ, Act.put, List.setIfInBounds_toArray, List.set_cons_zero, List.set_cons_succ, List.toList_toArray, List.drop_succ_cons, List.drop_zero, List.drop_nil, Nat.zero_add, Nat.reduceAdd]
          clear γ
          replace hca := hx1.cell hca
          replace hcb := hx1.cell hcb
          go_wp2
          refine wp_region_par (k := 8) (D := [32, 33, 34, 35, 36, 37, 38, 39]) (T := [[], [], [0, 1], [0, 1, 2], [], [], [4, 5], [4, 5, 6], [0, 1, 2, 3, 4, 5, 6, 7], [0, 1, 2, 3, 4, 5, 6, 7, 8]]) (EK := [0, 5, 1]) (EV := [?e2x0, ?e2x1, ?e2x2]) (VL := [(kv ?v2x0), (kv ?v2x1), (kv ?v2x2), (kv ?v2x3), (kv ?v2x4), (kv ?v2x5), (kv ?v2x6), (kv ?v2x7)]) (FL := fun γ w' => [True, True, True, True, True, True, True, True]) ?hE2 (by kernel_rfl) (by kernel_rfl) (by rfl) (by kernel_rfl) ?hloc2 ?hmono2 ?hstep2 ?htail2
          case hE2 => refine ⟨?_, ?_, ?_, trivial⟩ <;> (simp only [List.getElem?_toArray, List.getElem?_cons_succ, List.getElem?_cons_zero]; rfl)
          case hstep2 =>
            refine ⟨⟨⟨⟨⟨⟨⟨⟨trivial, ?_⟩, ?_⟩, ?_⟩, ?_⟩, ?_⟩, ?_⟩, ?_⟩, ?_⟩
            · intro γ w' he hf; clear hf; refine ⟨trivial, ?_⟩; intro R hR
              have hc := he.cells
              go_simp
              (try go_ints); (try (rw [if_neg (by omega)])); (try (rw [if_pos (by omega)])); (try go_simp); (try go_ints)
              refine hR _ _ (Ext.refl _) ?_ trivial
              rfl
            · intro γ w' he hf; clear hf; refine ⟨trivial, ?_⟩; intro R hR
              have hc := he.cells
              go_simp
              (try go_ints); (try (rw [if_neg (by omega)])); (try (rw [if_pos (by omega)])); (try go_simp); (try go_ints)
              refine hR _ _ (Ext.refl _) ?_ trivial
              rfl
            · intro γ w' he hf; clear hf; refine ⟨trivial, ?_⟩; intro R hR
              have hc := he.cells
              go_simp
              (try go_ints); (try (rw [if_neg (by omega)])); (try (rw [if_pos (by omega)])); (try go_simp); (try go_ints)
              refine hR _ _ (Ext.refl _) ?_ trivial
              rfl
            · intro γ w' he hf; clear hf; refine ⟨trivial, ?_⟩; intro R hR
              have hc := he.cells
              have cq0 := he.cell hca
              have cq1 := he.cell hcb
              go_simp
              (try go_ints); (try (rw [if_neg (by omega)])); (try (rw [if_pos (by omega)])); (try go_simp); (try go_ints)
              refine hR _ _ (Ext.refl _) ?_ trivial
              rfl
            · intro γ w' he hf; clear hf; refine ⟨trivial, ?_⟩; intro R hR
              have hc := he.cells
              go_simp
              (try go_ints); (try (rw [if_neg (by omega)])); (try (rw [if_pos (by omega)])); (try go_simp); (try go_ints)
              refine hR _ _ (Ext.refl _) ?_ trivial
              rfl
            · intro γ w' he hf; clear hf; refine ⟨trivial, ?_⟩; intro R hR
              have hc := he.cells
              go_simp
              (try go_ints); (try (rw [if_neg (by omega)])); (try (rw [if_pos (by omega)])); (try go_simp); (try go_ints)
              refine hR _ _ (Ext.refl _) ?_ trivial
              rfl
            · intro γ w' he hf; clear hf; refine ⟨trivial, ?_⟩; intro R hR
              have hc := he.cells
              go_simp
              (try go_ints); (try (rw [if_neg (by omega)])); (try (rw [if_pos (by omega)])); (try go_simp); (try go_ints)
              refine hR _ _ (Ext.refl _) ?_ trivial
              rfl
            · intro γ w' he hf; clear hf; refine ⟨trivial, ?_⟩; intro R hR
              have hc := he.cells
              have cq0 := he.cell hca
              have cq1 := he.cell hcb
              go_simp
              (try go_ints); (try (rw [if_neg (by omega)])); (try (rw [if_pos (by omega)])); (try go_simp); (try go_ints)
              refine hR _ _ (Ext.refl _) ?_ trivial
              rfl
          case hloc2 =>
            exact ⟨⟨⟨⟨⟨⟨⟨⟨trivial, (fun γ γ' h => ⟨rfl, fun _ => rfl⟩)⟩, (fun γ γ' h => ⟨rfl, fun _ => rfl⟩)⟩, (fun γ γ' h => ⟨rfl, fun _ => rfl⟩)⟩, (fun γ γ' h => ⟨rfl, fun _ => rfl⟩)⟩, (fun γ γ' h => ⟨rfl, fun _ => rfl⟩)⟩, (fun γ γ' h => ⟨rfl, fun _ => rfl⟩)⟩, (fun γ γ' h => ⟨rfl, fun _ => rfl⟩)⟩, (fun γ γ' h => ⟨rfl, fun _ => rfl⟩)⟩
          case hmono2 =>
            exact ⟨⟨⟨⟨⟨⟨⟨⟨trivial, (fun γ wA w' e h => h)⟩, (fun γ wA w' e h => h)⟩, (fun γ wA w' e h => h)⟩, (fun γ wA w' e h => h)⟩, (fun γ wA w' e h => h)⟩, (fun γ wA w' e h => h)⟩, (fun γ wA w' e h => h)⟩, (fun γ wA w' e h => h)⟩
          intro γ w2 hx2 hF
          clear hF
          simp only [fillAll, gV, kv, List.getD_cons_zero, List.getD_cons_succ, Act.put, List.setIfInBounds_toArray, List.set_cons_zero, List.set_cons_succ, List.toList_toArray, List.drop_succ_cons, List.drop_zero, List.drop_nil, Nat.zero_add, Nat.reduceAdd]
          clear γ
          go_wp2
          go_ret
          refine Gives.mk ?_ ((hx.trans hx1).trans hx2)
          exact congrArg Value.bool (Hb.out.trans (decide_eq_true (top_differs hA.1 hE.1 (by omega) hke Hv.out (by rw [Hx.out, Hy.out]; exact hlt)))).symm
        · subst heq
          have b1 : ((x : Int) != x) = false := by simp
          go_wp2
          refine wp_region_par (k := 8) (D := [23, 24, 25, 26, 27, 28, 29, 30]) (T := [[], [], [0, 1], [0, 1, 2], [], [], [4, 5], [4, 5, 6], [0, 1, 2, 3, 4, 5, 6, 7]]) (EK := [0, 5, 1]) (EV := [?e3x0, ?e3x1, ?e3x2]) (VL := [(kv ?v3x0), (kv ?v3x1), (kv ?v3x2), (kv ?v3x3), (kv ?v3x4), (kv ?v3x5), (kv ?v3x6), (kv ?v3x7)]) (FL := fun γ w' => [True, True, True, True, True, True, True, True]) ?hE3 (by kernel_rfl) (by kernel_rfl) (by rfl) (by kernel_rfl) ?hloc3 ?hmono3 ?hstep3 ?htail3
          case hE3 => refine ⟨?_, ?_, ?_, trivial⟩ <;> (simp only [List.getElem?_toArray, List.getElem?_cons_succ, List.getElem?_cons_zero]; rfl)
          case hstep3 =>
            refine ⟨⟨⟨⟨⟨⟨⟨⟨trivial, ?_⟩, ?_⟩, ?_⟩, ?_⟩, ?_⟩, ?_⟩, ?_⟩, ?_⟩
            · intro γ w' he hf; clear hf; refine ⟨trivial, ?_⟩; intro R hR
              have hc := he.cells
              go_simp
              (try go_ints); (try (rw [if_neg (by omega)])); (try (rw [if_pos (by omega)])); (try go_simp); (try go_ints)
              refine hR _ _ (Ext.refl _) ?_ trivial
              rfl
            · intro γ w' he hf; clear hf; refine ⟨trivial, ?_⟩; intro R hR
              have hc := he.cells
              go_simp
              (try go_ints); (try (rw [if_neg (by omega)])); (try (rw [if_pos (by omega)])); (try go_simp); (try go_ints)
              refine hR _ _ (Ext.refl _) ?_ trivial
              rfl
            · intro γ w' he hf; clear hf; refine ⟨trivial, ?_⟩; intro R hR
              have hc := he.cells
              go_simp
              (try go_ints); (try (rw [if_neg (by omega)])); (try (rw [if_pos (by omega)])); (try go_simp); (try go_ints)
              refine hR _ _ (Ext.refl _) ?_ trivial
              rfl
            · intro γ w' he hf; clear hf; refine ⟨trivial, ?_⟩; intro R hR
              have hc := he.cells
              have cq0 := he.cell hca
              have cq1 := he.cell hcb
              go_simp
              (try go_ints); (try (rw [if_neg (by omega)])); (try (rw [if_pos (by omega)])); (try go_simp); (try go_ints)
              refine hR _ _ (Ext.refl _) ?_ trivial
              rfl
            · intro γ w' he hf; clear hf; refine ⟨trivial, ?_⟩; intro R hR
              have hc := he.cells
              go_simp
              (try go_ints); (try (rw [if_neg (by omega)])); (try (rw [if_pos (by omega)])); (try go_simp); (try go_ints)
              refine hR _ _ (Ext.refl _) ?_ trivial
              rfl
            · intro γ w' he hf; clear hf; refine ⟨trivial, ?_⟩; intro R hR
              have hc := he.cells
              go_simp
              (try go_ints); (try (rw [if_neg (by omega)])); (try (rw [if_pos (by omega)])); (try go_simp); (try go_ints)
              refine hR _ _ (Ext.refl _) ?_ trivial
              rfl
            · intro γ w' he hf; clear hf; refine ⟨trivial, ?_⟩; intro R hR
              have hc := he.cells
              go_simp
              (try go_ints); (try (rw [if_neg (by omega)])); (try (rw [if_pos (by omega)])); (try go_simp); (try go_ints)
              refine hR _ _ (Ext.refl _) ?_ trivial
              rfl
            · intro γ w' he hf; clear hf; refine ⟨trivial, ?_⟩; intro R hR
              have hc := he.cells
              have cq0 := he.cell hca
              have cq1 := he.cell hcb
              go_simp
              (try go_ints); (try (rw [if_neg (by omega)])); (try (rw [if_pos (by omega)])); (try go_simp); (try go_ints)
              refine hR _ _ (Ext.refl _) ?_ trivial
              rfl
          case hloc3 =>
            exact ⟨⟨⟨⟨⟨⟨⟨⟨trivial, (fun γ γ' h => ⟨rfl, fun _ => rfl⟩)⟩, (fun γ γ' h => ⟨rfl, fun _ => rfl⟩)⟩, (fun γ γ' h => ⟨rfl, fun _ => rfl⟩)⟩, (fun γ γ' h => ⟨rfl, fun _ => rfl⟩)⟩, (fun γ γ' h => ⟨rfl, fun _ => rfl⟩)⟩, (fun γ γ' h => ⟨rfl, fun _ => rfl⟩)⟩, (fun γ γ' h => ⟨rfl, fun _ => rfl⟩)⟩, (fun γ γ' h => ⟨rfl, fun _ => rfl⟩)⟩
          case hmono3 =>
            exact ⟨⟨⟨⟨⟨⟨⟨⟨trivial, (fun γ wA w' e h => h)⟩, (fun γ wA w' e h => h)⟩, (fun γ wA w' e h => h)⟩, (fun γ wA w' e h => h)⟩, (fun γ wA w' e h => h)⟩, (fun γ wA w' e h => h)⟩, (fun γ wA w' e h => h)⟩, (fun γ wA w' e h => h)⟩
          intro γ w1 hx1 hF
          clear hF
          simp only [fillAll, gV, kv, List.getD_cons_zero, List.getD_cons_succ, Act.put, List.setIfInBounds_toArray, List.set_cons_zero, List.set_cons_succ, List.toList_toArray, List.drop_succ_cons, List.drop_zero, List.drop_nil, Nat.zero_add, Nat.reduceAdd]
          clear γ
          go_wp2
          go_roundw
          case rel =>
            refine ⟨k, by omega, ⟨_, by omega, rfl⟩, ?_, hx.trans hx1⟩
            rw [nv_drop (by omega), nv_drop hke, ← dg_lt, ← dg_lt, Hx.out, Hy.out, Hv.out]
          case measure => simp [intOf] <;> omega
        · have b1 : ((x : Int) != y) = true := by simp; omega
          have b2 : decide ((x : Int) < y) = false := by simp; omega
          go_wp2
          refine wp_region_par (k := 8) (D := [23, 24, 25, 26, 27, 28, 29, 30]) (T := [[], [], [0, 1], [0, 1, 2], [], [], [4, 5], [4, 5, 6], [0, 1, 2, 3, 4, 5, 6, 7]]) (EK := [0, 5, 1]) (EV := [?e4x0, ?e4x1, ?e4x2]) (VL := [(kv ?v4x0), (kv ?v4x1), (kv ?v4x2), (kv ?v4x3), (kv ?v4x4), (kv ?v4x5), (kv ?v4x6), (kv ?v4x7)]) (FL := fun γ w' => [True, True, True, True, True, True, True, True]) ?hE4 (by kernel_rfl) (by kernel_rfl) (by rfl) (by kernel_rfl) ?hloc4 ?hmono4 ?hstep4 ?htail4
          case hE4 => refine ⟨?_, ?_, ?_, trivial⟩ <;> (simp only [List.getElem?_toArray, List.getElem?_cons_succ, List.getElem?_cons_zero]; rfl)
          case hstep4 =>
            refine ⟨⟨⟨⟨⟨⟨⟨⟨trivial, ?_⟩, ?_⟩, ?_⟩, ?_⟩, ?_⟩, ?_⟩, ?_⟩, ?_⟩
            · intro γ w' he hf; clear hf; refine ⟨trivial, ?_⟩; intro R hR
              have hc := he.cells
              go_simp
              (try go_ints); (try (rw [if_neg (by omega)])); (try (rw [if_pos (by omega)])); (try go_simp); (try go_ints)
              refine hR _ _ (Ext.refl _) ?_ trivial
              rfl
            · intro γ w' he hf; clear hf; refine ⟨trivial, ?_⟩; intro R hR
              have hc := he.cells
              go_simp
              (try go_ints); (try (rw [if_neg (by omega)])); (try (rw [if_pos (by omega)])); (try go_simp); (try go_ints)
              refine hR _ _ (Ext.refl _) ?_ trivial
              rfl
            · intro γ w' he hf; clear hf; refine ⟨trivial, ?_⟩; intro R hR
              have hc := he.cells
              go_simp
              (try go_ints); (try (rw [if_neg (by omega)])); (try (rw [if_pos (by omega)])); (try go_simp); (try go_ints)
              refine hR _ _ (Ext.refl _) ?_ trivial
              rfl
            · intro γ w' he hf; clear hf; refine ⟨trivial, ?_⟩; intro R hR
              have hc := he.cells
              have cq0 := he.cell hca
              have cq1 := he.cell hcb
              go_simp
              (try go_ints); (try (rw [if_neg (by omega)])); (try (rw [if_pos (by omega)])); (try go_simp); (try go_ints)
              refine hR _ _ (Ext.refl _) ?_ trivial
              rfl
            · intro γ w' he hf; clear hf; refine ⟨trivial, ?_⟩; intro R hR
              have hc := he.cells
              go_simp
              (try go_ints); (try (rw [if_neg (by omega)])); (try (rw [if_pos (by omega)])); (try go_simp); (try go_ints)
              refine hR _ _ (Ext.refl _) ?_ trivial
              rfl
            · intro γ w' he hf; clear hf; refine ⟨trivial, ?_⟩; intro R hR
              have hc := he.cells
              go_simp
              (try go_ints); (try (rw [if_neg (by omega)])); (try (rw [if_pos (by omega)])); (try go_simp); (try go_ints)
              refine hR _ _ (Ext.refl _) ?_ trivial
              rfl
            · intro γ w' he hf; clear hf; refine ⟨trivial, ?_⟩; intro R hR
              have hc := he.cells
              go_simp
              (try go_ints); (try (rw [if_neg (by omega)])); (try (rw [if_pos (by omega)])); (try go_simp); (try go_ints)
              refine hR _ _ (Ext.refl _) ?_ trivial
              rfl
            · intro γ w' he hf; clear hf; refine ⟨trivial, ?_⟩; intro R hR
              have hc := he.cells
              have cq0 := he.cell hca
              have cq1 := he.cell hcb
              go_simp
              (try go_ints); (try (rw [if_neg (by omega)])); (try (rw [if_pos (by omega)])); (try go_simp); (try go_ints)
              refine hR _ _ (Ext.refl _) ?_ trivial
              rfl
          case hloc4 =>
            exact ⟨⟨⟨⟨⟨⟨⟨⟨trivial, (fun γ γ' h => ⟨rfl, fun _ => rfl⟩)⟩, (fun γ γ' h => ⟨rfl, fun _ => rfl⟩)⟩, (fun γ γ' h => ⟨rfl, fun _ => rfl⟩)⟩, (fun γ γ' h => ⟨rfl, fun _ => rfl⟩)⟩, (fun γ γ' h => ⟨rfl, fun _ => rfl⟩)⟩, (fun γ γ' h => ⟨rfl, fun _ => rfl⟩)⟩, (fun γ γ' h => ⟨rfl, fun _ => rfl⟩)⟩, (fun γ γ' h => ⟨rfl, fun _ => rfl⟩)⟩
          case hmono4 =>
            exact ⟨⟨⟨⟨⟨⟨⟨⟨trivial, (fun γ wA w' e h => h)⟩, (fun γ wA w' e h => h)⟩, (fun γ wA w' e h => h)⟩, (fun γ wA w' e h => h)⟩, (fun γ wA w' e h => h)⟩, (fun γ wA w' e h => h)⟩, (fun γ wA w' e h => h)⟩, (fun γ wA w' e h => h)⟩
          intro γ w1 hx1 hF
          clear hF
          simp only [fillAll, gV, kv, List.getD_cons_zero, List.getD_cons_succ, Act.put, List.setIfInBounds_toArray, List.set_cons_zero, List.set_cons_succ, List.toList_toArray, List.drop_succ_cons, List.drop_zero, List.drop_nil, Nat.zero_add, Nat.reduceAdd]
          clear γ
          replace hca := hx1.cell hca
          replace hcb := hx1.cell hcb
          go_wp2
          refine wp_region_par (k := 8) (D := [32, 33, 34, 35, 36, 37, 38, 39]) (T := [[], [], [0, 1], [0, 1, 2], [], [], [4, 5], [4, 5, 6], [0, 1, 2, 3, 4, 5, 6, 7], [0, 1, 2, 3, 4, 5, 6, 7, 8]]) (EK := [0, 5, 1]) (EV := [?e5x0, ?e5x1, ?e5x2]) (VL := [(kv ?v5x0), (kv ?v5x1), (kv ?v5x2), (kv ?v5x3), (kv ?v5x4), (kv ?v5x5), (kv ?v5x6), (kv ?v5x7)]) (FL := fun γ w' => [True, True, True, True, True, True, True, True]) ?hE5 (by kernel_rfl) (by kernel_rfl) (by rfl) (by kernel_rfl) ?hloc5 ?hmono5 ?hstep5 ?htail5
          case hE5 => refine ⟨?_, ?_, ?_, trivial⟩ <;> (simp only [List.getElem?_toArray, List.getElem?_cons_succ, List.getElem?_cons_zero]; rfl)
          case hstep5 =>
            refine ⟨⟨⟨⟨⟨⟨⟨⟨trivial, ?_⟩, ?_⟩, ?_⟩, ?_⟩, ?_⟩, ?_⟩, ?_⟩, ?_⟩
            · intro γ w' he hf; clear hf; refine ⟨trivial, ?_⟩; intro R hR
              have hc := he.cells
              go_simp
              (try go_ints); (try (rw [if_neg (by omega)])); (try (rw [if_pos (by omega)])); (try go_simp); (try go_ints)
              refine hR _ _ (Ext.refl _) ?_ trivial
              rfl
            · intro γ w' he hf; clear hf; refine ⟨trivial, ?_⟩; intro R hR
              have hc := he.cells
              go_simp
              (try go_ints); (try (rw [if_neg (by omega)])); (try (rw [if_pos (by omega)])); (try go_simp); (try go_ints)
              refine hR _ _ (Ext.refl _) ?_ trivial
              rfl
            · intro γ w' he hf; clear hf; refine ⟨trivial, ?_⟩; intro R hR
              have hc := he.cells
              go_simp
              (try go_ints); (try (rw [if_neg (by omega)])); (try (rw [if_pos (by omega)])); (try go_simp); (try go_ints)
              refine hR _ _ (Ext.refl _) ?_ trivial
              rfl
            · intro γ w' he hf; clear hf; refine ⟨trivial, ?_⟩; intro R hR
              have hc := he.cells
              have cq0 := he.cell hca
              have cq1 := he.cell hcb
              go_simp
              (try go_ints); (try (rw [if_neg (by omega)])); (try (rw [if_pos (by omega)])); (try go_simp); (try go_ints)
              refine hR _ _ (Ext.refl _) ?_ trivial
              rfl
            · intro γ w' he hf; clear hf; refine ⟨trivial, ?_⟩; intro R hR
              have hc := he.cells
              go_simp
              (try go_ints); (try (rw [if_neg (by omega)])); (try (rw [if_pos (by omega)])); (try go_simp); (try go_ints)
              refine hR _ _ (Ext.refl _) ?_ trivial
              rfl
            · intro γ w' he hf; clear hf; refine ⟨trivial, ?_⟩; intro R hR
              have hc := he.cells
              go_simp
              (try go_ints); (try (rw [if_neg (by omega)])); (try (rw [if_pos (by omega)])); (try go_simp); (try go_ints)
              refine hR _ _ (Ext.refl _) ?_ trivial
              rfl
            · intro γ w' he hf; clear hf; refine ⟨trivial, ?_⟩; intro R hR
              have hc := he.cells
              go_simp
              (try go_ints); (try (rw [if_neg (by omega)])); (try (rw [if_pos (by omega)])); (try go_simp); (try go_ints)
              refine hR _ _ (Ext.refl _) ?_ trivial
              rfl
            · intro γ w' he hf; clear hf; refine ⟨trivial, ?_⟩; intro R hR
              have hc := he.cells
              have cq0 := he.cell hca
              have cq1 := he.cell hcb
              go_simp
              (try go_ints); (try (rw [if_neg (by omega)])); (try (rw [if_pos (by omega)])); (try go_simp); (try go_ints)
              refine hR _ _ (Ext.refl _) ?_ trivial
              rfl
          case hloc5 =>
            exact ⟨⟨⟨⟨⟨⟨⟨⟨trivial, (fun γ γ' h => ⟨rfl, fun _ => rfl⟩)⟩, (fun γ γ' h => ⟨rfl, fun _ => rfl⟩)⟩, (fun γ γ' h => ⟨rfl, fun _ => rfl⟩)⟩, (fun γ γ' h => ⟨rfl, fun _ => rfl⟩)⟩, (fun γ γ' h => ⟨rfl, fun _ => rfl⟩)⟩, (fun γ γ' h => ⟨rfl, fun _ => rfl⟩)⟩, (fun γ γ' h => ⟨rfl, fun _ => rfl⟩)⟩, (fun γ γ' h => ⟨rfl, fun _ => rfl⟩)⟩
          case hmono5 =>
            exact ⟨⟨⟨⟨⟨⟨⟨⟨trivial, (fun γ wA w' e h => h)⟩, (fun γ wA w' e h => h)⟩, (fun γ wA w' e h => h)⟩, (fun γ wA w' e h => h)⟩, (fun γ wA w' e h => h)⟩, (fun γ wA w' e h => h)⟩, (fun γ wA w' e h => h)⟩, (fun γ wA w' e h => h)⟩
          intro γ w2 hx2 hF
          clear hF
          simp only [fillAll, gV, kv, List.getD_cons_zero, List.getD_cons_succ, Act.put, List.setIfInBounds_toArray, List.set_cons_zero, List.set_cons_succ, List.toList_toArray, List.drop_succ_cons, List.drop_zero, List.drop_nil, Nat.zero_add, Nat.reduceAdd]
          clear γ
          go_wp2
          go_ret
          refine Gives.mk ?_ ((hx.trans hx1).trans hx2)
          have := top_differs hE.1 hA.1 hke (by omega) Hv.out.symm (by rw [Hx.out, Hy.out]; exact hgt)
          exact congrArg Value.bool ((decide_eq_false (by omega)).trans <| (decide_eq_false (by omega)).symm.trans Hb.out.symm)
      · obtain rfl : k = 0 := by omega
        have q1 : q < 0 := by omega
        have Hq := Lib.hid hq; clear hq
        go_wp2
        go_ret
        refine Gives.mk ?_ hx
        have := Hv.out
        simp only [List.drop_zero] at this
        exact congrArg Value.bool ((decide_eq_false (by omega)).symm.trans Hb.out.symm)
  · have hb0 : ((ds.length : Int) != es.length) = true := by simp; omega
    have hbl : decide (ds.length < es.length) = bx := by
      rw [Hb.out]
      rcases Nat.lt_or_ge ds.length es.length with h | h
      · rw [decide_eq_true h, decide_eq_true (top_len_lt hA.1 hte h)]
      · have := top_len_lt hE.1 htd (show es.length < ds.length by omega)
        rw [decide_eq_false (by omega), decide_eq_false (by omega)]
    have Hbl := Lib.hid hbl; clear hbl
    go_enter Tryz.func127, Tryz.ntmps127
    go_wp2
    go_ret
    exact Gives.mk (by rw [← Hbl.out]; simp) (Ext.refl _)
set_option maxHeartbeats 1000000 in
theorem plus_r (v u : Value) (ds es : List Nat) (w : World) (hv : DigV w v ds) (hu : DigV w u es) (hn : ds.length ≤ 4398046511104) (hm : es.length ≤ 4398046511104) :
    Calls Tryz.prog 126 #[v, u] w (Gives w fun r w' => ∃ l, DigV w' r l ∧ nv l = nv ds + nv es ∧ l.length = max ds.length es.length + 1) := by
  obtain ⟨A, p1, rfl, hl, hc, hA⟩ := hv
  obtain ⟨E, p2, rfl, hl', hc', hE⟩ := hu
  go_enter Tryz.func126, Tryz.ntmps126
  go_wp2
  go_loopw [5, 6, 7] (fun ov cv iv wr => ∃ (k c0 : Nat) (l : List Nat), k ≤ max ds.length es.length ∧ iv = .int .i64 k ∧ cv = .int .u64 c0 ∧ c0 ≤ 1 ∧ l.length = k ∧ OwnD w.heap.size wr ov l ∧ Digs l ∧ nv l + c0 * bp k = nv (ds.take k) + nv (es.take k) ∧ Ext w wr) (fun _ _ iv _ => max ds.length es.length - (intOf iv).toNat)
  case atStart => exact ⟨0, 0, [], Nat.zero_le _, rfl, rfl, Nat.zero_le _, rfl, OwnD.nil _ _, Digs.nil, by simp [nv_nil], Ext.refl _⟩
  case round =>
    obtain ⟨k, c0, l, hk, rfl, rfl, hc0, hll, hown, hdl, hval, hx⟩ := hrel
    have x1 := dg_bound hA.1 k
    have y1 := dg_bound hE.1 k
    have Hl := Lib.hid (And.intro hll (And.intro hdl hval)); clear hll hdl hval
    have Hown := Lib.hid hown; clear hown
    by_cases hkm : k < max ds.length es.length
    · generalize hxx : dg ds k = x at *
      generalize hyy : dg es k = y at *
      have Hx := Lib.hid (And.intro hxx hyy); clear hxx hyy
      have hsz := hx.size
      by_cases h1 : k < ds.length
      · obtain ⟨a, rfl, hca⟩ := dig_at hA h1
        rw [Hx.out.1] at hca
        replace hca := hx.cell hca
        by_cases h2 : k < es.length
        · obtain ⟨b, rfl, hcb⟩ := dig_at hE h2
          rw [Hx.out.2] at hcb
          replace hcb := hx.cell hcb
          go_wp2_with (at_builtin; refine wpList_append_run rfl _ _ 36 rfl u5 (.slice (some ⟨wr.heap.size, 0, none⟩) 1 1) rfl rfl (append_d wr w.heap.size _ _ l ((x + y + c0) % 4294967296) _ _ Hown.out (by omega) (by have := Hl.out.1; omega) hsz rfl) ?_)
          rintro v' w2 hown hg
          replace hx := (Hown.out.alloc _).from_ hg (hx.alloc _) (Nat.le_refl _)
          have Hown' := Lib.hid hown; clear hown hg
          go_wp2
          go_roundw
          case rel => exact ⟨k + 1, (x + y + c0) / 4294967296, _, by omega, by go_num, by go_num, by omega, by simp [Hl.out.1], Hown'.out, Hl.out.2.1.append (Digs.cons (by omega) Digs.nil), by
            rw [nv_snoc, Hl.out.1, nv_take_dg, nv_take_dg, Hx.out.1, Hx.out.2, bp_succ]
            have h := add_step (x := x) (y := y) Hl.out.2.2
            simpa only [Nat.add_zero, Nat.zero_add] using h, hx⟩
          case measure => simp [intOf]; omega
        · obtain rfl : y = 0 := by rw [← Hx.out.2]; exact dg_ge (by omega)
          go_wp2_with (at_builtin; refine wpList_append_run rfl _ _ 36 rfl u5 (.slice (some ⟨wr.heap.size, 0, none⟩) 1 1) rfl rfl (append_d wr w.heap.size _ _ l ((x + 0 + c0) % 4294967296) _ _ Hown.out (by omega) (by have := Hl.out.1; omega) hsz rfl) ?_)
          rintro v' w2 hown hg
          replace hx := (Hown.out.alloc _).from_ hg (hx.alloc _) (Nat.le_refl _)
          have Hown' := Lib.hid hown; clear hown hg
          go_wp2
          go_roundw
          case rel => exact ⟨k + 1, (x + 0 + c0) / 4294967296, _, by omega, by go_num, by go_num, by omega, by simp [Hl.out.1], Hown'.out, Hl.out.2.1.append (Digs.cons (by omega) Digs.nil), by
            rw [nv_snoc, Hl.out.1, nv_take_dg, nv_take_dg, Hx.out.1, Hx.out.2, bp_succ]
            have h := add_step (x := x) (y := 0) Hl.out.2.2
            simpa only [Nat.add_zero, Nat.zero_add] using h, hx⟩
          case measure => simp [intOf]; omega
      · obtain rfl : x = 0 := by rw [← Hx.out.1]; exact dg_ge (by omega)
        have h2 : k < es.length := by omega
        obtain ⟨b, rfl, hcb⟩ := dig_at hE h2
        rw [Hx.out.2] at hcb
        replace hcb := hx.cell hcb
        go_wp2_with (at_builtin; refine wpList_append_run rfl _ _ 36 rfl u5 (.slice (some ⟨wr.heap.size, 0, none⟩) 1 1) rfl rfl (append_d wr w.heap.size _ _ l ((0 + y + c0) % 4294967296) _ _ Hown.out (by omega) (by have := Hl.out.1; omega) hsz rfl) ?_)
        rintro v' w2 hown hg
        replace hx := (Hown.out.alloc _).from_ hg (hx.alloc _) (Nat.le_refl _)
        have Hown' := Lib.hid hown; clear hown hg
        go_wp2
        go_roundw
        case rel => exact ⟨k + 1, (0 + y + c0) / 4294967296, _, by omega, by go_num, by go_num, by omega, by simp [Hl.out.1], Hown'.out, Hl.out.2.1.append (Digs.cons (by omega) Digs.nil), by
          rw [nv_snoc, Hl.out.1, nv_take_dg, nv_take_dg, Hx.out.1, Hx.out.2, bp_succ]
          have h := add_step (x := 0) (y := y) Hl.out.2.2
          simpa only [Nat.add_zero, Nat.zero_add] using h, hx⟩
        case measure => simp [intOf]; omega
    · have hkk : k = max ds.length es.length := by omega
      have h1 : ¬ k < ds.length := by omega
      have h2 : ¬ k < es.length := by omega
      have hsz := hx.size
      have Hkk := Lib.hid hkk; clear hkk
      go_wp2_with (at_builtin; refine wpList_append_run rfl _ _ 36 rfl u5 (.slice (some ⟨wr.heap.size, 0, none⟩) 1 1) rfl rfl (append_d wr w.heap.size _ _ l c0 _ _ Hown.out (by omega) (by have := Hl.out.1; omega) hsz rfl) ?_)
      rintro v' w2 hown hg
      replace hx := (Hown.out.alloc _).from_ hg (hx.alloc _) (Nat.le_refl _)
      have Hown' := Lib.hid hown; clear hown hg
      go_wp2
      go_ret
      refine Gives.mk ⟨_, Hown'.out.digv (Hl.out.2.1.append (Digs.cons (by omega) Digs.nil)), ?_, by rw [List.length_append, Hl.out.1, Hkk.out]; rfl⟩ hx
      have h3 := Hl.out.2.2
      rw [List.take_of_length_le (by omega), List.take_of_length_le (by omega)] at h3
      rw [nv_snoc, Hl.out.1, ← h3, Nat.mul_comm]
end Go.Proofs.YtedoifjbgokmcaaGreat
namespace Go.Hp
theorem rsub_step {L X Y p c x y b : Nat} (h : L + Y = X + c * p) (hb : c + y ≤ x + b * 4294967296) : L + p * (x + b * 4294967296 - (c + y)) + (Y + p * y) = X + p * x + b * (4294967296 * p) := by
  obtain ⟨D, hD⟩ : ∃ D, x + b * 4294967296 - (c + y) = D := ⟨_, rfl⟩
  rw [hD]
  have h1 : D + c + y = x + b * 4294967296 := by omega
  have h2 : p * D + p * c + p * y = p * x + b * (4294967296 * p) := by
    rw [← Nat.mul_add, ← Nat.mul_add, h1, Nat.mul_add, Nat.mul_left_comm b, ← Nat.mul_assoc p b, Nat.mul_comm p b, Nat.mul_comm (b * p)]
  have h3 : c * p = p * c := Nat.mul_comm _ _
  omega
end Go.Hp
namespace Go.Proofs.YtedoifjbgokmcaaGreat
open Go.RowKit Go.Hp
set_option maxHeartbeats 1000000 in
theorem minus_r (v u : Value) (ds es : List Nat) (w : World) (hv : DigV w v ds) (hu : DigV w u es) (hn : ds.length ≤ 4398046511104) (hm : es.length ≤ ds.length) (hle : nv es ≤ nv ds) :
    Calls Tryz.prog 128 #[v, u] w (Gives w fun r w' => ∃ l, DigV w' r l ∧ nv l = nv ds - nv es ∧ l.length = ds.length) := by
  obtain ⟨A, p1, rfl, hl, hc, hA⟩ := hv
  obtain ⟨E, p2, rfl, hl', hc', hE⟩ := hu
  have Hle := Lib.hid hle; clear hle
  go_enter Tryz.func128, Tryz.ntmps128
  go_wp2
  go_loopw [5, 6, 7] (fun ov cv iv wr => ∃ (k c0 : Nat) (l : List Nat), k ≤ ds.length ∧ iv = .int .i64 k ∧ cv = .int .u64 c0 ∧ c0 ≤ 1 ∧ l.length = k ∧ OwnD w.heap.size wr ov l ∧ Digs l ∧ nv l + nv (es.take k) = nv (ds.take k) + c0 * bp k ∧ Ext w wr) (fun _ _ iv _ => ds.length - (intOf iv).toNat)
  case atStart => exact ⟨0, 0, [], Nat.zero_le _, rfl, rfl, Nat.zero_le _, rfl, OwnD.nil _ _, Digs.nil, by simp [nv_nil], Ext.refl _⟩
  case round =>
    obtain ⟨k, c0, l, hk, rfl, rfl, hc0, hll, hown, hdl, hval, hx⟩ := hrel
    have x1 := dg_bound hA.1 k
    have y1 := dg_bound hE.1 k
    have Hl := Lib.hid (And.intro hll (And.intro hdl hval)); clear hll hdl hval
    have Hown := Lib.hid hown; clear hown
    by_cases hkm : k < ds.length
    · generalize hxx : dg ds k = x at *
      generalize hyy : dg es k = y at *
      have Hx := Lib.hid (And.intro hxx hyy); clear hxx hyy
      have hsz := hx.size
      obtain ⟨a, rfl, hca⟩ := dig_at hA hkm
      rw [Hx.out.1] at hca
      replace hca := hx.cell hca
      by_cases h2 : k < es.length
      · obtain ⟨b, rfl, hcb⟩ := dig_at hE h2
        rw [Hx.out.2] at hcb
        replace hcb := hx.cell hcb
        by_cases hlt : x < c0 + y
        · skip
          have hd : x + 4294967296 - (c0 + y) < 4294967296 := by omega
          go_wp2_with (at_builtin; refine wpList_append_run rfl _ _ 36 rfl u5 (.slice (some ⟨wr.heap.size, 0, none⟩) 1 1) rfl rfl (append_d wr w.heap.size _ _ l (x + 4294967296 - (c0 + y)) _ _ Hown.out (by omega) (by have := Hl.out.1; omega) hsz rfl) ?_)
          rintro v' w2 hown hg
          replace hx := (Hown.out.alloc _).from_ hg (hx.alloc _) (Nat.le_refl _)
          have Hown' := Lib.hid hown; clear hown hg
          go_wp2
          go_roundw
          case rel => exact ⟨k + 1, 1, _, by omega, by go_num, by go_num, by omega, by simp [Hl.out.1], Hown'.out, Hl.out.2.1.append (Digs.cons hd Digs.nil), by
            rw [nv_snoc, Hl.out.1, nv_take_dg, nv_take_dg, Hx.out.1, Hx.out.2, bp_succ]
            have h := rsub_step (x := x) (y := y) (c := c0) (b := 1) Hl.out.2.2 (by omega)
            have e : x + 1 * 4294967296 - (c0 + y) = x + 4294967296 - (c0 + y) := by omega
            rw [e] at h
            exact h, hx⟩
          case measure => simp [intOf]; omega
        · skip
          have hd : x - (c0 + y) < 4294967296 := by omega
          go_wp2_with (at_builtin; refine wpList_append_run rfl _ _ 36 rfl u5 (.slice (some ⟨wr.heap.size, 0, none⟩) 1 1) rfl rfl (append_d wr w.heap.size _ _ l (x - (c0 + y)) _ _ Hown.out (by omega) (by have := Hl.out.1; omega) hsz rfl) ?_)
          rintro v' w2 hown hg
          replace hx := (Hown.out.alloc _).from_ hg (hx.alloc _) (Nat.le_refl _)
          have Hown' := Lib.hid hown; clear hown hg
          go_wp2
          go_roundw
          case rel => exact ⟨k + 1, 0, _, by omega, by go_num, by go_num, by omega, by simp [Hl.out.1], Hown'.out, Hl.out.2.1.append (Digs.cons hd Digs.nil), by
            rw [nv_snoc, Hl.out.1, nv_take_dg, nv_take_dg, Hx.out.1, Hx.out.2, bp_succ]
            have h := rsub_step (x := x) (y := y) (c := c0) (b := 0) Hl.out.2.2 (by omega)
            have e : x + 0 * 4294967296 - (c0 + y) = x - (c0 + y) := by omega
            rw [e] at h
            exact h, hx⟩
          case measure => simp [intOf]; omega
      · obtain hy0 : y = 0 := by rw [← Hx.out.2]; exact dg_ge (by omega)
        by_cases hlt : x < c0
        · skip
          have hd : x + 4294967296 - c0 < 4294967296 := by omega
          go_wp2_with (at_builtin; refine wpList_append_run rfl _ _ 36 rfl u5 (.slice (some ⟨wr.heap.size, 0, none⟩) 1 1) rfl rfl (append_d wr w.heap.size _ _ l (x + 4294967296 - c0) _ _ Hown.out (by omega) (by have := Hl.out.1; omega) hsz rfl) ?_)
          rintro v' w2 hown hg
          replace hx := (Hown.out.alloc _).from_ hg (hx.alloc _) (Nat.le_refl _)
          have Hown' := Lib.hid hown; clear hown hg
          go_wp2
          go_roundw
          case rel => exact ⟨k + 1, 1, _, by omega, by go_num, by go_num, by omega, by simp [Hl.out.1], Hown'.out, Hl.out.2.1.append (Digs.cons hd Digs.nil), by
            rw [nv_snoc, Hl.out.1, nv_take_dg, nv_take_dg, Hx.out.1, Hx.out.2, bp_succ]
            have h := rsub_step (x := x) (y := y) (c := c0) (b := 1) Hl.out.2.2 (by omega)
            have e : x + 1 * 4294967296 - (c0 + y) = x + 4294967296 - c0 := by omega
            rw [e] at h
            exact h, hx⟩
          case measure => simp [intOf]; omega
        · skip
          have hd : x - c0 < 4294967296 := by omega
          go_wp2_with (at_builtin; refine wpList_append_run rfl _ _ 36 rfl u5 (.slice (some ⟨wr.heap.size, 0, none⟩) 1 1) rfl rfl (append_d wr w.heap.size _ _ l (x - c0) _ _ Hown.out (by omega) (by have := Hl.out.1; omega) hsz rfl) ?_)
          rintro v' w2 hown hg
          replace hx := (Hown.out.alloc _).from_ hg (hx.alloc _) (Nat.le_refl _)
          have Hown' := Lib.hid hown; clear hown hg
          go_wp2
          go_roundw
          case rel => exact ⟨k + 1, 0, _, by omega, by go_num, by go_num, by omega, by simp [Hl.out.1], Hown'.out, Hl.out.2.1.append (Digs.cons hd Digs.nil), by
            rw [nv_snoc, Hl.out.1, nv_take_dg, nv_take_dg, Hx.out.1, Hx.out.2, bp_succ]
            have h := rsub_step (x := x) (y := y) (c := c0) (b := 0) Hl.out.2.2 (by omega)
            have e : x + 0 * 4294967296 - (c0 + y) = x - c0 := by omega
            rw [e] at h
            exact h, hx⟩
          case measure => simp [intOf]; omega
    · obtain rfl : k = ds.length := by omega
      go_wp2
      go_ret
      refine Gives.mk ⟨l, Hown.out.digv Hl.out.2.1, ?_, Hl.out.1⟩ hx
      have h3 := Hl.out.2.2
      have h4 := nv_lt Hl.out.2.1
      rw [Hl.out.1] at h4
      rw [List.take_of_length_le (Nat.le_refl _), List.take_of_length_le hm] at h3
      have h5 := Hle.out
      rcases Nat.eq_zero_or_pos c0 with e | e
      · subst e
        omega
      · obtain rfl : c0 = 1 := by omega
        omega
end Go.Proofs.YtedoifjbgokmcaaGreat
namespace Go.Hp
open Go.RowKit
theorem IsZ.nat {w : World} {A : Option Addr} {n c : Nat} {b : Bool} {x : Int} (h : IsZ w (.agg #[.bool b, .slice A n c]) x) : NatV w (.slice A n c) x.natAbs := by
  obtain ⟨A', c', e, _, _, k⟩ := h.form
  simp only [Value.agg.injEq, Array.mk.injEq, List.cons.injEq, Value.slice.injEq] at e
  obtain ⟨_, ⟨rfl, rfl, rfl⟩, _⟩ := e
  exact k
end Go.Hp
namespace Go.Proofs.YtedoifjbgokmcaaGreat
open Go.RowKit Go.Hp
theorem below_num (v u : Value) (N M : Nat) (w : World) (hv : NatV w v N) (hu : NatV w u M) : Calls Tryz.prog 127 #[v, u] w (Gives w fun r _ => r = .bool (decide (N < M))) := by
  obtain ⟨ds, hd, rfl, ht⟩ := hv
  obtain ⟨es, he, rfl, ht'⟩ := hu
  exact below_r v u ds es w hd he ht ht'
theorem plus_rn (v u : Value) (N M l m : Nat) (w : World) (hv : NumV w v N l) (hu : NumV w u M m) (hn : l ≤ 1099511627776) (hm : m ≤ 1099511627776) :
    Calls Tryz.prog 126 #[v, u] w (Gives w fun r w' => NumV w' r (N + M) (max l m + 1)) := by
  obtain ⟨ds, hd, rfl, hl⟩ := hv
  obtain ⟨es, he, rfl, hl'⟩ := hu
  exact Gives.imp (plus_r v u ds es w hd he (by omega) (by omega)) fun _ _ ⟨k, h1, h2, h3⟩ => ⟨k, h1, h2, by omega⟩
theorem minus_rn (v u : Value) (N M : Nat) (w : World) (hv : NatV w v N) (hu : NatV w u M) (hle : M ≤ N) (hn : sz N ≤ 1099511627776) :
    Calls Tryz.prog 128 #[v, u] w (Gives w fun r w' => NumV w' r (N - M) (sz N)) := by
  obtain ⟨ds, hd, hN, ht, hl⟩ := hv.len
  obtain ⟨es, he, hM, ht', hl'⟩ := hu.len
  subst hN hM
  exact Gives.imp (minus_r v u ds es w hd he (by omega) (by rw [hl, hl']; exact sz_mono hle) hle) fun _ _ ⟨k, h1, h2, h3⟩ => ⟨k, h1, h2, by omega⟩
set_option maxHeartbeats 1000000 in
theorem add_r (v u : Value) (x y : Int) (w : World) (hv : HasZ w v x) (hu : HasZ w u y) (sx : sz x.natAbs ≤ 549755813888) (sy : sz y.natAbs ≤ 549755813888) : Calls Tryz.prog 102 #[v, u] w (Gives w fun r w' => IsZ w' r (x + y)) := by
  have HV := Lib.hid hv; have HU := Lib.hid hu
  obtain ⟨neg, A, n, c, N, rfl, -, -, -, -, -⟩ := hv.form
  obtain ⟨neg', A', n', c', M, rfl, -, -, -, -, -⟩ := hu.form
  clear hv hu
  go_enter Tryz.func102, Tryz.ntmps102
  go_wp2_with fail
  refine wp_region_apart (k := 6) (D := [7, 8, 9, 10, 5, 6]) (T := [[], [0], [], [0, 1, 2], [], [], [0, 1, 2, 3, 4, 5], [0, 1, 2, 3, 4, 5, 6]]) (EK := [2, 3]) (EV := [?e1x0, ?e1x1]) (VL := [(kv ?v1x0), (fun γ => γ 1), (kv ?v1x2), (fun γ => γ 3), (fun γ => γ 4), (fun γ => γ 5)]) (FL := fun γ w' => [True, IsZ w' (γ 1) x, True, IsZ w' (γ 3) y, NewAt w' (γ 4) (w.heap.size + 3) #[.bool false, .slice none 0 0] 38, NewAt w' (γ 5) (w.heap.size + 3) #[.bool false, .slice none 0 0] 38]) ?hE1 (by kernel_rfl) (by kernel_rfl) (by rfl) (by kernel_rfl) ?hloc1 ?hmono1 ?hstep1 ?htail1
  case hE1 => refine ⟨?_, ?_, trivial⟩ <;> (simp only [List.getElem?_toArray, List.getElem?_cons_succ, List.getElem?_cons_zero]; rfl)
  case hstep1 =>
    refine ⟨⟨⟨⟨⟨⟨trivial, ?_⟩, ?_⟩, ?_⟩, ?_⟩, ?_⟩, ?_⟩
    · intro γ w' he hf; clear hf; refine ⟨trivial, ?_⟩; intro R hR
      have hc := he.cells
      go_simp
      (try go_ints); (try (rw [if_neg (by omega)])); (try (rw [if_pos (by omega)])); (try go_simp); (try go_ints)
      refine hR _ _ (Ext.refl _) ?_ trivial
      rfl
    · intro γ w' he hf; clear hf; refine ⟨trivial, ?_⟩; intro R hR
      go_simp
      refine Calls.mono (show Calls _ _ _ w' (Gives w' fun r w'' => IsZ w'' (r) x) from norm_r _ x w' (HV.out.ext he.a3)) ?_
      rintro e w2 ⟨v, rfl, hv, hx⟩
      exact ⟨v, rfl, hR v w2 hx rfl hv⟩
    · intro γ w' he hf; clear hf; refine ⟨trivial, ?_⟩; intro R hR
      have hc := he.cells
      go_simp
      (try go_ints); (try (rw [if_neg (by omega)])); (try (rw [if_pos (by omega)])); (try go_simp); (try go_ints)
      refine hR _ _ (Ext.refl _) ?_ trivial
      rfl
    · intro γ w' he hf; have f1 : IsZ w' (γ 1) x := hf 1 (by decide); clear hf; refine ⟨trivial, ?_⟩; intro R hR
      go_simp
      refine Calls.mono (show Calls _ _ _ w' (Gives w' fun r w'' => IsZ w'' (r) y) from norm_r _ y w' (HU.out.ext he.a3)) ?_
      rintro e w2 ⟨v, rfl, hv, hx⟩
      exact ⟨v, rfl, hR v w2 hx rfl hv⟩
    · intro γ w' he hf; clear hf; refine ⟨trivial, ?_⟩; intro R hR
      go_simp
      exact hR _ _ ((Ext.refl _).alloc _) rfl (NewAt.mk (Nat.le_trans (by simp) he.size) (by simp [isDig]))
    · intro γ w' he hf; clear hf; refine ⟨trivial, ?_⟩; intro R hR
      go_simp
      exact hR _ _ ((Ext.refl _).alloc _) rfl (NewAt.mk (Nat.le_trans (by simp) he.size) (by simp [isDig]))
  case hloc1 =>
    exact ⟨⟨⟨⟨⟨⟨trivial, (fun γ γ' h => ⟨rfl, fun _ => rfl⟩)⟩, (fun γ γ' h => ⟨h 1 rfl, fun w' => (congrArg (fun a => IsZ w' (a) x) (h 1 rfl))⟩)⟩, (fun γ γ' h => ⟨rfl, fun _ => rfl⟩)⟩, (fun γ γ' h => ⟨h 3 rfl, fun w' => (congrArg (fun a => IsZ w' (a) y) (h 3 rfl))⟩)⟩, (fun γ γ' h => ⟨h 4 rfl, fun w' => (congrArg (fun a => NewAt w' (a) (w.heap.size + 3) #[.bool false, .slice none 0 0] 38) (h 4 rfl))⟩)⟩, (fun γ γ' h => ⟨h 5 rfl, fun w' => (congrArg (fun a => NewAt w' (a) (w.heap.size + 3) #[.bool false, .slice none 0 0] 38) (h 5 rfl))⟩)⟩
  case hmono1 =>
    exact ⟨⟨⟨⟨⟨⟨trivial, (fun γ wA w' e h => h)⟩, (fun γ wA w' e h => (show IsZ wA (γ 1) x from h).ext e)⟩, (fun γ wA w' e h => h)⟩, (fun γ wA w' e h => (show IsZ wA (γ 3) y from h).ext e)⟩, (fun γ wA w' e h => (show NewAt wA (γ 4) (w.heap.size + 3) #[.bool false, .slice none 0 0] 38 from h).ext e)⟩, (fun γ wA w' e h => (show NewAt wA (γ 5) (w.heap.size + 3) #[.bool false, .slice none 0 0] 38 from h).ext e)⟩
  intro γ w1 hx1 hF hA
  have na4x5 : γ 4 ≠ γ 5 := hA 4 5 (by decide) (by decide) (by decide) ⟨_, _, rfl, rfl⟩ ⟨_, _, rfl, rfl⟩
  clear hA
  have p1 : IsZ w1 (γ 1) x := Each.get hF 1 (by decide)
  have p3 : IsZ w1 (γ 3) y := Each.get hF 3 (by decide)
  have p4 : NewAt w1 (γ 4) (w.heap.size + 3) #[.bool false, .slice none 0 0] 38 := Each.get hF 4 (by decide)
  have p5 : NewAt w1 (γ 5) (w.heap.size + 3) #[.bool false, .slice none 0 0] 38 := Each.get hF 5 (by decide)
  clear hF
  simp only [fillAll, gV, kv, List.getD_cons_zero, List.getD_cons_succ, Act.put, List.setIfInBounds_toArray, List.set_cons_zero, List.set_cons_succ, List.toList_toArray, List.drop_succ_cons, List.drop_zero, List.drop_nil, Nat.zero_add, Nat.reduceAdd]
  generalize γ 1 = g1 at *
  generalize γ 3 = g3 at *
  generalize γ 4 = g4 at *
  generalize γ 5 = g5 at *
  clear γ
  obtain ⟨ga, rfl, hga, ea⟩ := p4
  obtain ⟨gb, rfl, hgb, eb⟩ := p5
  have hab : ga ≠ gb := fun e => na4x5 (by rw [e])
  clear na4x5
  obtain ⟨A1, c1, rfl, q1, q2, -⟩ := p1.form
  obtain ⟨A2, c2, rfl, q3, q4, -⟩ := p3.form
  obtain ⟨bx, hbx⟩ : ∃ b, b = decide (x < 0) := ⟨_, rfl⟩
  obtain ⟨by_, hby⟩ : ∃ b, b = decide (y < 0) := ⟨_, rfl⟩
  rw [← hbx] at p1 ⊢
  rw [← hby] at p3 ⊢
  have Hb := Lib.hid (And.intro hbx hby); clear hbx hby
  obtain ⟨cea0, cea1⟩ := ea.cells2
  have fea := ea.frozen
  obtain ⟨ceb0, ceb1⟩ := eb.cells2
  have feb := eb.frozen
  go_upto_region 2 with (fail)
  obtain ⟨W1, eW, ea', U⟩ := ea.put2 (.bool bx) (.slice A1 (sz x.natAbs) c1) rfl rfl
  rw [← eW]
  clear eW ea
  replace p1 := p1.kd U.kd
  replace p3 := p3.kd U.kd
  replace eb := eb.upd U (by simp <;> omega)
  replace hx1 := U.from_ hx1 (by simp <;> omega)
  have ea := ea'
  clear U ea'
  obtain ⟨W2, eW, eb', U⟩ := eb.put2 (.bool by_) (.slice A2 (sz y.natAbs) c2) rfl rfl
  rw [← eW]
  clear eW eb
  replace p1 := p1.kd U.kd
  replace p3 := p3.kd U.kd
  replace ea := ea.upd U (by simp <;> omega)
  replace hx1 := U.from_ hx1 (by simp <;> omega)
  have eb := eb'
  clear U eb'
  clear cea0 cea1 ceb0 ceb1 fea feb
  obtain ⟨cea0, cea1⟩ := ea.cells2
  have fea := ea.frozen
  obtain ⟨ceb0, ceb1⟩ := eb.cells2
  have feb := eb.frozen
  have hc1 := hx1.cells
  have hf1 := hx1.frozens
  replace p1 := p1.nat; replace p3 := p3.nat
  by_cases hs : bx = by_
  · subst hs
    have hb : (bx == bx) = true := by simp
    go_wp2_with fail
    refine wp_region_par (k := 7) (D := [16, 17, 18, 19, 20, 21, 22]) (T := [[], [0], [], [2], [], [4], [2, 3, 4, 5], [0, 1, 2, 3, 4, 5, 6], [0, 1, 2, 3, 4, 5, 6, 7]]) (EK := [5, 6]) (EV := [?e2x0, ?e2x1]) (VL := [(kv ?v2x0), (kv ?v2x1), (kv ?v2x2), (kv ?v2x3), (kv ?v2x4), (kv ?v2x5), (fun γ => γ 6)]) (FL := fun γ w' => [True, True, True, True, True, True, NumV w' (γ 6) (x.natAbs + y.natAbs) (max (sz x.natAbs) (sz y.natAbs) + 1)]) ?hE2 (by kernel_rfl) (by kernel_rfl) (by rfl) (by kernel_rfl) ?hloc2 ?hmono2 ?hstep2 ?htail2
    case hE2 => refine ⟨?_, ?_, trivial⟩ <;> (simp only [List.getElem?_toArray, List.getElem?_cons_succ, List.getElem?_cons_zero]; rfl)
    case hstep2 =>
      refine ⟨⟨⟨⟨⟨⟨⟨trivial, ?_⟩, ?_⟩, ?_⟩, ?_⟩, ?_⟩, ?_⟩, ?_⟩
      · intro γ w' he hf; clear hf; refine ⟨trivial, ?_⟩; intro R hR
        have hc := he.cells
        go_simp
        (try go_ints); (try (rw [if_neg (by omega)])); (try (rw [if_pos (by omega)])); (try go_simp); (try go_ints)
        refine hR _ _ (Ext.refl _) ?_ trivial
        rfl
      · intro γ w' he hf; clear hf; refine ⟨trivial, ?_⟩; intro R hR
        have hc := he.cells
        have cq0 := he.cell cea0
        have cq1 := he.cell cea1
        have cq2 := he.cell ceb0
        have cq3 := he.cell ceb1
        go_simp
        (try go_ints); (try (rw [if_neg (by omega)])); (try (rw [if_pos (by omega)])); (try go_simp); (try go_ints)
        refine hR _ _ (Ext.refl _) ?_ trivial
        rfl
      · intro γ w' he hf; clear hf; refine ⟨trivial, ?_⟩; intro R hR
        have hc := he.cells
        go_simp
        (try go_ints); (try (rw [if_neg (by omega)])); (try (rw [if_pos (by omega)])); (try go_simp); (try go_ints)
        refine hR _ _ (Ext.refl _) ?_ trivial
        rfl
      · intro γ w' he hf; clear hf; refine ⟨trivial, ?_⟩; intro R hR
        have hc := he.cells
        have cq0 := he.cell cea0
        have cq1 := he.cell cea1
        have cq2 := he.cell ceb0
        have cq3 := he.cell ceb1
        go_simp
        (try go_ints); (try (rw [if_neg (by omega)])); (try (rw [if_pos (by omega)])); (try go_simp); (try go_ints)
        refine hR _ _ (Ext.refl _) ?_ trivial
        rfl
      · intro γ w' he hf; clear hf; refine ⟨trivial, ?_⟩; intro R hR
        have hc := he.cells
        go_simp
        (try go_ints); (try (rw [if_neg (by omega)])); (try (rw [if_pos (by omega)])); (try go_simp); (try go_ints)
        refine hR _ _ (Ext.refl _) ?_ trivial
        rfl
      · intro γ w' he hf; clear hf; refine ⟨trivial, ?_⟩; intro R hR
        have hc := he.cells
        have cq0 := he.cell cea0
        have cq1 := he.cell cea1
        have cq2 := he.cell ceb0
        have cq3 := he.cell ceb1
        go_simp
        (try go_ints); (try (rw [if_neg (by omega)])); (try (rw [if_pos (by omega)])); (try go_simp); (try go_ints)
        refine hR _ _ (Ext.refl _) ?_ trivial
        rfl
      · intro γ w' he hf; clear hf; refine ⟨trivial, ?_⟩; intro R hR
        go_simp
        refine Calls.mono (show Calls _ _ _ w' (Gives w' fun r w'' => NumV w'' (r) (x.natAbs + y.natAbs) (max (sz x.natAbs) (sz y.natAbs) + 1)) from plus_rn _ _ _ _ _ _ w' ((p1.ext he).num (Nat.le_refl _)) ((p3.ext he).num (Nat.le_refl _)) (by omega) (by omega)) ?_
        rintro e w2 ⟨v, rfl, hv, hx⟩
        exact ⟨v, rfl, hR v w2 hx rfl hv⟩
    case hloc2 =>
      exact ⟨⟨⟨⟨⟨⟨⟨trivial, (fun γ γ' h => ⟨rfl, fun _ => rfl⟩)⟩, (fun γ γ' h => ⟨rfl, fun _ => rfl⟩)⟩, (fun γ γ' h => ⟨rfl, fun _ => rfl⟩)⟩, (fun γ γ' h => ⟨rfl, fun _ => rfl⟩)⟩, (fun γ γ' h => ⟨rfl, fun _ => rfl⟩)⟩, (fun γ γ' h => ⟨rfl, fun _ => rfl⟩)⟩, (fun γ γ' h => ⟨h 6 rfl, fun w' => (congrArg (fun a => NumV w' (a) (x.natAbs + y.natAbs) (max (sz x.natAbs) (sz y.natAbs) + 1)) (h 6 rfl))⟩)⟩
    case hmono2 =>
      exact ⟨⟨⟨⟨⟨⟨⟨trivial, (fun γ wA w' e h => h)⟩, (fun γ wA w' e h => h)⟩, (fun γ wA w' e h => h)⟩, (fun γ wA w' e h => h)⟩, (fun γ wA w' e h => h)⟩, (fun γ wA w' e h => h)⟩, (fun γ wA w' e h => (show NumV wA (γ 6) (x.natAbs + y.natAbs) (max (sz x.natAbs) (sz y.natAbs) + 1) from h).ext e)⟩
    intro γ w3 hx3 hF
    have p6 : NumV w3 (γ 6) (x.natAbs + y.natAbs) (max (sz x.natAbs) (sz y.natAbs) + 1) := Each.get hF 6 (by decide)
    clear hF
    simp only [fillAll, gV, kv, List.getD_cons_zero, List.getD_cons_succ, Act.put, List.setIfInBounds_toArray, List.set_cons_zero, List.set_cons_succ, List.toList_toArray, List.drop_succ_cons, List.drop_zero, List.drop_nil, Nat.zero_add, Nat.reduceAdd]
    generalize γ 6 = g6 at *
    clear γ
    go_wp2_with fail
    refine Calls.mono (signed_r (x + y) bx _ _ _ _ (by have h1 := Hb.out.1; have h2 := Hb.out.2; rw [h1] at h2 ⊢; by_cases e1 : x < 0 <;> by_cases e2 : y < 0 <;> simp [e1, e2] at h2 ⊢ <;> omega) p6 (by omega)) ?_
    rintro e w4 ⟨r, rfl, hr, hx4⟩
    clear hc1 hf1 p6
    replace hx1 := (hx1.trans hx3).trans hx4
    obtain ⟨b5, A5, n5, c5, rfl⟩ := hr.cells
    have hc1 := hx1.cells
    have hf1 := hx1.frozens
    have Hfin := Lib.hid (fin_z hr hx1.a3 (NoDig.at_ hx1 (g := w.heap.size + 2) (by simp) (by simp [isDig])) (by omega))
    clear hr
    go_wp2
    refine bodyPost_ret (v := .agg #[.bool b5, .slice A5 n5 c5]) (by simp [results, Tryz.results102, go_sem, hc1]) rfl ?_
    exact Hfin.out
  · have hb : (bx == by_) = false := by simpa using hs
    go_wp2_with fail
    refine Calls.mono (below_num _ _ _ _ _ p1 p3) ?_
    rintro e w3 ⟨r, rfl, rfl, hx3⟩
    clear hc1 hf1 hb cea0 cea1 ceb0 ceb1 fea feb
    replace hx1 := hx1.trans hx3
    replace p1 := p1.ext hx3; replace p3 := p3.ext hx3
    replace ea := ea.ext hx3; replace eb := eb.ext hx3
    clear hx3
    have hc1 := hx1.cells
    have hf1 := hx1.frozens
    obtain ⟨cea0, cea1⟩ := ea.cells2
    have fea := ea.frozen
    obtain ⟨ceb0, ceb1⟩ := eb.cells2
    have feb := eb.frozen
    by_cases hlt : x.natAbs < y.natAbs
    · have hb2 : decide (x.natAbs < y.natAbs) = true := by simpa using hlt
      go_wp2_with fail
      refine wp_region_par (k := 7) (D := [29, 30, 31, 32, 33, 34, 35]) (T := [[], [0], [], [2], [], [4], [2, 3, 4, 5], [0, 1, 2, 3, 4, 5, 6], [0, 1, 2, 3, 4, 5, 6, 7]]) (EK := [6, 5]) (EV := [?e3x0, ?e3x1]) (VL := [(kv ?v3x0), (kv ?v3x1), (kv ?v3x2), (kv ?v3x3), (kv ?v3x4), (kv ?v3x5), (fun γ => γ 6)]) (FL := fun γ w' => [True, True, True, True, True, True, NumV w' (γ 6) (y.natAbs - x.natAbs) (sz y.natAbs)]) ?hE3 (by kernel_rfl) (by kernel_rfl) (by rfl) (by kernel_rfl) ?hloc3 ?hmono3 ?hstep3 ?htail3
      case hE3 => refine ⟨?_, ?_, trivial⟩ <;> (simp only [List.getElem?_toArray, List.getElem?_cons_succ, List.getElem?_cons_zero]; rfl)
      case hstep3 =>
        refine ⟨⟨⟨⟨⟨⟨⟨trivial, ?_⟩, ?_⟩, ?_⟩, ?_⟩, ?_⟩, ?_⟩, ?_⟩
        · intro γ w' he hf; clear hf; refine ⟨trivial, ?_⟩; intro R hR
          have hc := he.cells
          go_simp
          (try go_ints); (try (rw [if_neg (by omega)])); (try (rw [if_pos (by omega)])); (try go_simp); (try go_ints)
          refine hR _ _ (Ext.refl _) ?_ trivial
          rfl
        · intro γ w' he hf; clear hf; refine ⟨trivial, ?_⟩; intro R hR
          have hc := he.cells
          have cq0 := he.cell cea0
          have cq1 := he.cell cea1
          have cq2 := he.cell ceb0
          have cq3 := he.cell ceb1
          go_simp
          (try go_ints); (try (rw [if_neg (by omega)])); (try (rw [if_pos (by omega)])); (try go_simp); (try go_ints)
          refine hR _ _ (Ext.refl _) ?_ trivial
          rfl
        · intro γ w' he hf; clear hf; refine ⟨trivial, ?_⟩; intro R hR
          have hc := he.cells
          go_simp
          (try go_ints); (try (rw [if_neg (by omega)])); (try (rw [if_pos (by omega)])); (try go_simp); (try go_ints)
          refine hR _ _ (Ext.refl _) ?_ trivial
          rfl
        · intro γ w' he hf; clear hf; refine ⟨trivial, ?_⟩; intro R hR
          have hc := he.cells
          have cq0 := he.cell cea0
          have cq1 := he.cell cea1
          have cq2 := he.cell ceb0
          have cq3 := he.cell ceb1
          go_simp
          (try go_ints); (try (rw [if_neg (by omega)])); (try (rw [if_pos (by omega)])); (try go_simp); (try go_ints)
          refine hR _ _ (Ext.refl _) ?_ trivial
          rfl
        · intro γ w' he hf; clear hf; refine ⟨trivial, ?_⟩; intro R hR
          have hc := he.cells
          go_simp
          (try go_ints); (try (rw [if_neg (by omega)])); (try (rw [if_pos (by omega)])); (try go_simp); (try go_ints)
          refine hR _ _ (Ext.refl _) ?_ trivial
          rfl
        · intro γ w' he hf; clear hf; refine ⟨trivial, ?_⟩; intro R hR
          have hc := he.cells
          have cq0 := he.cell cea0
          have cq1 := he.cell cea1
          have cq2 := he.cell ceb0
          have cq3 := he.cell ceb1
          go_simp
          (try go_ints); (try (rw [if_neg (by omega)])); (try (rw [if_pos (by omega)])); (try go_simp); (try go_ints)
          refine hR _ _ (Ext.refl _) ?_ trivial
          rfl
        · intro γ w' he hf; clear hf; refine ⟨trivial, ?_⟩; intro R hR
          go_simp
          refine Calls.mono (show Calls _ _ _ w' (Gives w' fun r w'' => NumV w'' (r) (y.natAbs - x.natAbs) (sz y.natAbs)) from minus_rn _ _ _ _ w' (p3.ext he) (p1.ext he) (by omega) (by omega)) ?_
          rintro e w2 ⟨v, rfl, hv, hx⟩
          exact ⟨v, rfl, hR v w2 hx rfl hv⟩
      case hloc3 =>
        exact ⟨⟨⟨⟨⟨⟨⟨trivial, (fun γ γ' h => ⟨rfl, fun _ => rfl⟩)⟩, (fun γ γ' h => ⟨rfl, fun _ => rfl⟩)⟩, (fun γ γ' h => ⟨rfl, fun _ => rfl⟩)⟩, (fun γ γ' h => ⟨rfl, fun _ => rfl⟩)⟩, (fun γ γ' h => ⟨rfl, fun _ => rfl⟩)⟩, (fun γ γ' h => ⟨rfl, fun _ => rfl⟩)⟩, (fun γ γ' h => ⟨h 6 rfl, fun w' => (congrArg (fun a => NumV w' (a) (y.natAbs - x.natAbs) (sz y.natAbs)) (h 6 rfl))⟩)⟩
      case hmono3 =>
        exact ⟨⟨⟨⟨⟨⟨⟨trivial, (fun γ wA w' e h => h)⟩, (fun γ wA w' e h => h)⟩, (fun γ wA w' e h => h)⟩, (fun γ wA w' e h => h)⟩, (fun γ wA w' e h => h)⟩, (fun γ wA w' e h => h)⟩, (fun γ wA w' e h => (show NumV wA (γ 6) (y.natAbs - x.natAbs) (sz y.natAbs) from h).ext e)⟩
      intro γ w4 hx4 hF
      have p6 : NumV w4 (γ 6) (y.natAbs - x.natAbs) (sz y.natAbs) := Each.get hF 6 (by decide)
      clear hF
      simp only [fillAll, gV, kv, List.getD_cons_zero, List.getD_cons_succ, Act.put, List.setIfInBounds_toArray, List.set_cons_zero, List.set_cons_succ, List.toList_toArray, List.drop_succ_cons, List.drop_zero, List.drop_nil, Nat.zero_add, Nat.reduceAdd]
      generalize γ 6 = g6 at *
      clear γ
      go_wp2_with fail
      refine Calls.mono (signed_r (x + y) by_ _ _ _ _ (by have h1 := Hb.out.1; have h2 := Hb.out.2; rw [h2]; rw [h1, h2] at hs; by_cases e1 : x < 0 <;> by_cases e2 : y < 0 <;> simp [e1, e2] at hs ⊢ <;> omega) p6 (by omega)) ?_
      rintro e w5 ⟨r, rfl, hr, hx5⟩
      clear hc1 hf1 p6
      replace hx1 := (hx1.trans hx4).trans hx5
      obtain ⟨b5, A5, n5, c5, rfl⟩ := hr.cells
      have hc1 := hx1.cells
      have hf1 := hx1.frozens
      have Hfin := Lib.hid (fin_z hr hx1.a3 (NoDig.at_ hx1 (g := w.heap.size + 2) (by simp) (by simp [isDig])) (by omega))
      clear hr
      go_wp2
      refine bodyPost_ret (v := .agg #[.bool b5, .slice A5 n5 c5]) (by simp [results, Tryz.results102, go_sem, hc1]) rfl ?_
      exact Hfin.out
    · have hb2 : decide (x.natAbs < y.natAbs) = false := by simpa using hlt
      go_wp2_with fail
      refine wp_region_par (k := 7) (D := [37, 38, 39, 40, 41, 42, 43]) (T := [[], [0], [], [2], [], [4], [2, 3, 4, 5], [0, 1, 2, 3, 4, 5, 6], [0, 1, 2, 3, 4, 5, 6, 7]]) (EK := [5, 6]) (EV := [?e4x0, ?e4x1]) (VL := [(kv ?v4x0), (kv ?v4x1), (kv ?v4x2), (kv ?v4x3), (kv ?v4x4), (kv ?v4x5), (fun γ => γ 6)]) (FL := fun γ w' => [True, True, True, True, True, True, NumV w' (γ 6) (x.natAbs - y.natAbs) (sz x.natAbs)]) ?hE4 (by kernel_rfl) (by kernel_rfl) (by rfl) (by kernel_rfl) ?hloc4 ?hmono4 ?hstep4 ?htail4
      case hE4 => refine ⟨?_, ?_, trivial⟩ <;> (simp only [List.getElem?_toArray, List.getElem?_cons_succ, List.getElem?_cons_zero]; rfl)
      case hstep4 =>
        refine ⟨⟨⟨⟨⟨⟨⟨trivial, ?_⟩, ?_⟩, ?_⟩, ?_⟩, ?_⟩, ?_⟩, ?_⟩
        · intro γ w' he hf; clear hf; refine ⟨trivial, ?_⟩; intro R hR
          have hc := he.cells
          go_simp
          (try go_ints); (try (rw [if_neg (by omega)])); (try (rw [if_pos (by omega)])); (try go_simp); (try go_ints)
          refine hR _ _ (Ext.refl _) ?_ trivial
          rfl
        · intro γ w' he hf; clear hf; refine ⟨trivial, ?_⟩; intro R hR
          have hc := he.cells
          have cq0 := he.cell cea0
          have cq1 := he.cell cea1
          have cq2 := he.cell ceb0
          have cq3 := he.cell ceb1
          go_simp
          (try go_ints); (try (rw [if_neg (by omega)])); (try (rw [if_pos (by omega)])); (try go_simp); (try go_ints)
          refine hR _ _ (Ext.refl _) ?_ trivial
          rfl
        · intro γ w' he hf; clear hf; refine ⟨trivial, ?_⟩; intro R hR
          have hc := he.cells
          go_simp
          (try go_ints); (try (rw [if_neg (by omega)])); (try (rw [if_pos (by omega)])); (try go_simp); (try go_ints)
          refine hR _ _ (Ext.refl _) ?_ trivial
          rfl
        · intro γ w' he hf; clear hf; refine ⟨trivial, ?_⟩; intro R hR
          have hc := he.cells
          have cq0 := he.cell cea0
          have cq1 := he.cell cea1
          have cq2 := he.cell ceb0
          have cq3 := he.cell ceb1
          go_simp
          (try go_ints); (try (rw [if_neg (by omega)])); (try (rw [if_pos (by omega)])); (try go_simp); (try go_ints)
          refine hR _ _ (Ext.refl _) ?_ trivial
          rfl
        · intro γ w' he hf; clear hf; refine ⟨trivial, ?_⟩; intro R hR
          have hc := he.cells
          go_simp
          (try go_ints); (try (rw [if_neg (by omega)])); (try (rw [if_pos (by omega)])); (try go_simp); (try go_ints)
          refine hR _ _ (Ext.refl _) ?_ trivial
          rfl
        · intro γ w' he hf; clear hf; refine ⟨trivial, ?_⟩; intro R hR
          have hc := he.cells
          have cq0 := he.cell cea0
          have cq1 := he.cell cea1
          have cq2 := he.cell ceb0
          have cq3 := he.cell ceb1
          go_simp
          (try go_ints); (try (rw [if_neg (by omega)])); (try (rw [if_pos (by omega)])); (try go_simp); (try go_ints)
          refine hR _ _ (Ext.refl _) ?_ trivial
          rfl
        · intro γ w' he hf; clear hf; refine ⟨trivial, ?_⟩; intro R hR
          go_simp
          refine Calls.mono (show Calls _ _ _ w' (Gives w' fun r w'' => NumV w'' (r) (x.natAbs - y.natAbs) (sz x.natAbs)) from minus_rn _ _ _ _ w' (p1.ext he) (p3.ext he) (by omega) (by omega)) ?_
          rintro e w2 ⟨v, rfl, hv, hx⟩
          exact ⟨v, rfl, hR v w2 hx rfl hv⟩
      case hloc4 =>
        exact ⟨⟨⟨⟨⟨⟨⟨trivial, (fun γ γ' h => ⟨rfl, fun _ => rfl⟩)⟩, (fun γ γ' h => ⟨rfl, fun _ => rfl⟩)⟩, (fun γ γ' h => ⟨rfl, fun _ => rfl⟩)⟩, (fun γ γ' h => ⟨rfl, fun _ => rfl⟩)⟩, (fun γ γ' h => ⟨rfl, fun _ => rfl⟩)⟩, (fun γ γ' h => ⟨rfl, fun _ => rfl⟩)⟩, (fun γ γ' h => ⟨h 6 rfl, fun w' => (congrArg (fun a => NumV w' (a) (x.natAbs - y.natAbs) (sz x.natAbs)) (h 6 rfl))⟩)⟩
      case hmono4 =>
        exact ⟨⟨⟨⟨⟨⟨⟨trivial, (fun γ wA w' e h => h)⟩, (fun γ wA w' e h => h)⟩, (fun γ wA w' e h => h)⟩, (fun γ wA w' e h => h)⟩, (fun γ wA w' e h => h)⟩, (fun γ wA w' e h => h)⟩, (fun γ wA w' e h => (show NumV wA (γ 6) (x.natAbs - y.natAbs) (sz x.natAbs) from h).ext e)⟩
      intro γ w4 hx4 hF
      have p6 : NumV w4 (γ 6) (x.natAbs - y.natAbs) (sz x.natAbs) := Each.get hF 6 (by decide)
      clear hF
      simp only [fillAll, gV, kv, List.getD_cons_zero, List.getD_cons_succ, Act.put, List.setIfInBounds_toArray, List.set_cons_zero, List.set_cons_succ, List.toList_toArray, List.drop_succ_cons, List.drop_zero, List.drop_nil, Nat.zero_add, Nat.reduceAdd]
      generalize γ 6 = g6 at *
      clear γ
      go_wp2_with fail
      refine Calls.mono (signed_r (x + y) bx _ _ _ _ (by have h1 := Hb.out.1; have h2 := Hb.out.2; rw [h1]; rw [h1, h2] at hs; by_cases e1 : x < 0 <;> by_cases e2 : y < 0 <;> simp [e1, e2] at hs ⊢ <;> omega) p6 (by omega)) ?_
      rintro e w5 ⟨r, rfl, hr, hx5⟩
      clear hc1 hf1 p6
      replace hx1 := (hx1.trans hx4).trans hx5
      obtain ⟨b5, A5, n5, c5, rfl⟩ := hr.cells
      have hc1 := hx1.cells
      have hf1 := hx1.frozens
      have Hfin := Lib.hid (fin_z hr hx1.a3 (NoDig.at_ hx1 (g := w.heap.size + 2) (by simp) (by simp [isDig])) (by omega))
      clear hr
      go_wp2
      refine bodyPost_ret (v := .agg #[.bool b5, .slice A5 n5 c5]) (by simp [results, Tryz.results102, go_sem, hc1]) rfl ?_
      exact Hfin.out
theorem sub_r (v u : Value) (x y : Int) (w : World) (hv : HasZ w v x) (hu : HasZ w u y) (sx : sz x.natAbs ≤ 549755813888) (sy : sz y.natAbs ≤ 549755813888) : Calls Tryz.prog 136 #[v, u] w (Gives w fun r w' => IsZ w' r (x - y)) := by
  have HV := Lib.hid hv; have HU := Lib.hid hu
  obtain ⟨neg, A, n, c, N, rfl, -, -, -, -, -⟩ := hv.form
  obtain ⟨neg', A', n', c', M, rfl, -, -, -, -, -⟩ := hu.form
  clear hv hu
  go_enter Tryz.func136, Tryz.ntmps136
  go_wp2_with fail
  refine wp_region_par (k := 3) (D := [5, 6, 7]) (T := [[], [], [1], [0, 1, 2], [0, 1, 2, 3]]) (EK := [2, 3]) (EV := [?e5x0, ?e5x1]) (VL := [(kv ?v5x0), (kv ?v5x1), (fun γ => γ 2)]) (FL := fun γ w' => [True, True, IsZ w' (γ 2) (-y)]) ?hE5 (by kernel_rfl) (by kernel_rfl) (by rfl) (by kernel_rfl) ?hloc5 ?hmono5 ?hstep5 ?htail5
  case hE5 => refine ⟨?_, ?_, trivial⟩ <;> (simp only [List.getElem?_toArray, List.getElem?_cons_succ, List.getElem?_cons_zero]; rfl)
  case hstep5 =>
    refine ⟨⟨⟨trivial, ?_⟩, ?_⟩, ?_⟩
    · intro γ w' he hf; clear hf; refine ⟨trivial, ?_⟩; intro R hR
      have hc := he.cells
      go_simp
      (try go_ints); (try (rw [if_neg (by omega)])); (try (rw [if_pos (by omega)])); (try go_simp); (try go_ints)
      refine hR _ _ (Ext.refl _) ?_ trivial
      rfl
    · intro γ w' he hf; clear hf; refine ⟨trivial, ?_⟩; intro R hR
      have hc := he.cells
      go_simp
      (try go_ints); (try (rw [if_neg (by omega)])); (try (rw [if_pos (by omega)])); (try go_simp); (try go_ints)
      refine hR _ _ (Ext.refl _) ?_ trivial
      rfl
    · intro γ w' he hf; clear hf; refine ⟨trivial, ?_⟩; intro R hR
      go_simp
      refine Calls.mono (show Calls _ _ _ w' (Gives w' fun r w'' => IsZ w'' (r) (-y)) from neg_r _ y w' (HU.out.ext he.a3)) ?_
      rintro e w2 ⟨v, rfl, hv, hx⟩
      exact ⟨v, rfl, hR v w2 hx rfl hv⟩
  case hloc5 =>
    exact ⟨⟨⟨trivial, (fun γ γ' h => ⟨rfl, fun _ => rfl⟩)⟩, (fun γ γ' h => ⟨rfl, fun _ => rfl⟩)⟩, (fun γ γ' h => ⟨h 2 rfl, fun w' => (congrArg (fun a => IsZ w' (a) (-y)) (h 2 rfl))⟩)⟩
  case hmono5 =>
    exact ⟨⟨⟨trivial, (fun γ wA w' e h => h)⟩, (fun γ wA w' e h => h)⟩, (fun γ wA w' e h => (show IsZ wA (γ 2) (-y) from h).ext e)⟩
  intro γ w1 hx1 hF
  have p2 : IsZ w1 (γ 2) (-y) := Each.get hF 2 (by decide)
  clear hF
  simp only [fillAll, gV, kv, List.getD_cons_zero, List.getD_cons_succ, Act.put, List.setIfInBounds_toArray, List.set_cons_zero, List.set_cons_succ, List.toList_toArray, List.drop_succ_cons, List.drop_zero, List.drop_nil, Nat.zero_add, Nat.reduceAdd]
  generalize γ 2 = g2 at *
  clear γ
  go_wp2_with fail
  refine Calls.mono (add_r _ _ x (-y) _ (HV.out.ext hx1.a3) (p2.has (by rw [Int.natAbs_neg]; omega)) sx (by rw [Int.natAbs_neg]; exact sy)) ?_
  rintro e w2 ⟨r, rfl, hr, hx2⟩
  replace hx1 := hx1.trans hx2
  clear hx2 p2
  rw [← Int.sub_eq_add_neg] at hr
  obtain ⟨b5, A5, n5, c5, rfl⟩ := hr.cells
  have hc1 := hx1.cells
  have hf1 := hx1.frozens
  have Hfin := Lib.hid (fin_z hr hx1.a3 (NoDig.at_ hx1 (g := w.heap.size + 2) (by simp) (by simp [isDig])) (by omega))
  clear hr
  go_wp2
  refine bodyPost_ret (v := .agg #[.bool b5, .slice A5 n5 c5]) (by simp [results, Tryz.results136, go_sem, hc1]) rfl ?_
  exact Hfin.out
end Go.Proofs.YtedoifjbgokmcaaGreat
