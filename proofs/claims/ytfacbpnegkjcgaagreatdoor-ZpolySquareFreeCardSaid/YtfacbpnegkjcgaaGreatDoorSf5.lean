/- Lemmas: The walks of the reference's polynomials over the integers: Derivative, Mul; of the program's Derivative. The walks of the reference's Raised and Shift; its polynomials over the integers, over polynomials. The walks of the reference's determinants: a row of Sylvester's matrix; rows appended and copied. The walk of the reference's Determinant. The walks of the reference's Resultant and Discriminant. The walks of bigint.Exact where nothing is divided, and of zpoly.Divide. The walks of the two Discriminants. The walk of zpoly.Gcd. Rows of the call's own that are appended to: where the grown row lies. Plain. Boxes through the rounds of a range over a function. Plain. Yun's rounds: what both sides compute, and why it is the square-free factorization. Plain. How large the coefficients of a factor over the integers are. Plain. Yun's rounds: the product of the factors, and that they are coprime. Plain. Rows of factors. Plain. The walk of zpoly.SquareFree. A region that draws its order, one operation of whose first part may come late, and whose new blocks are told apart. The walk of the reference's Divide over the integers. The walks of the reference's PseudoDiv and Gcd over the integers. The walk of the reference's Gcd over the integers. The walk of the reference's SquareFree. -/
import Derived.Test.YtfacbpnegkjcgaaGreatDoorSf1
import Derived.Test.YtfacbpnegkjcgaaGreatDoorSf2
import Derived.Test.YtfacbpnegkjcgaaGreatDoorSf3
import Derived.Test.YtfacbpnegkjcgaaGreatDoorSf4
import Derived.RangeFuncNested
import Derived.RangeFuncBound
import Derived.RangeFuncCalls
import Derived.RangeFuncLeaves
import Derived.Shelf.Abstract
import Derived.Shelf.RegionOpen
import Derived.WalkKit
import Derived.OwnWalkIn
import Derived.TacticsInMore
import Derived.LoopNIn
import Derived.LoopIn
set_option linter.unusedVariables false
set_option linter.unusedSimpArgs false
namespace Go.Hp
open Go.RowKit
theorem pd_zi {F : Nat → Rat} (h : ZI F) : ZI (pd F) := fun i => by
 obtain ⟨n, e⟩ := h (i + 1)
 exact ⟨((i + 1 : Nat) : Int) * n, by unfold pd; rw [e, Rat.intCast_mul]; rfl⟩
theorem OwnZ.off {base : Nat} {e : TypeId} {w w' : World} {v : Value} {l : List Int} {g : Nat} (h : OwnZ base e w v l) (U : Upd [g] w w') (hg : ∀ k ∈ blk v, k < g) : OwnZ base e w' v l :=
 OwnR.upd h U (fun k hk hG => by have := hg k hk; simp at hG; omega) fun _ _ q => q.kd U.kd
theorem sm_zi {F G : Nat → Rat} (hF : ZI F) (hG : ZI G) (n : Nat) : ∀ i, ∃ z : Int, sm i (fun j => F j * G (n - j)) = (z : Rat) := fun i =>
 sm_int fun j _ => by rw [hF.num j, hG.num (n - j), ← Rat.intCast_mul]; exact ⟨_, rfl⟩
theorem sm_nsucc {F G : Nat → Rat} (hF : ZI F) (hG : ZI G) (n i : Nat) : (sm (i + 1) (fun j => F j * G (n - j))).num = (sm i (fun j => F j * G (n - j))).num + (F i).num * (G (n - i)).num := by
 rw [sm_succ]
 obtain ⟨z, e⟩ := sm_zi hF hG n i
 rw [e, hF.num i, hG.num (n - i), ← Rat.intCast_mul, num_add]; rfl
end Go.Hp
namespace Go.Proofs.YtfacbpnegkjcgaaGreatDoor
open Go.RowKit Go.Hp
set_option maxRecDepth 20000 in
set_option maxHeartbeats 1000000 in
theorem derivative_rz (v : Value) (l : List Int) (s : Nat) (w : World) (hv : HzV 0 w v l) (hs : ∀ i, qsz (cz l i) ≤ s) (hst : s + 2 ≤ 549755813888) (hn : l.length ≤ 549755813888) :
  Calls Tryz.prog 43 #[v] w (Gives w fun r w' => IsZP w.heap.size w' r (pd (cz l))) := by
 obtain ⟨A, c, rfl, hl, hc, hA⟩ := hv
 have HA : Hid (HzAt 0 w A l) := Lib.hid hA; clear hA
 have HS := Lib.hid hs; clear hs
 go_enter Tryz.func43, Tryz.ntmps43
 go_wp2
 go_loopw [3, 4] (fun ov iv wr => ∃ (k : Nat), 1 ≤ k ∧ k ≤ max l.length 1 ∧ iv = .int .i64 k ∧ OwnZ w.heap.size 28 wr ov (lzf (k - 1) (pd (cz l))) ∧ Ext w wr) (fun _ iv _ => l.length - (intOf iv).toNat)
 case atStart => exact ⟨1, by omega, by omega, by simp, OwnR.nil _ _ _ _ _, Ext.refl _⟩
 case round =>
  obtain ⟨k, hk1, hk, rfl, hown, hx⟩ := hrel
  by_cases hkl : k < l.length
  ·obtain ⟨g, o, b, A1, n, c1, rfl, _, q0, q1, hq⟩ := HA.out.at_ (j := k) hkl
   replace q0 := hx.cell q0
   replace q1 := hx.cell q1
   have hval : (pd (cz l) (k - 1)).num = l[k] * (k : Int) := by
    unfold pd
    rw [show k - 1 + 1 = k from by omega, cz_lt hkl]
    show (((k : Nat) : Int) * ((l[k] : Int) : Rat) : Rat).num = _
    rw [num_mul, Int.mul_comm]
   have hqk := HS.out k
   rw [cz_lt hkl, qsz_cast] at hqk
   have Hq := Lib.hid (And.intro hq (And.intro hval hqk)); clear hq hval hqk
   have Hown := Lib.hid hown; clear hown
   have HK := Lib.hid (show sz ((k : Nat) : Int).natAbs ≤ 2 from by
    have := qsz_int (x := (k : Int)) (by omega) (by omega)
    rw [qsz_cast] at this; omega)
   go_wp2_with fail
   refine wp_region_par (k := 9) (D := [11, 12, 13, 14, 15, 16, 17, 18, 19]) (T := [[], [], [], [1, 2], [1, 2, 3], [], [5], [1, 2, 3, 4, 5, 6], [1, 2, 3, 4, 5, 6, 7], [0, 1, 2, 3, 4, 5, 6, 7, 8], [0, 1, 2, 3, 4, 5, 6, 7, 8, 9]]) (EK := [3, 0, 4]) (EV := [?e1x0, ?e1x1, ?e1x2]) (VL := [(kv ?v1x0), (kv ?v1x1), (kv ?v1x2), (kv ?v1x3), (kv ?v1x4), (kv ?v1x5), (fun γ => γ 6), (fun γ => γ 7), (fun γ => γ 8)]) (FL := fun γ w' => [True, True, True, True, True, True, IsZ w' (γ 6) (k : Int), IsZ w' (γ 7) (pd (cz l) (k - 1)).num, NewZ w' (γ 8) (wr.heap.size) ((pd (cz l) (k - 1)).num) 28]) ?hE1 (by kernel_rfl) (by kernel_rfl) (by rfl) (by kernel_rfl) ?hloc1 ?hmono1 ?hstep1 ?htail1
   case hE1 => refine ⟨?_, ?_, ?_, trivial⟩ <;> (simp only [List.getElem?_toArray, List.getElem?_cons_succ, List.getElem?_cons_zero]; rfl)
   case hstep1 =>
    refine ⟨⟨⟨⟨⟨⟨⟨⟨⟨trivial, ?_⟩, ?_⟩, ?_⟩, ?_⟩, ?_⟩, ?_⟩, ?_⟩, ?_⟩, ?_⟩
    iterate 6 focus
     intro γ w' he hf; clear hf; refine ⟨by trivial, ?_⟩; intro R hR; have hc := he.cells
     have cq0 := he.cell q0
     have cq1 := he.cell q1
     go_simp; (try go_ints); (try (rw [if_neg (by omega)])); (try (rw [if_pos (by omega)])); (try go_simp); (try go_ints)
     refine hR _ _ (Ext.refl _) ?_ trivial; rfl
    ·intro γ w' he hf; clear hf; refine ⟨trivial, ?_⟩; intro R hR
     go_simp
     refine Calls.mono (show Calls _ _ _ w' (Gives w' fun r w'' => IsZ w'' (r) (k : Int)) from of_r (k : Int) w' (by omega) (by omega)) ?_
     rintro e w2 ⟨v, rfl, hv, hx⟩
     exact ⟨v, rfl, hR v w2 hx rfl hv⟩
    ·intro γ w' he hf; have f6 : IsZ w' (γ 6) (k : Int) := hf 6 (by decide); clear hf; refine ⟨trivial, ?_⟩; intro R hR
     go_simp
     refine Calls.mono (show Calls _ _ _ w' (Gives w' fun r w'' => IsZ w'' (r) (pd (cz l) (k - 1)).num) from Hq.out.2.1 ▸ mul_r _ _ _ _ w' (Hq.out.1.kd (hx.trans he).kd) (f6.has (by have := HK.out; omega)) (by have := Hq.out.2.2; omega) (by have := HK.out; omega)) ?_
     rintro e w2 ⟨v, rfl, hv, hx⟩
     exact ⟨v, rfl, hR v w2 hx rfl hv⟩
    ·intro γ w' he hf; have f6 : IsZ w' (γ 6) (k : Int) := hf 6 (by decide); have f7 : IsZ w' (γ 7) (pd (cz l) (k - 1)).num := hf 7 (by decide); clear hf; refine ⟨trivial, ?_⟩; intro R hR
     refine IsZ.el f7 fun b5 A5 n5 c5 e7 f7' => ?_
     clear f7
     go_simp
     exact hR _ _ ((Ext.refl _).alloc _) rfl (NewZ.mk f7' (Nat.le_trans (by simp) he.size) _)
   case hloc1 =>
    exact ⟨⟨⟨⟨⟨⟨⟨⟨⟨trivial, (fun γ γ' h => ⟨rfl, fun _ => rfl⟩)⟩, (fun γ γ' h => ⟨rfl, fun _ => rfl⟩)⟩, (fun γ γ' h => ⟨rfl, fun _ => rfl⟩)⟩, (fun γ γ' h => ⟨rfl, fun _ => rfl⟩)⟩, (fun γ γ' h => ⟨rfl, fun _ => rfl⟩)⟩, (fun γ γ' h => ⟨rfl, fun _ => rfl⟩)⟩, (fun γ γ' h => ⟨h 6 rfl, fun w' => (congrArg (fun a => IsZ w' (a) (k : Int)) (h 6 rfl))⟩)⟩, (fun γ γ' h => ⟨h 7 rfl, fun w' => (congrArg (fun a => IsZ w' (a) (pd (cz l) (k - 1)).num) (h 7 rfl))⟩)⟩, (fun γ γ' h => ⟨h 8 rfl, fun w' => (congrArg (fun a => NewZ w' (a) (wr.heap.size) ((pd (cz l) (k - 1)).num) 28) (h 8 rfl))⟩)⟩
   case hmono1 =>
    exact ⟨⟨⟨⟨⟨⟨⟨⟨⟨trivial, (fun γ wA w' e h => h)⟩, (fun γ wA w' e h => h)⟩, (fun γ wA w' e h => h)⟩, (fun γ wA w' e h => h)⟩, (fun γ wA w' e h => h)⟩, (fun γ wA w' e h => h)⟩, (fun γ wA w' e h => (show IsZ wA (γ 6) (k : Int) from h).ext e)⟩, (fun γ wA w' e h => (show IsZ wA (γ 7) (pd (cz l) (k - 1)).num from h).ext e)⟩, (fun γ wA w' e h => (show NewZ wA (γ 8) (wr.heap.size) ((pd (cz l) (k - 1)).num) 28 from h).ext e)⟩
   intro γ w1 hx1 hF
   have p6 : IsZ w1 (γ 6) (k : Int) := Each.get hF 6 (by decide)
   have p7 : IsZ w1 (γ 7) (pd (cz l) (k - 1)).num := Each.get hF 7 (by decide)
   have p8 : NewZ w1 (γ 8) (wr.heap.size) ((pd (cz l) (k - 1)).num) 28 := Each.get hF 8 (by decide)
   clear hF
   simp only [fillAll, gV, kv, List.getD_cons_zero, List.getD_cons_succ, Act.put, List.setIfInBounds_toArray, List.set_cons_zero, List.set_cons_succ, List.toList_toArray, List.drop_succ_cons, List.drop_zero, List.drop_nil, Nat.zero_add, Nat.reduceAdd]
   generalize γ 6 = g6 at *
   generalize γ 7 = g7 at *
   generalize γ 8 = g8 at *
   clear γ
   have hs := hx.size
   have hs1 := hx1.size
   refine wpList_append_run rfl _ _ 22 rfl u3 g8 rfl rfl (append_nz w1 _ _ w.heap.size _ _ _ _ (Hown.out.ext hx1) p8 (by rw [lzf_len]; omega) (by omega)) ?_
   rintro v' w2 ⟨hown, U⟩
   replace hx := (Hown.out.ext hx1).from_ U (hx.trans hx1) (Nat.le_refl _)
   have Hown' := Lib.hid hown; clear hown U p8 p7 p6
   go_wp2
   go_roundw
   case rel => exact ⟨k + 1, by omega, by omega, by go_num, by
    have := Hown'.out
    rw [← lzf_succ, show k - 1 + 1 = k + 1 - 1 from by omega] at this
    exact this, hx⟩
   case measure => simp [intOf] <;> omega
  ·skip
   have hh := lzf_hz' hown (fun i hi => (by have h1 := qsz_mul ((i + 1 : Nat) : Rat) (cz l (i + 1)); have h2 := HS.out (i + 1); have h3 := qsz_nat (n := i + 1) (by omega); show qsz (((i + 1 : Nat) : Rat) * cz l (i + 1)) ≤ _; omega))
   have hczl := cz_lzf (n := (k - 1)) (F := pd (cz l)) (pd_zi (ZI.cz l)) (fun i hi => by unfold pd; rw [cz_ge (by omega)]; exact Rat.mul_zero _)
   obtain ⟨A2, c2, e2⟩ := hh.len
   rw [lzf_len] at e2
   rw [e2] at hh
   clear hown
   subst e2
   have HH := Lib.hid (And.intro hh hczl); clear hh hczl
   go_wp2_with fail
   refine Calls.mono (normal_rz _ _ _ HH.out.1 (by rw [lzf_len]; omega)) ?_
   rintro e w9 ⟨r, rfl, hr, hx9⟩
   rw [HH.out.2] at hr
   have hsz := (hx).size
   have Hr := Lib.hid hr; clear hr
   go_wp2
   go_ret
   exact Gives.mk (Hr.out.base_le (by omega)) ((hx).trans hx9)
set_option maxRecDepth 20000 in
set_option maxHeartbeats 4000000 in
theorem mul_rzp (v u : Value) (l m : List Int) (s t : Nat) (w : World) (hv : HzV 0 w v l) (hu : HzV 0 w u m) (hs : ∀ i, qsz (cz l i) ≤ s) (ht : ∀ i, qsz (cz m i) ≤ t) (hst : 1 + (l.length + m.length) * (s + t + 1) ≤ 274877906944) (hn : l.length ≤ 274877906944) (hm : m.length ≤ 274877906944) :
  Calls Tryz.prog 40 #[v, u] w (Gives w fun r w' => IsZP w.heap.size w' r (cv (cz l) (cz m))) := by
 have HV := Lib.hid hv; have HU := Lib.hid hu
 obtain ⟨A, c, rfl⟩ := hv.len
 obtain ⟨E, d, rfl⟩ := hu.len
 clear hv hu
 have hp0 := pl_le (cz_sup l)
 have hq0 := pl_le (cz_sup m)
 have HF := Lib.hid (And.intro (Fin_.cz l) (Fin_.cz m))
 have HI := Lib.hid (And.intro (ZI.cz l) (ZI.cz m))
 obtain ⟨F, hF⟩ : ∃ F, F = cz l := ⟨_, rfl⟩
 obtain ⟨G, hG⟩ : ∃ G, G = cz m := ⟨_, rfl⟩
 rw [← hF, ← hG] at HF HI
 rw [← hF] at hs hp0
 rw [← hG] at ht hq0
 rw [← hF, ← hG]
 have HN := Lib.hid (And.intro (normal_rz _ l w HV.out (by omega)) (fun w' (e : Ext w w') => normal_rz _ m w' (HU.out.ext e) (by omega)))
 rw [← hF, ← hG] at HN
 clear hF hG HV HU
 have HS := Lib.hid (And.intro hs (And.intro ht hst)); clear hs ht hst
 go_enter Tryz.func40, Tryz.ntmps40
 go_wp2_with fail
 refine Calls.mono HN.out.1 ?_
 rintro e w1 ⟨r1, rfl, hr1, hx1⟩
 have Hr1 := Lib.hid hr1; clear hr1
 go_wp2_with fail
 refine Calls.mono (HN.out.2 w1 hx1) ?_
 rintro e w2 ⟨r2, rfl, hr2, hx2⟩
 obtain ⟨A1, c1, la, rfl, k1, k2, hA, k3, k4, k5⟩ := (Hr1.out.ext hx2).form
 obtain ⟨A2, c2, lb, rfl, k6, k7, hB, k8, k9, k10⟩ := hr2.form
 replace hx1 := hx1.trans hx2
 have HA := Lib.hid (And.intro hA (And.intro k3 k5)); have HB := Lib.hid (And.intro hB (And.intro k8 k10))
 clear hx2 Hr1 hr2 hA hB k3 k4 k5 k8 k9 k10 HN
 obtain ⟨p, hp⟩ : ∃ p, p = pl F := ⟨_, rfl⟩
 obtain ⟨q, hq⟩ : ∃ q, q = pl G := ⟨_, rfl⟩
 rw [← hp] at HA hp0 ⊢
 rw [← hp] at k1
 rw [← hq] at HB hq0 k6 ⊢
 have HP := Lib.hid (And.intro hp hq); clear hp hq
 by_cases h0 : p = 0
 ·have b0 : ((p : Int) == 0) = true := by rw [h0]; rfl
  have H0 := Lib.hid h0; clear h0
  go_wp2
  go_ret
  have : F = pz := (pl_zero HF.out.1).1 (by rw [← HP.out.1]; exact H0.out)
  rw [this, pz_cv]
  exact Gives.mk (IsZP.nil _ _) hx1
 have b0 : ((p : Int) == 0) = false := by simpa using h0
 by_cases h1 : q = 0
 ·have b1 : ((q : Int) == 0) = true := by rw [h1]; rfl
  have H1 := Lib.hid h1; clear h0 h1
  go_wp2
  go_ret
  have : G = pz := (pl_zero HF.out.2).1 (by rw [← HP.out.2]; exact H1.out)
  rw [this, cv_pz]
  exact Gives.mk (IsZP.nil _ _) hx1
 have b1 : ((q : Int) == 0) = false := by simpa using h1
 have sF : Sup p F := by rw [HP.out.1]; exact pl_sup HF.out.1
 have sG : Sup q G := by rw [HP.out.2]; exact pl_sup HF.out.2
 have HZ := Lib.hid (And.intro sF sG); clear sF sG
 obtain ⟨N, hN⟩ : ∃ N, p + q = N + 1 := ⟨p + q - 1, by omega⟩
 have hN1 : N ≤ 549755813888 := by omega
 have HL := Lib.hid (show N + 1 ≤ l.length + m.length by omega)
 have hpb : p ≤ 549755813888 := by omega
 have hqb : q ≤ 549755813888 := by omega
 clear h0 h1 hp0 hq0
 have HW := Lib.hid hx1; clear hx1
 obtain ⟨wb, hwb⟩ : ∃ wb : World, wb = w2 := ⟨_, rfl⟩
 subst hwb
 go_wp2
 go_loopw [7, 8] (fun ov iv wr => ∃ (n : Nat), n ≤ N ∧ iv = .int .i64 n ∧ OwnZ wb.heap.size 28 wr ov (lzf n (cv F G)) ∧ Ext wb wr) (fun _ iv _ => N - (intOf iv).toNat)
 case atStart => exact ⟨0, Nat.zero_le _, rfl, OwnR.nil _ _ _ _ _, Ext.refl _⟩
 case round =>
  obtain ⟨n, hn, rfl, hown, hx⟩ := hrel
  by_cases hnN : n < N
  ·have Hown0 := Lib.hid hown; clear hown
   go_wp2_with fail
   refine Calls.mono (of_r 0 _ (by omega) (by omega)) ?_
   rintro e w3 ⟨r3, rfl, hr3, hx3⟩
   obtain ⟨b5, A5, n5, c5, rfl⟩ := hr3.cells
   have hown := Hown0.out.ext hx3
   have Hbk := Lib.hid (fun g hg => (OwnR.blk_ge hown g hg).2)
   replace hx := hx.trans hx3
   clear hx3 Hown0
   go_upto_region 9 with (fail)
   obtain ⟨W9, eW9, e9, x9⟩ := Box.made w3 28 #[.bool b5, .slice A5 n5 c5] (by simp [isDig])
   rw [← eW9]
   clear eW9
   have eb := BoxZ.mk e9 (hr3.kd x9.kd)
   replace hown := OwnZ.ext hown x9
   have Hsz9 := Lib.hid hx.size
   replace hx := hx.trans x9
   have Hown := Lib.hid hown
   clear x9 hr3 e9 hown
   generalize w3.heap.size = gb at *
   go_wp2
   go_loopw [10] (fun iv wx => ∃ (i : Nat), i ≤ n + 1 ∧ iv = .int .i64 i ∧ BoxZ wx gb 28 (sm i (fun j => F j * G (n - j))).num ∧ OwnZ wb.heap.size 28 wx u7 (lzf n (cv F G)) ∧ Ext wb wx) (fun iv _ => n + 1 - (intOf iv).toNat)
   case atStart => exact ⟨0, Nat.zero_le _, rfl, eb, Hown.out, hx⟩
   case round =>
    clear eb hx Hown
    obtain ⟨i, hi, rfl, ⟨z1, Z1, zn, zc, ez, hz⟩, hown, hx⟩ := hrel
    have Hz := Lib.hid hz; clear hz
    have Hown := Lib.hid hown; clear hown
    by_cases hin : i < n + 1
    ·by_cases hip : i < p
     ·by_cases hiq : n - i < q
      ·have hiq' : (n : Int) - i < q := by omega
       obtain ⟨g, o, b, B1, n1, d1, rfl, _, q0, q1, hqa⟩ := HA.out.1.at_ (j := i) (by rw [HA.out.2.1]; exact hip)
       obtain ⟨g', o', bb, B2, n2, d2, rfl, _, r0, r1, hqb'⟩ := HB.out.1.at_ (j := n - i) (by rw [HB.out.2.1]; exact hiq)
       have ea := lz_at HA.out.2.2 (i := i) (by rw [HA.out.2.1]; exact hip)
       have eb' := lz_at HB.out.2.2 (i := n - i) (by rw [HB.out.2.1]; exact hiq)
       rw [ea] at hqa
       rw [eb'] at hqb'
       replace q0 := hx.cell q0
       replace q1 := hx.cell q1
       replace r0 := hx.cell r0
       replace r1 := hx.cell r1
       have Hqa := Lib.hid (hqa.kd hx.kd); have Hqb := Lib.hid (hqb'.kd hx.kd); clear hqa hqb' ea eb'
       have HQ := Lib.hid (show sz (F i).num.natAbs ≤ 274877906944 ∧ sz (G (n - i)).num.natAbs ≤ 274877906944 ∧ sz ((F i).num * (G (n - i)).num).natAbs ≤ 274877906944 ∧ sz (sm i (fun j => F j * G (n - j))).num.natAbs ≤ 274877906944 by
        have h1 := HS.out.1 i; have h2 := HS.out.2.1 (n - i)
        have h3 := qsz_mul (F i) (G (n - i))
        have h4 := smm_qsz HS.out.1 HS.out.2.1 n i
        have h5 := mul_le_of (i := i) (by have := HL.out; omega) HS.out.2.2
        have h6 := mul_le_of (i := 1) (by have := HL.out; omega) HS.out.2.2
        have h7 := qz_num h1
        have h8 := qz_num h2
        have h9 := qz_num h4
        have h10 := qz_num h3
        rw [HI.out.1.num_mul HI.out.2] at h10
        omega)
       obtain ⟨cez0, cez1⟩ := ez.cells2
       have fez := ez.frozen
       go_wp2_with fail
       refine wp_region_par (k := 13) (D := [51, 52, 53, 54, 55, 56, 57, 58, 59, 60, 61, 62, 63]) (T := [[], [], [], [1, 2], [1, 2, 3], [], [], [], [6, 7], [5, 6, 7, 8], [5, 6, 7, 8, 9], [1, 2, 3, 4, 5, 6, 7, 8, 9, 10], [0, 1, 2, 3, 4, 5, 6, 7, 8, 9, 10, 11], [0, 1, 2, 3, 4, 5, 6, 7, 8, 9, 10, 11, 12]]) (EK := [9, 5, 10, 6, 8]) (EV := [?e2x0, ?e2x1, ?e2x2, ?e2x3, ?e2x4]) (VL := [(kv ?v2x0), (kv ?v2x1), (kv ?v2x2), (kv ?v2x3), (kv ?v2x4), (kv ?v2x5), (kv ?v2x6), (kv ?v2x7), (kv ?v2x8), (kv ?v2x9), (kv ?v2x10), (fun γ => γ 11), (fun γ => γ 12)]) (FL := fun γ w' => [True, True, True, True, True, True, True, True, True, True, True, IsZ w' (γ 11) ((F i).num * (G (n - i)).num), IsZ w' (γ 12) ((sm i (fun j => F j * G (n - j))).num + (F i).num * (G (n - i)).num)]) ?hE2 (by kernel_rfl) (by kernel_rfl) (by rfl) (by kernel_rfl) ?hloc2 ?hmono2 ?hstep2 ?htail2
       case hE2 => refine ⟨?_, ?_, ?_, ?_, ?_, trivial⟩ <;> (simp only [List.getElem?_toArray, List.getElem?_cons_succ, List.getElem?_cons_zero]; rfl)
       case hstep2 =>
        refine ⟨⟨⟨⟨⟨⟨⟨⟨⟨⟨⟨⟨⟨trivial, ?_⟩, ?_⟩, ?_⟩, ?_⟩, ?_⟩, ?_⟩, ?_⟩, ?_⟩, ?_⟩, ?_⟩, ?_⟩, ?_⟩, ?_⟩
        iterate 11 focus
         intro γ w' he hf; clear hf; refine ⟨by trivial, ?_⟩; intro R hR; have hc := he.cells
         have cq0 := he.cell cez0
         have cq1 := he.cell cez1
         have cq2 := he.cell q0
         have cq3 := he.cell q1
         have cq4 := he.cell r0
         have cq5 := he.cell r1
         go_simp; (try go_ints); (try (rw [if_neg (by omega)])); (try (rw [if_pos (by omega)])); (try go_simp); (try go_ints)
         refine hR _ _ (Ext.refl _) ?_ trivial; rfl
        ·intro γ w' he hf; clear hf; refine ⟨trivial, ?_⟩; intro R hR
         go_simp
         refine Calls.mono (show Calls _ _ _ w' (Gives w' fun r w'' => IsZ w'' (r) ((F i).num * (G (n - i)).num)) from mul_r _ _ _ _ w' ((Hqa.out.kd he.kd).has (by have := HQ.out.1; omega)) ((Hqb.out.kd he.kd).has (by have := HQ.out.2.1; omega)) (by have := HQ.out.1; omega) (by have := HQ.out.2.1; omega)) ?_
         rintro e w2 ⟨v, rfl, hv, hx⟩
         exact ⟨v, rfl, hR v w2 hx rfl hv⟩
        ·intro γ w' he hf; have f11 : IsZ w' (γ 11) ((F i).num * (G (n - i)).num) := hf 11 (by decide); clear hf; refine ⟨trivial, ?_⟩; intro R hR
         go_simp
         refine Calls.mono (show Calls _ _ _ w' (Gives w' fun r w'' => IsZ w'' (r) ((sm i (fun j => F j * G (n - j))).num + (F i).num * (G (n - i)).num)) from add_r _ _ _ _ w' ((Hz.out.kd he.kd).has (by have := HQ.out.2.2.2; omega)) (f11.has (by have := HQ.out.2.2.1; omega)) (by have := HQ.out; omega) (by have := HQ.out; omega)) ?_
         rintro e w2 ⟨v, rfl, hv, hx⟩
         exact ⟨v, rfl, hR v w2 hx rfl hv⟩
       case hloc2 =>
        exact ⟨⟨⟨⟨⟨⟨⟨⟨⟨⟨⟨⟨⟨trivial, (fun γ γ' h => ⟨rfl, fun _ => rfl⟩)⟩, (fun γ γ' h => ⟨rfl, fun _ => rfl⟩)⟩, (fun γ γ' h => ⟨rfl, fun _ => rfl⟩)⟩, (fun γ γ' h => ⟨rfl, fun _ => rfl⟩)⟩, (fun γ γ' h => ⟨rfl, fun _ => rfl⟩)⟩, (fun γ γ' h => ⟨rfl, fun _ => rfl⟩)⟩, (fun γ γ' h => ⟨rfl, fun _ => rfl⟩)⟩, (fun γ γ' h => ⟨rfl, fun _ => rfl⟩)⟩, (fun γ γ' h => ⟨rfl, fun _ => rfl⟩)⟩, (fun γ γ' h => ⟨rfl, fun _ => rfl⟩)⟩, (fun γ γ' h => ⟨rfl, fun _ => rfl⟩)⟩, (fun γ γ' h => ⟨h 11 rfl, fun w' => (congrArg (fun a => IsZ w' (a) ((F i).num * (G (n - i)).num)) (h 11 rfl))⟩)⟩, (fun γ γ' h => ⟨h 12 rfl, fun w' => (congrArg (fun a => IsZ w' (a) ((sm i (fun j => F j * G (n - j))).num + (F i).num * (G (n - i)).num)) (h 12 rfl))⟩)⟩
       case hmono2 =>
        exact ⟨⟨⟨⟨⟨⟨⟨⟨⟨⟨⟨⟨⟨trivial, (fun γ wA w' e h => h)⟩, (fun γ wA w' e h => h)⟩, (fun γ wA w' e h => h)⟩, (fun γ wA w' e h => h)⟩, (fun γ wA w' e h => h)⟩, (fun γ wA w' e h => h)⟩, (fun γ wA w' e h => h)⟩, (fun γ wA w' e h => h)⟩, (fun γ wA w' e h => h)⟩, (fun γ wA w' e h => h)⟩, (fun γ wA w' e h => h)⟩, (fun γ wA w' e h => (show IsZ wA (γ 11) ((F i).num * (G (n - i)).num) from h).ext e)⟩, (fun γ wA w' e h => (show IsZ wA (γ 12) ((sm i (fun j => F j * G (n - j))).num + (F i).num * (G (n - i)).num) from h).ext e)⟩
       intro γ w6 hx6 hF
       have p11 : IsZ w6 (γ 11) ((F i).num * (G (n - i)).num) := Each.get hF 11 (by decide)
       have p12 : IsZ w6 (γ 12) ((sm i (fun j => F j * G (n - j))).num + (F i).num * (G (n - i)).num) := Each.get hF 12 (by decide)
       clear hF
       simp only [fillAll, gV, kv, List.getD_cons_zero, List.getD_cons_succ, Act.put, List.setIfInBounds_toArray, List.set_cons_zero, List.set_cons_succ, List.toList_toArray, List.drop_succ_cons, List.drop_zero, List.drop_nil, Nat.zero_add, Nat.reduceAdd]
       generalize γ 11 = g11 at *
       generalize γ 12 = g12 at *
       clear γ
       clear cez0 cez1 fez q0 q1 r0 r1 p11 Hz Hqa Hqb HQ
       replace ez := ez.ext hx6
       replace hx := hx.trans hx6
       have hown := Hown.out.ext hx6
       clear hx6 Hown
       obtain ⟨b5, A5, n5, c5, rfl⟩ := p12.cells
       obtain ⟨cez0, cez1⟩ := ez.cells2
       have fez := ez.frozen
       go_wp2
       obtain ⟨W7, eW, ez', U⟩ := ez.put2 (.bool b5) (.slice A5 n5 c5) rfl rfl
       rw [← eW]
       clear eW ez cez0 cez1 fez
       replace hown := hown.off U Hbk.out
       replace hx := U.from_ hx (by have := Hsz9.out; simp; omega)
       have eq := BoxZ.mk ez' (p12.kd U.kd)
       clear U ez' p12
       have Hown := Lib.hid hown; clear hown
       go_roundw
       case rel => exact ⟨i + 1, by omega, by go_num, by rw [sm_nsucc HI.out.1 HI.out.2]; exact eq, Hown.out, hx⟩
       case measure => simp [intOf] <;> omega
      ·have hiq' : ¬ (n : Int) - i < q := by omega
       have hz0 : F i * G (n - i) = 0 := by rw [HZ.out.2 (n - i) (by omega)]; exact Rat.mul_zero _
       have Hz0 := Lib.hid hz0; clear hz0
       go_wp2
       go_roundw
       case rel => exact ⟨i + 1, by omega, by go_num, by rw [sm_succ, Hz0.out, Rat.add_zero]; exact BoxZ.mk ez Hz.out, Hown.out, hx⟩
       case measure => simp [intOf] <;> omega
     ·have hip' : ¬ (i : Int) < p := by omega
      have hz0 : F i * G (n - i) = 0 := by rw [HZ.out.1 i (by omega)]; exact Rat.zero_mul _
      have Hz0 := Lib.hid hz0; clear hz0
      go_wp2
      go_roundw
      case rel => exact ⟨i + 1, by omega, by go_num, by rw [sm_succ, Hz0.out, Rat.add_zero]; exact BoxZ.mk ez Hz.out, Hown.out, hx⟩
      case measure => simp [intOf] <;> omega
    ·obtain rfl : i = n + 1 := by omega
     rw [← cv_sm] at Hz
     have Hr := Lib.hid Hz.out; clear Hz
     obtain ⟨cez0, cez1⟩ := ez.cells2
     have fez := ez.frozen
     have hsz := hx.size
     go_wp2_with (at_builtin; refine wpList_append_run rfl _ _ 22 rfl u7 (.slice (some ⟨wr.heap.size, 0, none⟩) 1 1) rfl rfl (append_rz wr wb.heap.size _ _ _ _ _ Hown.out Hr.out (by first | (rw [lzf_len]; omega) | omega) hsz rfl) ?_)
     first | intro v' w5 hown U | rintro v' w5 ⟨hown, U⟩
     replace hx := (Hown.out.ext ((Ext.refl wr).alloc _)).from_ U (hx.alloc _) (Nat.le_refl _)
     have Hown' := Lib.hid hown; clear hown U
     go_wp2
     go_roundw
     case rel => exact ⟨n + 1, by omega, by go_num, by rw [lzf_succ]; exact Hown'.out, hx⟩
     case measure => simp [intOf] <;> omega
  ·obtain rfl : n = N := by omega
   have hh := lzf_hz' hown (fun i hi => (by rw [cv_sm]; exact Nat.le_trans (Nat.le_trans (smm_qsz HS.out.1 HS.out.2.1 i (i + 1)) (mul_le_of (by have := HL.out; omega) HS.out.2.2)) (by omega)))
   have hczl := cz_lzf (n := n) (F := cv F G) (HI.out.1.cv HI.out.2) ((HZ.out.1.cv HZ.out.2).mono (by omega))
   obtain ⟨A2, c2, e2⟩ := hh.len
   rw [lzf_len] at e2
   rw [e2] at hh
   clear hown
   subst e2
   have HH := Lib.hid (And.intro hh hczl); clear hh hczl
   go_wp2_with fail
   refine Calls.mono (normal_rz _ _ _ HH.out.1 (by rw [lzf_len]; omega)) ?_
   rintro e w9 ⟨r, rfl, hr, hx9⟩
   rw [HH.out.2] at hr
   have hsz := (HW.out.trans hx).size
   have Hr := Lib.hid hr; clear hr
   go_wp2
   go_ret
   exact Gives.mk (Hr.out.base_le (by omega)) ((HW.out.trans hx).trans hx9)
theorem append_zz (W : World) (v x : Value) (base b ty : Nat) (l : List Int) (q : Int) (h : OwnZ base 28 W v l) (hx : NewZ W x b q 28) (hn : l.length ≤ 1099511627776) (hb : base ≤ W.heap.size) :
  ∃ v' w', (Builtin.append_ #[23, 23] ty #[v, x]).run Tryz.prog W = .ok v' w' ∧ (OwnZ base 28 w' v' (l ++ [q]) ∧ Upd (blk v) W w') := by
 obtain ⟨g, cs, rfl, h1, h2, h3, h4⟩ := hx
 obtain ⟨i0, hi, hz0, hz1, hz2⟩ := info_parts info_int
 have ho := IsZ.one h4
 obtain ⟨v', w', a, b, c⟩ := OwnR.append (P := Tryz.prog) h 23 ty i0 _ 32 Tryz.underlying23 hi hz0 hz1 hz2 rfl (by simp [nodig, isDig, Value.cells]) (by decide) ⟨g, 0, none⟩ 1 cs h3 h4 h2.news ho.1 ho.2.1 (small_lenz hn) (by omega) hb (fun _ _ _ k hq => IsZ.kd hq k)
 exact ⟨v', w', a, b, c⟩
set_option maxRecDepth 20000 in
set_option maxHeartbeats 1000000 in
theorem zderivative_p (v : Value) (l : List Int) (w : World) (hv : HzV 0 w v l) (hn : l.length ≤ 1099511627776) :
  Calls Tryz.prog 42 #[v] w (Gives w fun r w' => IsZP w.heap.size w' r (pd (cz l))) := by
 obtain ⟨A, c, rfl, hl, hc, hA⟩ := hv
 have HA : Hid (HzAt 0 w A l) := Lib.hid hA; clear hA
 go_enter Tryz.func42, Tryz.ntmps42
 go_wp2
 go_loopw [3, 4] (fun ov iv wr => ∃ (k : Nat), 1 ≤ k ∧ k ≤ max l.length 1 ∧ iv = .int .i64 k ∧ OwnZ w.heap.size 28 wr ov (lzf (k - 1) (pd (cz l))) ∧ Ext w wr) (fun _ iv _ => l.length - (intOf iv).toNat)
 case atStart => exact ⟨1, by omega, by omega, by simp, OwnR.nil _ _ _ _ _, Ext.refl _⟩
 case round =>
  obtain ⟨k, hk1, hk, rfl, hown, hx⟩ := hrel
  by_cases hkl : k < l.length
  ·obtain ⟨g, o, b, A1, n, c1, rfl, _, q0, q1, hq⟩ := HA.out.at_ (j := k) hkl
   replace q0 := hx.cell q0
   replace q1 := hx.cell q1
   have hval : (pd (cz l) (k - 1)).num = (k : Int) * l[k] := by
    unfold pd
    rw [show k - 1 + 1 = k from by omega, cz_lt hkl]
    show (((k : Nat) : Int) * ((l[k] : Int) : Rat) : Rat).num = _
    rw [num_mul]
   have Hq := Lib.hid (And.intro hq hval); clear hq hval
   have Hown := Lib.hid hown; clear hown
   have HK := Lib.hid (show sz ((k : Nat) : Int).natAbs ≤ 2 from by
    have := qsz_int (x := (k : Int)) (by omega) (by omega)
    rw [qsz_cast] at this; omega)
   go_wp2_with fail
   refine wp_region_par (k := 9) (D := [11, 12, 13, 14, 15, 16, 17, 18, 19]) (T := [[], [], [1], [], [], [3, 4], [3, 4, 5], [1, 2, 3, 4, 5, 6], [1, 2, 3, 4, 5, 6, 7], [0, 1, 2, 3, 4, 5, 6, 7, 8], [0, 1, 2, 3, 4, 5, 6, 7, 8, 9]]) (EK := [3, 4, 0]) (EV := [?e3x0, ?e3x1, ?e3x2]) (VL := [(kv ?v3x0), (kv ?v3x1), (fun γ => γ 2), (kv ?v3x3), (kv ?v3x4), (kv ?v3x5), (kv ?v3x6), (fun γ => γ 7), (fun γ => γ 8)]) (FL := fun γ w' => [True, True, IsZ w' (γ 2) (k : Int), True, True, True, True, IsZ w' (γ 7) (pd (cz l) (k - 1)).num, NewZ w' (γ 8) (wr.heap.size) ((pd (cz l) (k - 1)).num) 28]) ?hE3 (by kernel_rfl) (by kernel_rfl) (by rfl) (by kernel_rfl) ?hloc3 ?hmono3 ?hstep3 ?htail3
   case hE3 => refine ⟨?_, ?_, ?_, trivial⟩ <;> (simp only [List.getElem?_toArray, List.getElem?_cons_succ, List.getElem?_cons_zero]; rfl)
   case hstep3 =>
    refine ⟨⟨⟨⟨⟨⟨⟨⟨⟨trivial, ?_⟩, ?_⟩, ?_⟩, ?_⟩, ?_⟩, ?_⟩, ?_⟩, ?_⟩, ?_⟩
    iterate 2 focus
     intro γ w' he hf; clear hf; refine ⟨by trivial, ?_⟩; intro R hR; have hc := he.cells
     go_simp; (try go_ints); (try (rw [if_neg (by omega)])); (try (rw [if_pos (by omega)])); (try go_simp); (try go_ints)
     refine hR _ _ (Ext.refl _) ?_ trivial; rfl
    ·intro γ w' he hf; clear hf; refine ⟨trivial, ?_⟩; intro R hR
     go_simp
     refine Calls.mono (show Calls _ _ _ w' (Gives w' fun r w'' => IsZ w'' (r) (k : Int)) from of_z (k : Int) w' (by omega) (by omega)) ?_
     rintro e w2 ⟨v, rfl, hv, hx⟩
     exact ⟨v, rfl, hR v w2 hx rfl hv⟩
    iterate 4 focus
     intro γ w' he hf; clear hf; refine ⟨by trivial, ?_⟩; intro R hR; have hc := he.cells
     have cq0 := he.cell q0
     have cq1 := he.cell q1
     go_simp; (try go_ints); (try (rw [if_neg (by omega)])); (try (rw [if_pos (by omega)])); (try go_simp); (try go_ints)
     refine hR _ _ (Ext.refl _) ?_ trivial; rfl
    ·intro γ w' he hf; have f2 : IsZ w' (γ 2) (k : Int) := hf 2 (by decide); clear hf; refine ⟨trivial, ?_⟩; intro R hR
     go_simp
     refine Calls.mono (show Calls _ _ _ w' (Gives w' fun r w'' => IsZ w'' (r) (pd (cz l) (k - 1)).num) from Hq.out.2 ▸ mul_z _ _ _ _ w' (f2.has (by have := HK.out; omega)) (Hq.out.1.kd (hx.trans he).kd)) ?_
     rintro e w2 ⟨v, rfl, hv, hx⟩
     exact ⟨v, rfl, hR v w2 hx rfl hv⟩
    ·intro γ w' he hf; have f2 : IsZ w' (γ 2) (k : Int) := hf 2 (by decide); have f7 : IsZ w' (γ 7) (pd (cz l) (k - 1)).num := hf 7 (by decide); clear hf; refine ⟨trivial, ?_⟩; intro R hR
     refine IsZ.el f7 fun b5 A5 n5 c5 e7 f7' => ?_
     clear f7
     go_simp
     exact hR _ _ ((Ext.refl _).alloc _) rfl (NewZ.mk f7' (Nat.le_trans (by simp) he.size) _)
   case hloc3 =>
    exact ⟨⟨⟨⟨⟨⟨⟨⟨⟨trivial, (fun γ γ' h => ⟨rfl, fun _ => rfl⟩)⟩, (fun γ γ' h => ⟨rfl, fun _ => rfl⟩)⟩, (fun γ γ' h => ⟨h 2 rfl, fun w' => (congrArg (fun a => IsZ w' (a) (k : Int)) (h 2 rfl))⟩)⟩, (fun γ γ' h => ⟨rfl, fun _ => rfl⟩)⟩, (fun γ γ' h => ⟨rfl, fun _ => rfl⟩)⟩, (fun γ γ' h => ⟨rfl, fun _ => rfl⟩)⟩, (fun γ γ' h => ⟨rfl, fun _ => rfl⟩)⟩, (fun γ γ' h => ⟨h 7 rfl, fun w' => (congrArg (fun a => IsZ w' (a) (pd (cz l) (k - 1)).num) (h 7 rfl))⟩)⟩, (fun γ γ' h => ⟨h 8 rfl, fun w' => (congrArg (fun a => NewZ w' (a) (wr.heap.size) ((pd (cz l) (k - 1)).num) 28) (h 8 rfl))⟩)⟩
   case hmono3 =>
    exact ⟨⟨⟨⟨⟨⟨⟨⟨⟨trivial, (fun γ wA w' e h => h)⟩, (fun γ wA w' e h => h)⟩, (fun γ wA w' e h => (show IsZ wA (γ 2) (k : Int) from h).ext e)⟩, (fun γ wA w' e h => h)⟩, (fun γ wA w' e h => h)⟩, (fun γ wA w' e h => h)⟩, (fun γ wA w' e h => h)⟩, (fun γ wA w' e h => (show IsZ wA (γ 7) (pd (cz l) (k - 1)).num from h).ext e)⟩, (fun γ wA w' e h => (show NewZ wA (γ 8) (wr.heap.size) ((pd (cz l) (k - 1)).num) 28 from h).ext e)⟩
   intro γ w1 hx1 hF
   have p2 : IsZ w1 (γ 2) (k : Int) := Each.get hF 2 (by decide)
   have p7 : IsZ w1 (γ 7) (pd (cz l) (k - 1)).num := Each.get hF 7 (by decide)
   have p8 : NewZ w1 (γ 8) (wr.heap.size) ((pd (cz l) (k - 1)).num) 28 := Each.get hF 8 (by decide)
   clear hF
   simp only [fillAll, gV, kv, List.getD_cons_zero, List.getD_cons_succ, Act.put, List.setIfInBounds_toArray, List.set_cons_zero, List.set_cons_succ, List.toList_toArray, List.drop_succ_cons, List.drop_zero, List.drop_nil, Nat.zero_add, Nat.reduceAdd]
   generalize γ 2 = g2 at *
   generalize γ 7 = g7 at *
   generalize γ 8 = g8 at *
   clear γ
   have hs := hx.size
   have hs1 := hx1.size
   refine wpList_append_run rfl _ _ 23 rfl u3 g8 rfl rfl (append_zz w1 _ _ w.heap.size _ _ _ _ (Hown.out.ext hx1) p8 (by rw [lzf_len]; omega) (by omega)) ?_
   rintro v' w2 ⟨hown, U⟩
   replace hx := (Hown.out.ext hx1).from_ U (hx.trans hx1) (Nat.le_refl _)
   have Hown' := Lib.hid hown; clear hown U p8 p7 p2
   go_wp2
   go_roundw
   case rel => exact ⟨k + 1, by omega, by omega, by go_num, by
    have := Hown'.out
    rw [← lzf_succ, show k - 1 + 1 = k + 1 - 1 from by omega] at this
    exact this, hx⟩
   case measure => simp [intOf]; omega
  ·have hz : Sup (k - 1) (pd (cz l)) := fun i hi => by unfold pd; rw [cz_ge (by omega)]; exact Rat.mul_zero _
   have hco := cz_lzf (pd_zi (ZI.cz l)) hz
   obtain ⟨A2, c2, h1, h2, h3, h4⟩ := hown.row
   rw [lzf_len] at h1 h2
   have hT := trimmed_zs w.heap.size A2 c2 _ wr (by rw [lzf_len]; exact h2) h3 h4
   rw [lzf_len, ← h1] at hT
   have Hrow := Lib.hid (And.intro h4 (And.intro hco (And.intro h2 h3)))
   clear h1 h2 h3 h4 hco hz hown
   go_wp2_with fail
   refine Calls.mono hT ?_
   rintro e w2 ⟨rfl, rfl⟩
   go_wp2
   go_ret
   exact Gives.mk (IsZP.of_trim (ZsV.trim Hrow.out.1 (by rw [lzf_len]; exact Hrow.out.2.2.1) Hrow.out.2.2.2) Hrow.out.2.1) hx
end Go.Proofs.YtfacbpnegkjcgaaGreatDoor
namespace Go.Hp
open Go.RowKit
theorem cz_rep (n : Nat) (c : Int) : cz (List.replicate n 0 ++ [c]) = mono n (c : Rat) := by
 funext i
 unfold mono
 by_cases h : i < n
 ·rw [cz_lt (by simp; omega), if_neg (by omega)]; simp [List.getElem_append_left, h]
 ·by_cases e : i = n
  ·subst e; rw [cz_lt (by simp), if_pos rfl]; simp
  ·rw [cz_ge (by simp; omega), if_neg e]
theorem top_rep (n : Nat) {c : Int} (h0 : c ≠ 0) : TopR (zq (List.replicate n 0 ++ [c])) := fun h => by
 have hl : (zq (List.replicate n 0 ++ [c])).length - 1 = n := by rw [zq_len]; simp
 have e : (zq (List.replicate n 0 ++ [c]))[(zq (List.replicate n 0 ++ [c])).length - 1]'(by omega) = cz (List.replicate n 0 ++ [c]) ((zq (List.replicate n 0 ++ [c])).length - 1) := (co_lt _).symm
 rw [e, hl, cz_rep, mono_at]
 exact_mod_cast h0
end Go.Hp
namespace Go.Proofs.YtfacbpnegkjcgaaGreatDoor
open Go.RowKit Go.Hp
theorem append_sz (W : World) (base ty g o c : Nat) (v : Value) (l : List Int) (q : Int) {b : Bool} {A : Option Addr} {n cc : Nat} (h : OwnZ base 28 W v l) (k0 : W.cell? ⟨g, o, none⟩ = some (.bool b)) (k1 : W.cell? ⟨g, o + 1, none⟩ = some (.slice A n cc)) (hq : IsZ W (.agg #[.bool b, .slice A n cc]) q) (hn : l.length ≤ 1099511627776) (hb : base ≤ W.heap.size) :
  ∃ v' w', (Builtin.append_ #[22, 22] ty #[v, .slice (some ⟨g, o, none⟩) 1 c]).run Tryz.prog W = .ok v' w' ∧ (OwnZ base 28 w' v' (l ++ [q]) ∧ Upd (blk v) W w') := by
 obtain ⟨i0, hi, hz0, hz1, hz2⟩ := info_parts info_int
 have ho := IsZ.one hq
 obtain ⟨v', w', a, b, c⟩ := OwnR.append (P := Tryz.prog) h 22 ty i0 _ 32 Tryz.underlying22 hi hz0 hz1 hz2 rfl (by simp [nodig, isDig, Value.cells]) (by decide) ⟨g, o, none⟩ c #[.bool b, .slice A n cc] rfl hq (fun j u hj => by
  match j, hj with
  | 0, hj => simp at hj; subst hj; simpa [Addr.add] using k0
  | 1, hj => simp at hj; subst hj; simpa [Addr.add] using k1) ho.1 ho.2.1 (small_lenz hn) (by omega) hb (fun _ _ _ k hq => IsZ.kd hq k)
 exact ⟨v', w', a, b, c⟩
set_option maxRecDepth 20000 in
set_option maxHeartbeats 2000000 in
theorem shift_one (v : Value) (c : Int) (n : Nat) (w : World) (hv : HzV 0 w v [c]) (h0 : c ≠ 0) (hn : n ≤ 549755813888) : Calls Tryz.prog 85 #[v, .int .i64 (n : Nat)] w (Gives w fun r w' => IsZP 0 w' r (mono n (c : Rat))) := by
 have HN := Lib.hid (normal_rz v [c] w hv (by simp))
 obtain ⟨A0, c0, rfl⟩ := hv.len
 have hp1 : pl (cz [c]) = 1 := pl_eq (cz_sup [c]) (fun _ => by show cz [c] 0 ≠ 0; rw [cz_lt (by simp)]; exact_mod_cast h0)
 have H0 := Lib.hid (And.intro h0 hp1); clear hv h0 hp1
 go_enter Tryz.func85, Tryz.ntmps85
 go_wp2_with fail
 refine Calls.mono HN.out ?_
 rintro e w1 ⟨r1, rfl, hr1, hx⟩
 obtain ⟨A1, c1, l1, rfl, k1, k2, hA, k3, k4, k5⟩ := hr1.form
 rw [H0.out.2] at k1 k3 ⊢
 obtain ⟨g, o, b, A2, n2, c2, rfl, -, q0, q1, hq⟩ := hA.at_ (j := 0) (by omega)
 have hval : l1[0]'(by omega) = c := by
  have h1 := congrFun k5 0
  rw [cz_lt (by omega), cz_lt (by simp)] at h1
  exact int_cast_inj h1
 rw [hval] at hq
 rw [Nat.zero_mul, Nat.add_zero] at q0 q1
 have Hq := Lib.hid hq
 have HW := Lib.hid hx
 clear hA k3 k4 k5 hr1 hval hq HN
 go_wp2
 go_loopw [6, 7] (fun ov iv wr => ∃ k : Nat, k ≤ n ∧ iv = .int .i64 k ∧ OwnZ w1.heap.size 28 wr ov (List.replicate k 0) ∧ Ext w1 wr) (fun _ iv _ => n - (intOf iv).toNat)
 case atStart => exact ⟨0, Nat.zero_le _, rfl, OwnR.nil _ _ _ _ _, Ext.refl _⟩
 case round =>
  clear hx
  obtain ⟨k, hk, rfl, hown, hx⟩ := hrel
  have Hown0 := Lib.hid hown; clear hown
  by_cases hkn : k < n
  ·go_wp2_with fail
   refine Calls.mono (of_r 0 _ (by omega) (by omega)) ?_
   rintro e w2 ⟨r2, rfl, hr2, hx2⟩
   obtain ⟨b5, A5, n5, c5, rfl⟩ := hr2.cells
   have Hr := Lib.hid hr2; clear hr2
   have hown := Hown0.out.ext hx2
   have Hown := Lib.hid hown; clear hown
   replace hx := hx.trans hx2
   have hsz := hx.size
   have hlr : (List.replicate k (0 : Int)).length ≤ 1099511627776 := by rw [List.length_replicate]; omega
   clear hx2 Hown0
   go_wp2_with (at_builtin; refine wpList_append_run rfl _ _ 22 rfl u6 (.slice (some ⟨w2.heap.size, 0, none⟩) 1 1) rfl rfl (append_rz w2 w1.heap.size _ _ _ _ _ Hown.out Hr.out hlr hsz rfl) ?_)
   first | intro v' w5 hown U | rintro v' w5 ⟨hown, U⟩
   replace hx := (Hown.out.ext ((Ext.refl w2).alloc _)).from_ U (hx.alloc _) (Nat.le_refl _)
   have Hown' := Lib.hid hown; clear hown U hlr
   go_wp2
   go_roundw
   case rel => exact ⟨k + 1, by omega, by go_num, by rw [List.replicate_succ']; exact Hown'.out, hx⟩
   case measure => simp [intOf] <;> omega
  ·obtain rfl : k = n := by omega
   replace q0 := hx.cell q0
   replace q1 := hx.cell q1
   have hsz := hx.size
   have hlr : (List.replicate k (0 : Int)).length ≤ 1099511627776 := by rw [List.length_replicate]; omega
   go_wp2_with (at_builtin; refine wpList_append_run rfl _ _ 22 rfl u6 (.slice (some ⟨g, o, none⟩) 1 c1) rfl rfl (append_sz wr w1.heap.size _ g o c1 _ _ _ Hown0.out q0 q1 (Hq.out.kd hx.kd) hlr hsz) ?_)
   first | intro v' w5 hown U | rintro v' w5 ⟨hown, U⟩
   replace hx := Hown0.out.from_ U hx (Nat.le_refl _)
   have Hown' := Lib.hid hown; clear hown U hlr
   go_wp2
   go_ret
   exact Gives.mk ⟨_, RowV.base_le (OwnZ.row Hown'.out) (Nat.zero_le _), top_rep k H0.out.1, cz_rep k c⟩ (HW.out.trans hx)
set_option maxRecDepth 20000 in
set_option maxHeartbeats 4000000 in
theorem raised_r (v : Value) (a : Int) (n0 s : Nat) (w : World) (hv : HasZ w v a) (hs : sz a.natAbs ≤ s) (hst : 2 + (n0 + 1) * s ≤ 549755813888) (hn : n0 ≤ 1099511627776) :
  Calls Tryz.prog 86 #[v, .int .i64 (n0 : Nat)] w (Gives w fun r w' => IsZ w' r (a ^ n0)) := by
 obtain ⟨b1, A1, n1, c1, rfl⟩ := hv.cells
 have hsz : ∀ p, p ≤ n0 + 1 → sz (a ^ p).natAbs ≤ 549755813888 := fun p hp => by
  have h1 := sz_powz a s hs p
  have h2 : p * s ≤ (n0 + 1) * s := Nat.mul_le_mul_right _ hp
  omega
 have HV := Lib.hid hv; have HS := Lib.hid hsz; clear hv hs hst hsz
 go_enter Tryz.func86, Tryz.ntmps86
 go_wp2_with fail
 refine Calls.mono (of_r 1 _ (by omega) (by omega)) ?_
 rintro e w1 ⟨r1, rfl, hr1, hx1⟩
 obtain ⟨b5, A5, n5, c5, rfl⟩ := hr1.cells
 have ea := ((Box.new w 28 #[.bool b1, .slice A1 n1 c1] (by simp [isDig])).alloc (.cells #[.bool false, .slice none 0 0] 28)).ext hx1
 have ez := (Box.new (w.alloc (.cells #[.bool b1, .slice A1 n1 c1] 28)) 28 #[.bool false, .slice none 0 0] (by simp [isDig])).ext hx1
 rw [World.size_alloc] at ez
 obtain ⟨W0, eW, eb, x0⟩ := Box.made w1 28 #[.bool b5, .slice A5 n5 c5] (by simp [isDig])
 have hb := hr1.kd x0.kd
 replace ea := ea.ext x0
 replace ez := ez.ext x0
 have hgb : w.heap.size + 1 < w1.heap.size := by have := hx1.size; simp at this; omega
 have hx := hx1.a2.trans x0
 have Hb := Lib.hid hb
 have Ha := Lib.hid (HV.out.ext hx)
 clear hr1 hb hx1
 go_wp2
 rw [← eW]
 clear eW x0
 generalize w1.heap.size = gb at *
 go_loopw [1] (fun nv wr => ∃ (n p k : Nat) (b : Bool) (A : Option Addr) (m c : Nat), nv = .int .i64 n ∧ k + p * n = n0 ∧ n ≤ n0 ∧ p ≤ n0 + 1 ∧ Box wr w.heap.size 28 #[.bool b, .slice A m c] ∧ HasZ wr (.agg #[.bool b, .slice A m c]) (a ^ p) ∧ Box wr (w.heap.size + 1) 28 #[.bool false, .slice none 0 0] ∧ BoxZ wr gb 28 (a ^ k) ∧ Ext w wr) (fun nv _ => (intOf nv).toNat)
 case atStart => exact ⟨n0, 1, 0, _, _, _, _, rfl, by omega, by omega, by omega, ea, by rw [Int.pow_one]; exact Ha.out, ez, by rw [Int.pow_zero]; exact BoxZ.mk eb Hb.out, hx⟩
 case round =>
  clear ea ez eb hx Ha Hb
  obtain ⟨n, p, k, b, A, m, c, rfl, hkn, hnn, hp, ea, ha, ez, ⟨b6, A6, n6, c6, eb, hb⟩, hx⟩ := hrel
  have Ha := Lib.hid ha; have Hb := Lib.hid hb; clear ha hb
  by_cases hn0 : 0 < n
  ·have hq : wrap64 ((n : Int) / 2) = ((n / 2 : Nat) : Int) := by rw [show ((n : Int) / 2) = ((n / 2 : Nat) : Int) by omega]; exact IntWalk.wrap64_in _ ⟨by omega, by omega⟩
   have hkp : k ≤ n0 + 1 := by omega
   by_cases hodd : n % 2 = 1
   ·have hb1 : (((n : Nat) : Int).tmod 2 == 1) = true := by rw [tmod_two]; simpa using hodd
    have hk2 : k + p ≤ n0 + 1 := by
     have h3 : p * 1 ≤ p * n := Nat.mul_le_mul_left _ (by omega)
     omega
    obtain ⟨cea0, cea1⟩ := ea.cells2
    have fea := ea.frozen
    obtain ⟨ceb0, ceb1⟩ := eb.cells2
    have feb := eb.frozen
    go_wp2_with fail
    refine Calls.mono (mul_r _ _ (a ^ k) (a ^ p) _ (Hb.out.has (by have := HS.out k hkp; omega)) Ha.out (by have := HS.out k hkp; omega) (by have := HS.out p hp; omega)) ?_
    rintro e w2 ⟨r2, rfl, hr2, hx2⟩
    obtain ⟨b7, A7, n7, c7, rfl⟩ := hr2.cells
    have ha := Ha.out.ext hx2
    clear Ha Hb cea0 cea1 fea ceb0 ceb1 feb
    replace ea := ea.ext hx2
    replace ez := ez.ext hx2
    replace eb := eb.ext hx2
    replace hx := hx.trans hx2
    clear hx2
    obtain ⟨ceb0, ceb1⟩ := eb.cells2
    have feb := eb.frozen
    have Ha2 := Lib.hid ha; clear ha
    go_upto_region 5 with (fail)
    have ha := Ha2.out
    obtain ⟨W3, eW, eb', U⟩ := eb.put2 (.bool b7) (.slice A7 n7 c7) rfl rfl
    rw [← eW]
    clear eW eb
    replace hr2 := hr2.kd U.kd
    replace ha := ha.kd U.kd
    replace ea := ea.upd U (by simp <;> omega)
    replace ez := ez.upd U (by simp <;> omega)
    replace hx := U.from_ hx (by simp <;> omega)
    have eb := eb'
    clear U eb'
    rw [← Int.pow_add] at hr2
    have Ha := Lib.hid ha; have Hb := Lib.hid hr2; clear ha hr2 Ha2
    by_cases h2 : 0 < n / 2
    ·skip
     have hb2 : decide ((0 : Int) < ((n / 2 : Nat) : Int)) = true := decide_eq_true (by omega)
     obtain ⟨cea0, cea1⟩ := ea.cells2
     have fea := ea.frozen
     go_wp2_with fail
     refine Calls.mono (mul_r _ _ (a ^ p) (a ^ p) _ Ha.out Ha.out (by have := HS.out p hp; omega) (by have := HS.out p hp; omega)) ?_
     rintro e w9 ⟨r9, rfl, hr9, hx9⟩
     obtain ⟨b9, A9, n9, c9, rfl⟩ := hr9.cells
     have hb9 := Hb.out.kd hx9.kd
     clear cea0 cea1 fea
     replace ea := ea.ext hx9
     replace ez := ez.ext hx9
     replace eb := eb.ext hx9
     replace hx := hx.trans hx9
     clear hx9
     obtain ⟨cea0, cea1⟩ := ea.cells2
     have fea := ea.frozen
     have Hb9 := Lib.hid hb9; clear hb9
     go_wp2
     have hb9 := Hb9.out
     obtain ⟨W9, eW, ea', U⟩ := ea.put2 (.bool b9) (.slice A9 n9 c9) rfl rfl
     rw [← eW]
     clear eW ea
     replace hr9 := hr9.kd U.kd
     replace hb9 := hb9.kd U.kd
     replace ez := ez.upd U (by simp <;> omega)
     replace eb := eb.upd U (by simp <;> omega)
     replace hx := U.from_ hx (by simp <;> omega)
     have ea := ea'
     clear U ea'
     have hpp : p + p ≤ n0 + 1 := by
      have h3 : p * 2 ≤ p * n := Nat.mul_le_mul_left _ (by omega)
      omega
     have hkk : (k + p) + (p + p) * (n / 2) = n0 := by
      have e : n = 2 * (n / 2) + n % 2 := by omega
      rw [hodd] at e
      generalize n / 2 = h at *
      subst e
      grind
     go_roundw
     case rel => exact ⟨n / 2, p + p, (k + p), _, _, _, _, by congr 1 <;> omega, hkk, by omega, hpp, ea, by rw [Int.pow_add]; exact hr9.has (by rw [← Int.pow_add]; have := HS.out (p + p) hpp; omega), ez, BoxZ.mk eb hb9, hx⟩
     case measure => simp [intOf]; omega
    ·skip
     have hb2 : decide ((0 : Int) < ((n / 2 : Nat) : Int)) = false := decide_eq_false (by omega)
     have h20 : n / 2 = 0 := by omega
     have hkk : (k + p) + p * 0 = n0 := by
      have e : n = 2 * (n / 2) + n % 2 := by omega
      rw [hodd, h20] at e
      subst e
      grind
     go_wp2
     go_roundw
     case rel => exact ⟨0, p, (k + p), _, _, _, _, by rw [show ((n : Int) / 2) = ((0 : Nat) : Int) by omega], hkk, by omega, hp, ea, Ha.out, ez, BoxZ.mk eb Hb.out, hx⟩
     case measure => simp [intOf]; omega
   ·have hb1 : (((n : Nat) : Int).tmod 2 == 1) = false := by rw [tmod_two]; simpa using hodd
    have hev : n % 2 = 0 := by omega
    have h2 : 0 < n / 2 := by omega
    have hb2 : decide ((0 : Int) < ((n / 2 : Nat) : Int)) = true := decide_eq_true (by omega)
    obtain ⟨cea0, cea1⟩ := ea.cells2
    have fea := ea.frozen
    go_wp2_with fail
    refine Calls.mono (mul_r _ _ (a ^ p) (a ^ p) _ Ha.out Ha.out (by have := HS.out p hp; omega) (by have := HS.out p hp; omega)) ?_
    rintro e w9 ⟨r9, rfl, hr9, hx9⟩
    obtain ⟨b9, A9, n9, c9, rfl⟩ := hr9.cells
    have hb9 := Hb.out.kd hx9.kd
    clear cea0 cea1 fea
    replace ea := ea.ext hx9
    replace ez := ez.ext hx9
    replace eb := eb.ext hx9
    replace hx := hx.trans hx9
    clear hx9
    obtain ⟨cea0, cea1⟩ := ea.cells2
    have fea := ea.frozen
    have Hb9 := Lib.hid hb9; clear hb9
    go_wp2
    have hb9 := Hb9.out
    obtain ⟨W9, eW, ea', U⟩ := ea.put2 (.bool b9) (.slice A9 n9 c9) rfl rfl
    rw [← eW]
    clear eW ea
    replace hr9 := hr9.kd U.kd
    replace hb9 := hb9.kd U.kd
    replace ez := ez.upd U (by simp <;> omega)
    replace eb := eb.upd U (by simp <;> omega)
    replace hx := U.from_ hx (by simp <;> omega)
    have ea := ea'
    clear U ea'
    have hpp : p + p ≤ n0 + 1 := by
     have h3 : p * 2 ≤ p * n := Nat.mul_le_mul_left _ (by omega)
     omega
    have hkk : k + (p + p) * (n / 2) = n0 := by
     have e : n = 2 * (n / 2) + n % 2 := by omega
     rw [hev] at e
     generalize n / 2 = h at *
     subst e
     grind
    go_roundw
    case rel => exact ⟨n / 2, p + p, k, _, _, _, _, by congr 1 <;> omega, hkk, by omega, hpp, ea, by rw [Int.pow_add]; exact hr9.has (by rw [← Int.pow_add]; have := HS.out (p + p) hpp; omega), ez, BoxZ.mk eb hb9, hx⟩
    case measure => simp [intOf]; omega
  ·obtain rfl : n = 0 := by omega
   have hk0 : k = n0 := by omega
   subst hk0
   obtain ⟨cez0, cez1⟩ := ez.cells2
   have fez := ez.frozen
   obtain ⟨ceb0, ceb1⟩ := eb.cells2
   have feb := eb.frozen
   have hr := Hb.out
   go_wp2
   obtain ⟨W3, eW, ez', U⟩ := ez.put2 (.bool b6) (.slice A6 n6 c6) rfl rfl
   rw [← eW]
   clear eW ez
   replace hr := hr.kd U.kd
   replace hx := U.from_ hx (by simp <;> omega)
   have ez := ez'
   clear U ez'
   clear cez0 cez1 fez
   obtain ⟨cez0, cez1⟩ := ez.cells2
   have fez := ez.frozen
   refine bodyPost_ret (v := .agg #[.bool b6, .slice A6 n6 c6]) (by simp [results, Tryz.results86, go_sem, cez0, cez1]) rfl ?_
   exact Gives.mk hr hx
theorem radd (v u : Value) (F G : Nat → Rat) (s t : Nat) (w : World) (hv : IsZP 0 w v F) (hu : IsZP 0 w u G) (hs : ∀ i, qsz (F i) ≤ s) (ht : ∀ i, qsz (G i) ≤ t) (hst : s + t + 1 ≤ 549755813888) (hn : pl F ≤ 549755813888) (hm : pl G ≤ 549755813888) :
  Calls Tryz.prog 37 #[v, u] w (Gives w fun r w' => IsZP 0 w' r (pad F G)) := by
 obtain ⟨l, h1, h2, -, rfl⟩ := hv.hz (fun i => by have := hs i; omega)
 obtain ⟨m, k1, k2, -, rfl⟩ := hu.hz (fun i => by have := ht i; omega)
 exact Gives.imp (add_rzp v u l m s t w h1 k1 hs ht hst (by omega) (by omega)) fun _ _ h => h.base_le (Nat.zero_le _)
theorem rsub (v u : Value) (F G : Nat → Rat) (s t : Nat) (w : World) (hv : IsZP 0 w v F) (hu : IsZP 0 w u G) (hs : ∀ i, qsz (F i) ≤ s) (ht : ∀ i, qsz (G i) ≤ t) (hst : s + t + 2 ≤ 549755813888) (hn : pl F ≤ 549755813888) (hm : pl G ≤ 549755813888) :
  Calls Tryz.prog 39 #[v, u] w (Gives w fun r w' => IsZP 0 w' r (psb F G)) := by
 obtain ⟨l, h1, h2, -, rfl⟩ := hv.hz (fun i => by have := hs i; omega)
 obtain ⟨m, k1, k2, -, rfl⟩ := hu.hz (fun i => by have := ht i; omega)
 exact Gives.imp (sub_rzp v u l m s t w h1 k1 hs ht hst (by omega) (by omega)) fun _ _ h => h.base_le (Nat.zero_le _)
theorem rscale (v u : Value) (F : Nat → Rat) (ca : Int) (s : Nat) (w : World) (hv : IsZP 0 w v F) (hu : HasZ w u ca) (hs : ∀ i, qsz (F i) ≤ s) (hst : s + qsz (ca : Rat) ≤ 549755813888) (hn : pl F ≤ 549755813888) :
  Calls Tryz.prog 41 #[v, u] w (Gives w fun r w' => IsZP 0 w' r (psc (ca : Rat) F)) := by
 obtain ⟨l, h1, h2, -, rfl⟩ := hv.hz (fun i => by have := hs i; omega)
 exact Gives.imp (scale_rzp v u l ca s w h1 hu hs hst (by omega)) fun _ _ h => h.base_le (Nat.zero_le _)
end Go.Proofs.YtfacbpnegkjcgaaGreatDoor
namespace Go.Hp
open Go.RowKit
theorem Rows_.fresh {base : Nat} {t t' : TypeId} {w w' : World} {v u : Value} {us : List Value} {ls : List (List Rat)} {l : List Rat} (h : Rows_ base t t' w v us ls) (hu : OwnQ w.heap.size t' w' u l) : ∀ i (h : i < us.length), ∀ g ∈ blk us[i], g ∉ blk u := by
 intro i hi g hg hu'
 have h1 := (OwnR.blk_ge (h.row i hi (by have := h.len; omega)) g hg).2
 have h2 := (OwnR.blk_ge hu g hu').1
 omega
theorem OwnQ.lower {base base' : Nat} {e : TypeId} {w : World} {v : Value} {l : List Rat} (h : OwnQ base e w v l) (hb : base' ≤ base) : OwnQ base' e w v l := by
 obtain ⟨ess, h1, h2, ⟨h3, h4⟩, h5⟩ := h
 refine ⟨ess, h1, h2, ⟨h3, ?_⟩, h5⟩
 rcases h4 with h4 | ⟨g, cap, cur, a, b, c⟩
 ·exact .inl h4
 ·exact .inr ⟨g, cap, cur, a, by omega, c⟩
theorem QsV.news {base n d : Nat} {w : World} {E : Option Addr} {l : List Rat} (h : QsV base w (.slice E n d) l) (h0 : 0 < l.length) :
  ∃ a : Addr, E = some a ∧ ∃ ess : List (Array Value), ess.length = l.length ∧ (∀ c ∈ ess, c.size = 4) ∧ (∀ j u, (ess.flatMap Array.toList)[j]? = some u → w.cell? (a.add j) = some u) ∧ (∀ u ∈ ess.flatMap Array.toList, u.oneCell' = true ∧ isDig u = false) ∧ ∀ j (hj : j < l.length) (h' : j < ess.length), IsQ w (.agg ess[j]) l[j] := by
 obtain ⟨A, c, e, _, _, hA⟩ := h
 injection e with e1 e2 e3
 subst e1
 obtain ⟨g, o, rfl, _, hc⟩ := hA h0
 obtain ⟨f, hf⟩ : ∃ f : Nat → Array Value, ∀ j (hj : j < l.length), (f j).size = 4 ∧ (∀ i, i < 4 → w.cell? ⟨g, o + j * 4 + i, none⟩ = (f j)[i]?) ∧ IsQ w (.agg (f j)) l[j] :=
  ⟨fun j => if hj : j < l.length then Classical.choose (hc j hj) else #[], fun j hj => by dsimp only; rw [dif_pos hj]; exact Classical.choose_spec (hc j hj)⟩
 have hsz : ∀ c ∈ (List.range l.length).map f, c.size = 4 := fun c hc' => by
  obtain ⟨j, hj, rfl⟩ := List.mem_map.1 hc'
  exact (hf j (List.mem_range.1 hj)).1
 refine ⟨_, rfl, (List.range l.length).map f, by simp, hsz, fun j u hj => ?_, fun u hu => ?_, fun j hj h' => by simpa using (hf j hj).2.2⟩
 ·have hlt : j < (((List.range l.length).map f).flatMap Array.toList).length := by
   rcases Nat.lt_or_ge j (((List.range l.length).map f).flatMap Array.toList).length with q | q
   ·exact q
   ·rw [List.getElem?_eq_none q] at hj; cases hj
  rw [flat_len hsz] at hlt
  simp only [List.length_map, List.length_range] at hlt
  have hg := flat_get hsz (j := j / 4) (i := j % 4) (by simp; omega) (by omega)
  rw [show j / 4 * 4 + j % 4 = j by omega, hj] at hg
  have ea : (⟨g, o, none⟩ : Addr).add j = ⟨g, o + j, none⟩ := by unfold Addr.add; split <;> simp_all
  rw [ea, show o + j = o + (j / 4) * 4 + j % 4 by omega, (hf (j / 4) (by omega)).2.1 _ (by omega)]
  simpa using hg.symm
 ·obtain ⟨c, hc', hu'⟩ := List.mem_flatMap.1 hu
  obtain ⟨j, hj, rfl⟩ := List.mem_map.1 hc'
  have ho := IsQ.one (hf j (List.mem_range.1 hj)).2.2
  exact ⟨ho.1 u hu', all_list.1 ho.2.1 u hu'⟩
end Go.Hp
namespace Go.Proofs.YtfacbpnegkjcgaaGreatDoor
open Go.RowKit Go.Hp
end Go.Proofs.YtfacbpnegkjcgaaGreatDoor
namespace Go.Proofs.YtfacbpnegkjcgaaGreatDoor
open Go.RowKit Go.Hp
end Go.Proofs.YtfacbpnegkjcgaaGreatDoor
namespace Go.Hp
open Go.RowKit
theorem OwnR.lower {α : Type} {k base base' : Nat} {rd : World → Value → α → Prop} {e : TypeId} {w : World} {v : Value} {l : List α} (h : OwnR k rd base e w v l) (hb : base' ≤ base) : OwnR k rd base' e w v l := by
 obtain ⟨ess, h1, h2, ⟨h3, h4⟩, h5⟩ := h
 refine ⟨ess, h1, h2, ⟨h3, ?_⟩, h5⟩
 rcases h4 with h4 | ⟨g, cap, cur, a, b, c⟩
 ·exact .inl h4
 ·exact .inr ⟨g, cap, cur, a, by omega, c⟩
theorem Rows_.lower {base base' : Nat} {t t' : TypeId} {w : World} {v : Value} {us : List Value} {ls : List (List Rat)} (h : Rows_ base t t' w v us ls) (hb : base' ≤ base) : Rows_ base' t t' w v us ls :=
 ⟨h.out.lower hb, h.len, fun i a b => (h.row i a b).lower hb, h.dis⟩
end Go.Hp
namespace Go.Proofs.YtfacbpnegkjcgaaGreatDoor
open Go.RowKit Go.Hp
end Go.Proofs.YtfacbpnegkjcgaaGreatDoor
namespace Go.Hp
open Go.RowKit
def TupE (w : World) (v : Value) (x : Int) (e : Int) : Prop := ∃ a, v = .tuple #[a, .int .i64 e] ∧ IsZ w a x
theorem TupE.ext {w w' : World} {v : Value} {x e : Int} (h : TupE w v x e) (k : Ext w w') : TupE w' v x e := by
 obtain ⟨a, h1, h2⟩ := h; exact ⟨a, h1, h2.kd k.kd⟩
def ZdOut (base : Nat) (F G : Nat → Rat) (r : Value) (w : World) : Prop := (Zdv F G → ∃ q, r = .tuple #[q, .int .i64 0] ∧ IsZP base w q (pq F G)) ∧ (¬ Zdv F G → r = .tuple #[.slice none 0 0, .int .i64 6])
end Go.Hp
namespace Go.Proofs.YtfacbpnegkjcgaaGreatDoor
open Go.RowKit Go.Hp
set_option maxHeartbeats 1000000 in
theorem exact_zn (v u : Value) (x y : Int) (w : World) (hv : HasZ w v x) (hu : HasZ w u y) (h0 : y ≠ 0) (hd : ¬ y ∣ x) : Calls Tryz.prog 62 #[v, u] w (Gives w fun r w' => TupE w' r 0 6) := by
 have Hv := Lib.hid hv; have Hu := Lib.hid hu
 obtain ⟨neg, A, n, c, N, rfl, h1, h2, h3, hN, hx⟩ := hv.form
 obtain ⟨neg', A', n', c', M, rfl, k1, k2, k3, kN, hy⟩ := hu.form
 clear hN hx hv hu kN hy
 have hz : x % y ≠ 0 := fun e => hd (Int.dvd_of_emod_eq_zero e)
 have hp : 0 < sz (x % y).natAbs := Nat.pos_of_ne_zero fun e => hz (by have := (sz_le_iff (n := (x % y).natAbs) (k := 0)).1 (by omega); rw [bp_zero] at this; omega)
 have H0 := Lib.hid (And.intro h0 hp); clear h0 hd hz hp
 go_enter Tryz.func62, Tryz.ntmps62
 go_wp2_with fail
 refine Calls.mono (divmod_z _ _ x y _ (Hv.out.ext ((((Ext.refl w).alloc _).alloc _).alloc _)) (Hu.out.ext ((((Ext.refl w).alloc _).alloc _).alloc _))) ?_
 rintro e w1 ⟨r, rfl, ⟨q, m, rfl, hq, hm⟩, hx1⟩
 rw [if_neg H0.out.1] at hm
 rw [if_neg H0.out.1]
 obtain ⟨b, A1, n1, c1, rfl⟩ := hq.cells
 obtain ⟨A2, c2, rfl, -⟩ := hm.form
 obtain ⟨n2, hn2⟩ : ∃ n2, n2 = sz (x % y).natAbs := ⟨_, rfl⟩
 rw [← hn2]
 have hn0 : 0 < n2 := by have := H0.out.2; omega
 obtain ⟨bb, hbb⟩ : ∃ bb, bb = decide (x % y < 0) := ⟨_, rfl⟩
 rw [← hbb]
 clear hq hm hn2 hbb
 have hx2 := (hx1.alloc (Obj.cells #[Value.bool b, Value.slice A1 n1 c1] 28)).alloc (Obj.cells #[Value.bool bb, Value.slice A2 n2 c2] 28)
 have hc2 := hx2.cells
 have hf2 := hx2.frozens
 have Hfin := Lib.hid (fin_z (isZ_zero ((w1.alloc (Obj.cells #[Value.bool b, Value.slice A1 n1 c1] 28)).alloc (Obj.cells #[Value.bool bb, Value.slice A2 n2 c2] 28))) hx2.a3 (NoDig.at_ hx2 (g := w.heap.size + 1 + 1) (by simp) (by simp [isDig])) (by omega))
 have hc1 := hx1.cells
 have hf1 := hx1.frozens
 go_wp2
 refine bodyPost_ret (v := .tuple #[.agg #[.bool false, .slice none 0 0], .int .i64 6]) (by simp [results, Tryz.results62, go_sem, hc2]) rfl ?_
 obtain ⟨r, e, hr, hx⟩ := Hfin.out
 cases e
 exact Gives.mk ⟨_, rfl, hr⟩ hx
theorem exact_e (v u : Value) (x y : Int) (w : World) (hv : HasZ w v x) (hu : HasZ w u y) (h0 : y ≠ 0) (hd : y ∣ x) : Calls Tryz.prog 62 #[v, u] w (Gives w fun r w' => TupE w' r (x / y) 0) := exact_z v u x y w hv hu h0 hd
set_option maxRecDepth 20000 in
set_option maxHeartbeats 16000000 in
theorem zdivide_z (v u : Value) (l m : List Int) (s t : Nat) (w : World) (hv : HzV 0 w v l) (hu : HzV 0 w u m) (hs : ∀ i, qsz (cz l i) ≤ s) (ht : ∀ i, qsz (cz m i) ≤ t) (hn : l.length ≤ 549755813888) (hm : m.length ≤ 549755813888) (h0 : cz m ≠ pz) (hst : s + (l.length + 2) * (t + 1) + t ≤ 1099511627776) :
  Calls Tryz.prog 30 #[v, u] w (Gives w (ZdOut w.heap.size (cz l) (cz m))) := by
 have HV := Lib.hid hv; have HU := Lib.hid hu
 obtain ⟨A0, c0, rfl⟩ := hv.len
 obtain ⟨A1, c1, rfl⟩ := hu.len
 clear hv hu
 have hN1 := normal_zarr _ l w HV.out (by omega)
 rw [trimZ_pl] at hN1
 have hN2 := fun W (x : Ext w W) => normal_zarr _ m W (HU.out.ext x) (by omega)
 simp only [trimZ_pl] at hN2
 have hc1 := pl_le (cz_sup l)
 have hc2 := pl_le (cz_sup m)
 have hfF := Fin_.cz l; have hzF := ZI.cz l; have hfG := Fin_.cz m; have hzG := ZI.cz m
 have hL := pl_pos hfG h0
 have ht1 := take_lzf l; have ht2 := take_lzf m
 obtain ⟨F, hF⟩ : ∃ F, F = cz l := ⟨_, rfl⟩
 obtain ⟨G, hG⟩ : ∃ G, G = cz m := ⟨_, rfl⟩
 rw [← hF] at hN1 hs hc1 hfF hzF ht1
 rw [← hG] at hc2 hfG hzG hL ht h0 ht2
 simp only [← hG] at hN2
 rw [← hF, ← hG]
 obtain ⟨P, hP⟩ : ∃ P, P = pl F := ⟨_, rfl⟩
 obtain ⟨L, hLe⟩ : ∃ L, L = pl G := ⟨_, rfl⟩
 obtain ⟨K, hK⟩ : ∃ K, K = pl F + 1 - pl G := ⟨_, rfl⟩
 have HB := Lib.hid (show (∀ k, k ≤ K → ∀ q, q ≤ s + k * (t + 1) → q ≤ 1099511627776 ∧ q + t ≤ 1099511627776) ∧ sz (ld G).num.natAbs ≤ 1099511627776 ∧ (∀ j, sz (G j).num.natAbs ≤ t) ∧ t ≤ 1099511627776 by
  have key : ∀ k, k ≤ K → k * (t + 1) ≤ (l.length + 2) * (t + 1) := fun k hk => Nat.mul_le_mul_right _ (by omega)
  have g1 : ∀ j, sz (G j).num.natAbs ≤ t := fun j => Nat.le_trans (qsz_nm _) (ht j)
  have g2 : sz (ld G).num.natAbs ≤ t := g1 _
  exact ⟨fun k hk q hq => by have := key k hk; omega, by omega, g1, by omega⟩)
 have HX := Lib.hid (And.intro hfF (And.intro hzF (And.intro hfG (And.intro hzG (And.intro h0 (And.intro hF (And.intro hG (And.intro hs ht))))))))
 have HP := Lib.hid (And.intro hP (And.intro hLe hK))
 rw [← hP] at hc1 hN1 ht1
 rw [← hLe] at hc2 hL ht2
 simp only [← hLe] at hN2
 have HN1 := Lib.hid hN1; have HN2 := Lib.hid hN2
 have HT := Lib.hid (And.intro ht1 ht2)
 have hKe : K = P + 1 - L := by rw [hP, hLe]; exact hK
 clear hs ht hst hfF hzF hfG hzG h0 hF hG hP hLe hK ht1 ht2 hN1 hN2
 have hb1 : ((L : Int) == 0) = false := by simpa using (show L ≠ 0 by omega)
 go_enter Tryz.func30, Tryz.ntmps30
 go_wp2_with fail
 refine Calls.mono HN1.out ?_
 rintro e w1 ⟨r1, rfl, ⟨rfl, er⟩, hx⟩
 have hg1 := er.lt
 go_wp2_with fail
 refine Calls.mono (HN2.out w1 hx) ?_
 rintro e w2 ⟨r2, rfl, ⟨rfl, eg⟩, hx2⟩
 have hg2 := eg.lt
 replace er := er.ext hx2
 replace hx := hx.trans hx2
 clear hx2
 have hK1 : P + 1 ≤ K + L ∧ (0 < K → P + 1 = K + L) := by omega
 have HK := Lib.hid hK1
 replace er := er.pre P
 rw [HT.out.1] at er
 replace eg := eg.pre L
 rw [HT.out.2] at eg
 obtain ⟨W0, hmk, eq, hxq⟩ := make_zs K (max ((P : Int) - L + 1) 0) (by omega) (by omega) w2
 replace er := er.ext hxq
 replace eg := eg.ext hxq
 replace hx := hx.trans hxq
 have hg3 := eq.lt
 rw [← lzf_rep] at eq
 have hK40 : K ≤ 1099511627776 := by omega
 clear hK1 hKe
 have hst0 : ZdSt F G K s t K pz F := ZdSt.start ((pl_sup HX.out.1).mono (by have := HK.out; have := HP.out; omega)) HX.out.2.1 HX.out.2.2.2.2.2.2.2.1
 have HS0 := Lib.hid hst0; clear hst0
 generalize hgG : w1.heap.size = gG at *
 generalize hgq : w2.heap.size = gq at *
 go_wp2
 clear hmk hxq
 go_loopw [8] (fun iv wr => ∃ (i : Nat) (Q R : Nat → Rat), i ≤ K ∧ iv = .int .i64 ((i : Int) - 1) ∧ ZArr wr w.heap.size 28 (lzf P R) ∧ ZArr wr gq 28 (lzf K Q) ∧ ZArr wr gG 28 (lzf L G) ∧ ZdSt F G K s t i Q R ∧ Sup P R ∧ Ext w wr) (fun iv _ => (intOf iv + 1).toNat)
 case atStart => exact ⟨K, pz, F, Nat.le_refl _, by go_num, er, eq, eg, HS0.out, by rw [HP.out.1]; exact pl_sup HX.out.1, hx⟩
 case round =>
  clear er eq eg hx
  obtain ⟨i, Q, R, hi, rfl, er, eq, eg, hst, hsP, hx⟩ := hrel
  have HR := Lib.hid hst; have HSP := Lib.hid hsP; clear hst hsP
  by_cases hi0 : 0 < i
  ·obtain ⟨k, rfl⟩ : ∃ k, i = k + 1 := ⟨i - 1, by omega⟩
   have hii : ((k + 1 : Nat) : Int) - 1 = (k : Int) := by omega
   rw [hii]
   clear hii hi0
   have hkK : k < K := by omega
   have hkP : k + L ≤ P := by have := HK.out.2; omega
   have hkL : k + L - 1 < P := by omega
   obtain ⟨z0, Z0, zn0, zc0, cr0, cr1, hzc⟩ := er.at_ (j := k + L - 1) (by rw [lzf_len]; exact hkL)
   rw [lzf_get] at hzc
   have hLP : ((k : Int) + L - 1).toNat = k + L - 1 := by omega
   have HQ := Lib.hid (show (∀ n, sz (R n).num.natAbs ≤ 1099511627776) ∧ (ld G).num ≠ 0 ∧ R (k + L - 1) = R (k + pl G - 1) from by
    refine ⟨fun n => ?_, fun e => ?_, by rw [HP.out.2.1]⟩
    ·have h1 := HR.out.2.2.2.2.2.2 n
     have h2 := HB.out.1 _ (show K - (k + 1) ≤ K by omega) _ h1
     have h3 := qsz_nm (R n); omega
    ·have := ld_ne HX.out.2.2.1 HX.out.2.2.2.2.1
     exact this (by rw [show ld G = ((ld G).num : Rat) from HX.out.2.2.2.1.num _, e]; rfl))
   have Hz := Lib.hid (And.intro hzc (show IsZP w.heap.size _ (.slice (some ⟨gG, 0, none⟩) L m.length) G by
    have h1 := eg
    have h2 := HP.out.2.1
    rw [h2] at h1
    rw [h2]
    exact h1.whole HX.out.2.2.2.1 HX.out.2.2.1 (by omega) (by omega) (by omega)))
   clear hzc
   obtain ⟨rv, hrv⟩ : ∃ rv, rv = (R (k + L - 1)).num := ⟨_, rfl⟩
   rw [← hrv] at Hz
   by_cases hd : (ld G).num ∣ rv
   ·obtain ⟨z, hzz⟩ : ∃ z, z = rv / (ld G).num := ⟨_, rfl⟩
    have HD := Lib.hid (And.intro hd (And.intro hrv hzz)); clear hd hzz
    go_wp2_with fail
    go_cut [9, 10] (fun pv ev wx => ∃ gc, pv = .pointer (some ⟨gc, 0, none⟩) ∧ ev = .int .i64 0 ∧ BoxZ wx gc 28 z ∧ wr.heap.size ≤ gc ∧ Ext wr wx)
    case first =>
     refine wp_region_late (k := 15) (ℓ := 13) (nl := 1) (D := [36, 37, 38, 39, 40, 41, 42, 43, 44, 45, 46, 35, 47, 48, 9]) (T := [[], [], [], [2], [1, 2, 3], [1, 2, 3, 4], [0, 1, 2, 3, 4, 5], [0, 1, 2, 3, 4, 5, 6], [], [8], [0, 1, 2, 3, 4, 5, 6, 7, 8, 9], [0, 1, 2, 3, 4, 5, 6, 7, 8, 9, 10], [0, 1, 2, 3, 4, 5, 6, 7, 8, 9, 10, 11], [0, 1, 2, 3, 4, 5, 6, 7, 8, 9, 10, 11], [], [0, 1, 2, 3, 4, 5, 6, 7, 8, 9, 10, 11, 12, 14], [0, 1, 2, 3, 4, 5, 6, 7, 8, 9, 10, 11, 12, 13, 14, 15]]) (EK := [6, 8, 1]) (EV := [?e1x0, ?e1x1, ?e1x2]) (VL := [(kv ?v1x0), (kv ?v1x1), (kv ?v1x2), (kv ?v1x3), (kv ?v1x4), (kv ?v1x5), (kv ?v1x6), (kv ?v1x7), (kv ?v1x8), (fun γ => γ 9), (fun γ => γ 10), (fun γ => γ 10), (fun γ => γ 12), (kv ?v1x13), (fun γ => γ 14)]) (FL := fun γ w' => [True, True, True, True, True, True, True, True, True, IsZ w' (γ 9) (ld G).num, TupE w' (γ 10) z 0, True, IsZ w' (γ 12) z, True, NewAt w' (γ 14) wr.heap.size #[.bool false, .slice none 0 0] 28]) _ rfl ?hE1 (by kernel_rfl) (by kernel_rfl) (by kernel_rfl) (by kernel_rfl) (by kernel_rfl) (by rfl) (by kernel_rfl) ?hloc1 ?hmono1 ?hstep1 ?htail1 ?hlate1
     case hE1 => refine ⟨?_, ?_, ?_, trivial⟩ <;> (simp only [List.getElem?_toArray, List.getElem?_cons_succ, List.getElem?_cons_zero]; rfl)
     case hstep1 =>
      refine ⟨⟨⟨⟨⟨⟨⟨⟨⟨⟨⟨⟨⟨⟨⟨trivial, ?_⟩, ?_⟩, ?_⟩, ?_⟩, ?_⟩, ?_⟩, ?_⟩, ?_⟩, ?_⟩, ?_⟩, ?_⟩, ?_⟩, ?_⟩, ?_⟩, ?_⟩
      iterate 9 focus
       intro γ w' he hf; clear hf; refine ⟨by trivial, ?_⟩; intro R hR; have hc := he.cells
       have cq0 := he.cell cr0
       have cq1 := he.cell cr1
       go_simp; (try go_ints); (try (rw [if_neg (by omega)])); (try (rw [if_pos (by omega)])); (try go_simp); (try go_ints)
       refine hR _ _ (Ext.refl _) ?_ trivial; rfl
      ·intro γ w' he hf; clear hf; refine ⟨trivial, ?_⟩; intro R hR
       go_simp
       refine Calls.mono (show Calls _ _ _ w' (Gives w' fun r w'' => IsZ w'' (r) (ld G).num) from lead_z _ w.heap.size G w' (Hz.out.2.ext he) HX.out.2.2.2.2.1) ?_
       rintro e w2 ⟨v, rfl, hv, hx⟩
       exact ⟨v, rfl, hR v w2 hx rfl hv⟩
      ·intro γ w' he hf; have f9 : IsZ w' (γ 9) (ld G).num := hf 9 (by decide); clear hf; refine ⟨trivial, ?_⟩; intro R hR
       go_simp
       refine Calls.mono (show Calls _ _ _ w' (Gives w' fun r w'' => TupE w'' (r) z 0) from HD.out.2.2 ▸ exact_e _ _ _ _ w' ((Hz.out.1.kd he.kd).has (by rw [HD.out.2.1]; exact HQ.out.1 _)) (f9.has HB.out.2.1) HQ.out.2.1 HD.out.1) ?_
       rintro e w2 ⟨v, rfl, hv, hx⟩
       exact ⟨v, rfl, hR v w2 hx rfl hv⟩
      ·intro γ w' he hf; have f9 : IsZ w' (γ 9) (ld G).num := hf 9 (by decide); have f10 : TupE w' (γ 10) z 0 := hf 10 (by decide); clear hf; refine ⟨trivial, ?_⟩; intro R hR
       have hc := he.cells
       go_simp
       (try go_ints); (try (rw [if_neg (by omega)])); (try (rw [if_pos (by omega)])); (try go_simp); (try go_ints)
       refine hR _ _ (Ext.refl _) ?_ trivial
       rfl
      ·intro γ w' he hf; have f9 : IsZ w' (γ 9) (ld G).num := hf 9 (by decide); have f10 : TupE w' (γ 10) z 0 := hf 10 (by decide); clear hf; refine ⟨trivial, ?_⟩; intro R hR
       obtain ⟨a, e, ha⟩ := f10
       go_simp
       exact hR _ _ (Ext.refl _) rfl ha
      ·intro γ w' he hf; have f9 : IsZ w' (γ 9) (ld G).num := hf 9 (by decide); have f10 : TupE w' (γ 10) z 0 := hf 10 (by decide); clear hf; refine ⟨trivial, ?_⟩; intro R hR
       obtain ⟨a, e, ha⟩ := f10
       have hc := he.cells
       go_simp
       (try go_ints); (try (rw [if_neg (by omega)])); (try (rw [if_pos (by omega)])); (try go_simp); (try go_ints)
       refine hR _ _ (Ext.refl _) ?_ trivial
       rfl
      ·intro γ w' he hf; clear hf; refine ⟨trivial, ?_⟩; intro R hR
       go_simp
       exact hR _ _ ((Ext.refl _).alloc _) rfl (NewAt.mk (Nat.le_trans (by simp) he.size) (by simp [isDig]))
     case hloc1 =>
      exact ⟨⟨⟨⟨⟨⟨⟨⟨⟨⟨⟨⟨⟨⟨⟨trivial, (fun γ γ' h => ⟨rfl, fun _ => rfl⟩)⟩, (fun γ γ' h => ⟨rfl, fun _ => rfl⟩)⟩, (fun γ γ' h => ⟨rfl, fun _ => rfl⟩)⟩, (fun γ γ' h => ⟨rfl, fun _ => rfl⟩)⟩, (fun γ γ' h => ⟨rfl, fun _ => rfl⟩)⟩, (fun γ γ' h => ⟨rfl, fun _ => rfl⟩)⟩, (fun γ γ' h => ⟨rfl, fun _ => rfl⟩)⟩, (fun γ γ' h => ⟨rfl, fun _ => rfl⟩)⟩, (fun γ γ' h => ⟨rfl, fun _ => rfl⟩)⟩, (fun γ γ' h => ⟨h 9 rfl, fun w' => (congrArg (fun a => IsZ w' (a) (ld G).num) (h 9 rfl))⟩)⟩, (fun γ γ' h => ⟨h 10 rfl, fun w' => (congrArg (fun a => TupE w' (a) z 0) (h 10 rfl))⟩)⟩, (fun γ γ' h => ⟨(congrArg (fun a => a) (h 10 rfl)), fun _ => rfl⟩)⟩, (fun γ γ' h => ⟨h 12 rfl, fun w' => (congrArg (fun a => IsZ w' (a) z) (h 12 rfl))⟩)⟩, (fun γ γ' h => ⟨rfl, fun _ => rfl⟩)⟩, (fun γ γ' h => ⟨h 14 rfl, fun w' => (congrArg (fun a => NewAt w' (a) wr.heap.size #[.bool false, .slice none 0 0] 28) (h 14 rfl))⟩)⟩
     case hmono1 =>
      exact ⟨⟨⟨⟨⟨⟨⟨⟨⟨⟨⟨⟨⟨⟨⟨trivial, (fun γ wA w' e h => h)⟩, (fun γ wA w' e h => h)⟩, (fun γ wA w' e h => h)⟩, (fun γ wA w' e h => h)⟩, (fun γ wA w' e h => h)⟩, (fun γ wA w' e h => h)⟩, (fun γ wA w' e h => h)⟩, (fun γ wA w' e h => h)⟩, (fun γ wA w' e h => h)⟩, (fun γ wA w' e h => (show IsZ wA (γ 9) (ld G).num from h).ext e)⟩, (fun γ wA w' e h => (show TupE wA (γ 10) z 0 from h).ext e)⟩, (fun γ wA w' e h => h)⟩, (fun γ w w' e h => IsZ.ext_ h e)⟩, (fun γ wA w' e h => h)⟩, (fun γ wA w' e h => (show NewAt wA (γ 14) wr.heap.size #[.bool false, .slice none 0 0] 28 from h).ext e)⟩
     case hlate1 =>
      intro γ w3 hx3 hF
      have p9 : IsZ w3 (γ 9) (ld G).num := (Each.get hF 9 (by decide)).resolve_left (by decide)
      have p10 : TupE w3 (γ 10) z 0 := (Each.get hF 10 (by decide)).resolve_left (by decide)
      have p12 : IsZ w3 (γ 12) z := (Each.get hF 12 (by decide)).resolve_left (by decide)
      have p14 : NewAt w3 (γ 14) wr.heap.size #[.bool false, .slice none 0 0] 28 := (Each.get hF 14 (by decide)).resolve_left (by decide)
      clear hF
      simp only [fillAll, gV, kv, List.getD_cons_zero, List.getD_cons_succ, Act.put, List.setIfInBounds_toArray, List.set_cons_zero, List.set_cons_succ, List.toList_toArray, List.drop_succ_cons, List.drop_zero, List.drop_nil, Nat.zero_add, Nat.reduceAdd, lateP, Array.getD_eq_getD_getElem?, List.getElem?_toArray, List.getElem?_cons_succ, List.getElem?_cons_zero, Option.getD_some]
      generalize γ 9 = g9 at *
      generalize γ 10 = g10 at *
      generalize γ 12 = g12 at *
      generalize γ 14 = g14 at *
      clear γ
      obtain ⟨a10, rfl, -⟩ := p10
      obtain ⟨gc, rfl, hgc, ec⟩ := p14
      obtain ⟨b5, A5, n5, c5, rfl⟩ := p12.cells
      clear cr0 cr1 p9 hLP
      obtain ⟨cec0, cec1⟩ := ec.cells2
      have fec := ec.frozen
      go_wp2
      refine ⟨?_, trivial⟩
      go_wp2
      skip
      obtain ⟨W4, eW, ec', U⟩ := ec.put2 (.bool b5) (.slice A5 n5 c5) rfl rfl
      rw [← eW]
      clear eW ec
      replace p12 := p12.kd U.kd
      replace hx3 := U.from_ hx3 (by simp <;> omega)
      have ec := ec'
      clear U ec'
      go_meet
      case rel => exact ⟨gc, rfl, rfl, BoxZ.mk ec p12, hgc, hx3⟩
     intro γ w3 hx3 hF
     have p9 : IsZ w3 (γ 9) (ld G).num := Each.get hF 9 (by decide)
     have p10 : TupE w3 (γ 10) z 0 := Each.get hF 10 (by decide)
     have p12 : IsZ w3 (γ 12) z := Each.get hF 12 (by decide)
     have p14 : NewAt w3 (γ 14) wr.heap.size #[.bool false, .slice none 0 0] 28 := Each.get hF 14 (by decide)
     clear hF
     simp only [fillAll, gV, kv, List.getD_cons_zero, List.getD_cons_succ, Act.put, List.setIfInBounds_toArray, List.set_cons_zero, List.set_cons_succ, List.toList_toArray, List.drop_succ_cons, List.drop_zero, List.drop_nil, Nat.zero_add, Nat.reduceAdd]
     generalize γ 9 = g9 at *
     generalize γ 10 = g10 at *
     generalize γ 12 = g12 at *
     generalize γ 14 = g14 at *
     clear γ
     obtain ⟨a10, rfl, -⟩ := p10
     obtain ⟨gc, rfl, hgc, ec⟩ := p14
     obtain ⟨b5, A5, n5, c5, rfl⟩ := p12.cells
     clear cr0 cr1 p9 hLP
     obtain ⟨cec0, cec1⟩ := ec.cells2
     have fec := ec.frozen
     go_wp2
     skip
     obtain ⟨W4, eW, ec', U⟩ := ec.put2 (.bool b5) (.slice A5 n5 c5) rfl rfl
     rw [← eW]
     clear eW ec
     replace p12 := p12.kd U.kd
     replace hx3 := U.from_ hx3 (by simp <;> omega)
     have ec := ec'
     clear U ec'
     go_meet
     case rel => exact ⟨gc, rfl, rfl, BoxZ.mk ec p12, hgc, hx3⟩
    case rest =>
     clear cr0 cr1 hLP
     obtain ⟨gc, rfl, rfl, ⟨b, B, bn, bc, e8, hb⟩, hgc, hx3⟩ := hcut
     have hgq := eq.lt
     have hgr := er.lt
     have hgg := eg.lt
     replace er := er.ext hx3
     replace eq := eq.ext hx3
     replace eg := eg.ext hx3
     replace hx := hx.trans hx3
     clear hx3
     have hzk : Q k = 0 := HR.out.1 k (by omega)
     have hzv : R (k + pl G - 1) = (z : Rat) * ld G := by
      rw [← HQ.out.2.2, HD.out.2.2, HD.out.2.1]
      exact HR.out.yes HX.out.2.2.2.1 (by rw [← HD.out.2.1]; exact HD.out.1)
     have HZ := Lib.hid (show ZdSt F G K s t k (pad Q (mono k (z : Rat))) (psb R (cv (mono k (z : Rat)) G)) ∧ Q k = 0 ∧ sz z.natAbs ≤ 1099511627776 ∧ (∀ j, sz (z * (G j).num).natAbs ≤ 1099511627776) ∧ ∀ n, sz (R n).num.natAbs ≤ 1099511627776 from by
      have hl := ld_ne HX.out.2.2.1 HX.out.2.2.2.2.1
      have h1 : qsz (z : Rat) ≤ qsz (R (k + pl G - 1)) := qsz_quot hl (HX.out.2.2.2.1 _) hzv
      have h2 := HR.out.2.2.2.2.2.2 (k + pl G - 1)
      have h3 := HB.out.1 _ (show K - (k + 1) ≤ K by omega) _ h2
      have h4 : sz z.natAbs ≤ qsz (z : Rat) := by rw [qsz_cast]; omega
      refine ⟨HR.out.step HX.out.2.2.1 HX.out.2.2.2.2.1 HX.out.2.2.2.1 HX.out.2.2.2.2.2.2.2.2 hkK hzv, hzk, by omega, fun j => ?_, HQ.out.1⟩
      have h5 := mul_sz2 (x := z) (y := (G j).num) h4 (HB.out.2.2.1 j)
      omega)
     clear hzk hzv
     have Hb := Lib.hid hb; clear hb
     have hkl : k < (lzf K Q).length := by rw [lzf_len]; exact hkK
     have Hkl := Lib.hid hkl
     obtain ⟨ce80, ce81⟩ := e8.cells2
     have fe8 := e8.frozen
     obtain ⟨_, _, _, _, ca0, ca1, -⟩ := eq.at_ (j := k) (by first | omega | (simp; omega))
     have fa0 := eq.frozen (k * 2)
     have fa1 := eq.frozen (k * 2 + 1)
     clear hkl
     go_wp2
     have hkl := Hkl.out
     have hb := Hb.out
     obtain ⟨W7, eW, eq', U⟩ := eq.put (k := k) (by first | omega | (simp; omega)) hb
     rw [← eW]
     clear eW eq
     replace hb := hb.kd U.kd
     replace er := er.upd U (by simp <;> omega)
     replace eg := eg.upd U (by simp <;> omega)
     replace e8 := e8.upd U (by simp <;> omega)
     replace hx := U.from_ hx (by simp <;> omega)
     have eq := eq'
     clear U eq'
     rw [lzf_set (G := pad Q (mono k (z : Rat))) (fun n => padm_num HR.out.2.2.2.2.1 HZ.out.2.1 n)] at eq
     have ec := BoxZ.mk e8 hb
     clear e8 hb Hb Hkl hkl ce80 ce81 fe8
     go_loopw [57] (fun jv wx => ∃ j : Nat, j ≤ L ∧ jv = .int .i64 j ∧ ZArr wx w.heap.size 28 (lzf P (subG k j (z : Rat) R G)) ∧ ZArr wx gq 28 (lzf K (pad Q (mono k (z : Rat)))) ∧ ZArr wx gG 28 (lzf L G) ∧ BoxZ wx gc 28 z ∧ Ext w wx) (fun jv _ => L - (intOf jv).toNat)
     case atStart => exact ⟨0, Nat.zero_le _, rfl, by rw [subG_zero]; exact er, eq, eg, ec, hx⟩
     case round =>
      clear er eq eg ec hx
      obtain ⟨j, hj, rfl, er, eq, eg, ec, hx⟩ := hrel
      by_cases hjl : j < L
      ·obtain ⟨y1, Y1, yn1, yc1, q0, q1, hy⟩ := eg.at_ (j := j) (by rw [lzf_len]; exact hjl)
       rw [lzf_get] at hy
       have Hy := Lib.hid hy; clear hy
       have hne := ec.lt
       have hne2 := eq.lt
       go_wp2_with fail
       obtain ⟨W10, eW10, e10, x10⟩ := Box.made wr 28 #[.bool y1, .slice Y1 yn1 yc1] (by simp [isDig])
       rw [← eW10]
       clear eW10 q0 q1
       have hy := Hy.out.kd x10.kd
       replace er := er.ext x10
       replace eq := eq.ext x10
       replace eg := eg.ext x10
       replace ec := ec.ext x10
       replace hx := hx.trans x10
       clear x10
       obtain ⟨b, B, bn, bc, e8, hb⟩ := ec
       have hij : k + j < P := by omega
       obtain ⟨z1, Z1, zn1, zc1, ca0, ca1, hz⟩ := er.at_ (j := k + j) (by rw [lzf_len]; exact hij)
       rw [lzf_get, subG_at] at hz
       obtain ⟨rj, hrj⟩ : ∃ rj, rj = (R (k + j)).num := ⟨_, rfl⟩
       rw [← hrj] at hz
       have Hrj := Lib.hid hrj; clear hrj
       have Hz' := Lib.hid (And.intro hz (And.intro hb hy)); clear hz hb hy Hy
       obtain ⟨ce80, ce81⟩ := e8.cells2
       have fe8 := e8.frozen
       obtain ⟨ce100, ce101⟩ := e10.cells2
       have fe10 := e10.frozen
       go_wp2_with fail
       refine wp_region_par (k := 14) (D := [62, 63, 64, 65, 66, 67, 68, 69, 70, 71, 72, 73, 74, 75]) (T := [[], [], [], [1, 2], [], [], [], [5, 6], [4, 5, 6, 7], [4, 5, 6, 7, 8], [], [], [10, 11], [4, 5, 6, 7, 8, 9, 10, 11, 12], [0, 1, 2, 3, 4, 5, 6, 7, 8, 9, 10, 11, 12, 13], [0, 1, 2, 3, 4, 5, 6, 7, 8, 9, 10, 11, 12, 13, 14]]) (EK := [6, 8, 11, 9, 12]) (EV := [?e2x0, ?e2x1, ?e2x2, ?e2x3, ?e2x4]) (VL := [(kv ?v2x0), (kv ?v2x1), (kv ?v2x2), (kv ?v2x3), (kv ?v2x4), (kv ?v2x5), (kv ?v2x6), (kv ?v2x7), (kv ?v2x8), (kv ?v2x9), (kv ?v2x10), (kv ?v2x11), (fun γ => γ 12), (fun γ => γ 13)]) (FL := fun γ w' => [True, True, True, True, True, True, True, True, True, True, True, True, IsZ w' (γ 12) (z * (G j).num), IsZ w' (γ 13) (rj - z * (G j).num)]) ?hE2 (by kernel_rfl) (by kernel_rfl) (by rfl) (by kernel_rfl) ?hloc2 ?hmono2 ?hstep2 ?htail2
       case hE2 => refine ⟨?_, ?_, ?_, ?_, ?_, trivial⟩ <;> (simp only [List.getElem?_toArray, List.getElem?_cons_succ, List.getElem?_cons_zero]; rfl)
       case hstep2 =>
        refine ⟨⟨⟨⟨⟨⟨⟨⟨⟨⟨⟨⟨⟨⟨trivial, ?_⟩, ?_⟩, ?_⟩, ?_⟩, ?_⟩, ?_⟩, ?_⟩, ?_⟩, ?_⟩, ?_⟩, ?_⟩, ?_⟩, ?_⟩, ?_⟩
        iterate 12 focus
         intro γ w' he hf; clear hf; refine ⟨by trivial, ?_⟩; intro R hR; have hc := he.cells
         have cq0 := he.cell ca0
         have cq1 := he.cell ca1
         have cq2 := he.cell ce80
         have cq3 := he.cell ce81
         have cq4 := he.cell ce100
         have cq5 := he.cell ce101
         go_simp; (try go_ints); (try (rw [if_neg (by omega)])); (try (rw [if_pos (by omega)])); (try go_simp); (try go_ints)
         refine hR _ _ (Ext.refl _) ?_ trivial; rfl
        ·intro γ w' he hf; clear hf; refine ⟨trivial, ?_⟩; intro R hR
         go_simp
         refine Calls.mono (show Calls _ _ _ w' (Gives w' fun r w'' => IsZ w'' (r) (z * (G j).num)) from mul_z _ _ _ _ w' ((Hz'.out.2.1.kd he.kd).has HZ.out.2.2.1) ((Hz'.out.2.2.kd he.kd).has (by have h1 := HB.out.2.2.1 j; have h2 := HB.out.2.2.2; omega))) ?_
         rintro e w2 ⟨v, rfl, hv, hx⟩
         exact ⟨v, rfl, hR v w2 hx rfl hv⟩
        ·intro γ w' he hf; have f12 : IsZ w' (γ 12) (z * (G j).num) := hf 12 (by decide); clear hf; refine ⟨trivial, ?_⟩; intro R hR
         go_simp
         refine Calls.mono (show Calls _ _ _ w' (Gives w' fun r w'' => IsZ w'' (r) (rj - z * (G j).num)) from sub_z _ _ _ _ w' ((Hz'.out.1.kd he.kd).has (by rw [Hrj.out]; exact HZ.out.2.2.2.2 _)) (f12.has (HZ.out.2.2.2.1 j))) ?_
         rintro e w2 ⟨v, rfl, hv, hx⟩
         exact ⟨v, rfl, hR v w2 hx rfl hv⟩
       case hloc2 =>
        exact ⟨⟨⟨⟨⟨⟨⟨⟨⟨⟨⟨⟨⟨⟨trivial, (fun γ γ' h => ⟨rfl, fun _ => rfl⟩)⟩, (fun γ γ' h => ⟨rfl, fun _ => rfl⟩)⟩, (fun γ γ' h => ⟨rfl, fun _ => rfl⟩)⟩, (fun γ γ' h => ⟨rfl, fun _ => rfl⟩)⟩, (fun γ γ' h => ⟨rfl, fun _ => rfl⟩)⟩, (fun γ γ' h => ⟨rfl, fun _ => rfl⟩)⟩, (fun γ γ' h => ⟨rfl, fun _ => rfl⟩)⟩, (fun γ γ' h => ⟨rfl, fun _ => rfl⟩)⟩, (fun γ γ' h => ⟨rfl, fun _ => rfl⟩)⟩, (fun γ γ' h => ⟨rfl, fun _ => rfl⟩)⟩, (fun γ γ' h => ⟨rfl, fun _ => rfl⟩)⟩, (fun γ γ' h => ⟨rfl, fun _ => rfl⟩)⟩, (fun γ γ' h => ⟨h 12 rfl, fun w' => (congrArg (fun a => IsZ w' (a) (z * (G j).num)) (h 12 rfl))⟩)⟩, (fun γ γ' h => ⟨h 13 rfl, fun w' => (congrArg (fun a => IsZ w' (a) (rj - z * (G j).num)) (h 13 rfl))⟩)⟩
       case hmono2 =>
        exact ⟨⟨⟨⟨⟨⟨⟨⟨⟨⟨⟨⟨⟨⟨trivial, (fun γ wA w' e h => h)⟩, (fun γ wA w' e h => h)⟩, (fun γ wA w' e h => h)⟩, (fun γ wA w' e h => h)⟩, (fun γ wA w' e h => h)⟩, (fun γ wA w' e h => h)⟩, (fun γ wA w' e h => h)⟩, (fun γ wA w' e h => h)⟩, (fun γ wA w' e h => h)⟩, (fun γ wA w' e h => h)⟩, (fun γ wA w' e h => h)⟩, (fun γ wA w' e h => h)⟩, (fun γ wA w' e h => (show IsZ wA (γ 12) (z * (G j).num) from h).ext e)⟩, (fun γ wA w' e h => (show IsZ wA (γ 13) (rj - z * (G j).num) from h).ext e)⟩
       intro γ w6 hx6 hF
       have p12 : IsZ w6 (γ 12) (z * (G j).num) := Each.get hF 12 (by decide)
       have p13 : IsZ w6 (γ 13) (rj - z * (G j).num) := Each.get hF 13 (by decide)
       clear hF
       simp only [fillAll, gV, kv, List.getD_cons_zero, List.getD_cons_succ, Act.put, List.setIfInBounds_toArray, List.set_cons_zero, List.set_cons_succ, List.toList_toArray, List.drop_succ_cons, List.drop_zero, List.drop_nil, Nat.zero_add, Nat.reduceAdd]
       generalize γ 12 = g12 at *
       generalize γ 13 = g13 at *
       clear γ
       have hb := Hz'.out.2.1.kd hx6.kd
       clear p12 Hz' ca0 ca1 ce80 ce81 fe8 ce100 ce101 fe10 e10
       replace er := er.ext hx6
       replace eq := eq.ext hx6
       replace eg := eg.ext hx6
       replace e8 := e8.ext hx6
       replace hx := hx.trans hx6
       clear hx6
       obtain ⟨b5, A5, n5, c5, rfl⟩ := p13.cells
       have hkf : k + j < (lzf P (subG k j (z : Rat) R G)).length := by rw [lzf_len]; exact hij
       have Hkf := Lib.hid hkf
       have Hb := Lib.hid hb; clear hb
       obtain ⟨_, _, _, _, ca0, ca1, -⟩ := er.at_ (j := k + j) (by first | omega | (simp; omega))
       have fa0 := er.frozen ((k + j) * 2)
       have fa1 := er.frozen ((k + j) * 2 + 1)
       clear hkf
       go_wp2
       have hkf := Hkf.out
       have hb := Hb.out
       obtain ⟨W9, eW, er', U⟩ := er.put (k := k + j) (by first | omega | (simp; omega)) p13
       rw [← eW]
       clear eW er
       replace hb := hb.kd U.kd
       replace eq := eq.upd U (by simp <;> omega)
       replace eg := eg.upd U (by simp <;> omega)
       replace e8 := e8.upd U (by simp <;> omega)
       replace hx := U.from_ hx (by simp <;> omega)
       have er := er'
       clear U er'
       go_roundw
       case rel => exact ⟨j + 1, by omega, by go_num, by
        rw [Hrj.out, lzf_set (G := subG k (j + 1) (z : Rat) R G) (fun n => subG_num HR.out.2.2.2.2.2.1 HX.out.2.2.2.1 n)] at er
        exact er, eq, eg, BoxZ.mk e8 hb, hx⟩
       case measure => simp [intOf]; omega
      ·obtain rfl : L = j := by omega
       rw [subG_full (pl_sup HX.out.2.2.1 |>.mono (by rw [← HP.out.2.1]; exact Nat.le_refl _))] at er
       go_wp2
       go_roundw
       case rel => exact ⟨k, _, _, by omega, by go_num, er, eq, eg, HZ.out.1, HSP.out.psb (((mono_sup k _).cv (pl_sup HX.out.2.2.1)).mono (by have := HP.out.2.1; omega)), hx⟩
       case measure => simp [intOf] <;> omega
   ·have hno : ¬ Zdv F G := HR.out.no HX.out.2.2.1 HX.out.2.2.2.2.1 HX.out.2.2.2.1 (by rw [← HQ.out.2.2, ← hrv]; exact hd)
    have HD := Lib.hid (And.intro hd (And.intro hrv hno)); clear hd hno
    go_wp2_with fail
    go_cut [9, 10] (fun pv ev wx => ∃ gc, pv = .pointer (some ⟨gc, 0, none⟩) ∧ ev = .int .i64 6 ∧ BoxZ wx gc 28 0 ∧ wr.heap.size ≤ gc ∧ Ext wr wx)
    case first =>
     refine wp_region_late (k := 15) (ℓ := 13) (nl := 1) (D := [36, 37, 38, 39, 40, 41, 42, 43, 44, 45, 46, 35, 47, 48, 9]) (T := [[], [], [], [2], [1, 2, 3], [1, 2, 3, 4], [0, 1, 2, 3, 4, 5], [0, 1, 2, 3, 4, 5, 6], [], [8], [0, 1, 2, 3, 4, 5, 6, 7, 8, 9], [0, 1, 2, 3, 4, 5, 6, 7, 8, 9, 10], [0, 1, 2, 3, 4, 5, 6, 7, 8, 9, 10, 11], [0, 1, 2, 3, 4, 5, 6, 7, 8, 9, 10, 11], [], [0, 1, 2, 3, 4, 5, 6, 7, 8, 9, 10, 11, 12, 14], [0, 1, 2, 3, 4, 5, 6, 7, 8, 9, 10, 11, 12, 13, 14, 15]]) (EK := [6, 8, 1]) (EV := [?e3x0, ?e3x1, ?e3x2]) (VL := [(kv ?v3x0), (kv ?v3x1), (kv ?v3x2), (kv ?v3x3), (kv ?v3x4), (kv ?v3x5), (kv ?v3x6), (kv ?v3x7), (kv ?v3x8), (fun γ => γ 9), (fun γ => γ 10), (fun γ => γ 10), (fun γ => γ 12), (kv ?v3x13), (fun γ => γ 14)]) (FL := fun γ w' => [True, True, True, True, True, True, True, True, True, IsZ w' (γ 9) (ld G).num, TupE w' (γ 10) 0 6, True, IsZ w' (γ 12) 0, True, NewAt w' (γ 14) wr.heap.size #[.bool false, .slice none 0 0] 28]) _ rfl ?hE3 (by kernel_rfl) (by kernel_rfl) (by kernel_rfl) (by kernel_rfl) (by kernel_rfl) (by rfl) (by kernel_rfl) ?hloc3 ?hmono3 ?hstep3 ?htail3 ?hlate3
     case hE3 => refine ⟨?_, ?_, ?_, trivial⟩ <;> (simp only [List.getElem?_toArray, List.getElem?_cons_succ, List.getElem?_cons_zero]; rfl)
     case hstep3 =>
      refine ⟨⟨⟨⟨⟨⟨⟨⟨⟨⟨⟨⟨⟨⟨⟨trivial, ?_⟩, ?_⟩, ?_⟩, ?_⟩, ?_⟩, ?_⟩, ?_⟩, ?_⟩, ?_⟩, ?_⟩, ?_⟩, ?_⟩, ?_⟩, ?_⟩, ?_⟩
      iterate 9 focus
       intro γ w' he hf; clear hf; refine ⟨by trivial, ?_⟩; intro R hR; have hc := he.cells
       have cq0 := he.cell cr0
       have cq1 := he.cell cr1
       go_simp; (try go_ints); (try (rw [if_neg (by omega)])); (try (rw [if_pos (by omega)])); (try go_simp); (try go_ints)
       refine hR _ _ (Ext.refl _) ?_ trivial; rfl
      ·intro γ w' he hf; clear hf; refine ⟨trivial, ?_⟩; intro R hR
       go_simp
       refine Calls.mono (show Calls _ _ _ w' (Gives w' fun r w'' => IsZ w'' (r) (ld G).num) from lead_z _ w.heap.size G w' (Hz.out.2.ext he) HX.out.2.2.2.2.1) ?_
       rintro e w2 ⟨v, rfl, hv, hx⟩
       exact ⟨v, rfl, hR v w2 hx rfl hv⟩
      ·intro γ w' he hf; have f9 : IsZ w' (γ 9) (ld G).num := hf 9 (by decide); clear hf; refine ⟨trivial, ?_⟩; intro R hR
       go_simp
       refine Calls.mono (show Calls _ _ _ w' (Gives w' fun r w'' => TupE w'' (r) 0 6) from exact_zn _ _ _ _ w' ((Hz.out.1.kd he.kd).has (by rw [HD.out.2.1]; exact HQ.out.1 _)) (f9.has HB.out.2.1) HQ.out.2.1 HD.out.1) ?_
       rintro e w2 ⟨v, rfl, hv, hx⟩
       exact ⟨v, rfl, hR v w2 hx rfl hv⟩
      ·intro γ w' he hf; have f9 : IsZ w' (γ 9) (ld G).num := hf 9 (by decide); have f10 : TupE w' (γ 10) 0 6 := hf 10 (by decide); clear hf; refine ⟨trivial, ?_⟩; intro R hR
       have hc := he.cells
       go_simp
       (try go_ints); (try (rw [if_neg (by omega)])); (try (rw [if_pos (by omega)])); (try go_simp); (try go_ints)
       refine hR _ _ (Ext.refl _) ?_ trivial
       rfl
      ·intro γ w' he hf; have f9 : IsZ w' (γ 9) (ld G).num := hf 9 (by decide); have f10 : TupE w' (γ 10) 0 6 := hf 10 (by decide); clear hf; refine ⟨trivial, ?_⟩; intro R hR
       obtain ⟨a, e, ha⟩ := f10
       go_simp
       exact hR _ _ (Ext.refl _) rfl ha
      ·intro γ w' he hf; have f9 : IsZ w' (γ 9) (ld G).num := hf 9 (by decide); have f10 : TupE w' (γ 10) 0 6 := hf 10 (by decide); clear hf; refine ⟨trivial, ?_⟩; intro R hR
       obtain ⟨a, e, ha⟩ := f10
       have hc := he.cells
       go_simp
       (try go_ints); (try (rw [if_neg (by omega)])); (try (rw [if_pos (by omega)])); (try go_simp); (try go_ints)
       refine hR _ _ (Ext.refl _) ?_ trivial
       rfl
      ·intro γ w' he hf; clear hf; refine ⟨trivial, ?_⟩; intro R hR
       go_simp
       exact hR _ _ ((Ext.refl _).alloc _) rfl (NewAt.mk (Nat.le_trans (by simp) he.size) (by simp [isDig]))
     case hloc3 =>
      exact ⟨⟨⟨⟨⟨⟨⟨⟨⟨⟨⟨⟨⟨⟨⟨trivial, (fun γ γ' h => ⟨rfl, fun _ => rfl⟩)⟩, (fun γ γ' h => ⟨rfl, fun _ => rfl⟩)⟩, (fun γ γ' h => ⟨rfl, fun _ => rfl⟩)⟩, (fun γ γ' h => ⟨rfl, fun _ => rfl⟩)⟩, (fun γ γ' h => ⟨rfl, fun _ => rfl⟩)⟩, (fun γ γ' h => ⟨rfl, fun _ => rfl⟩)⟩, (fun γ γ' h => ⟨rfl, fun _ => rfl⟩)⟩, (fun γ γ' h => ⟨rfl, fun _ => rfl⟩)⟩, (fun γ γ' h => ⟨rfl, fun _ => rfl⟩)⟩, (fun γ γ' h => ⟨h 9 rfl, fun w' => (congrArg (fun a => IsZ w' (a) (ld G).num) (h 9 rfl))⟩)⟩, (fun γ γ' h => ⟨h 10 rfl, fun w' => (congrArg (fun a => TupE w' (a) 0 6) (h 10 rfl))⟩)⟩, (fun γ γ' h => ⟨(congrArg (fun a => a) (h 10 rfl)), fun _ => rfl⟩)⟩, (fun γ γ' h => ⟨h 12 rfl, fun w' => (congrArg (fun a => IsZ w' (a) 0) (h 12 rfl))⟩)⟩, (fun γ γ' h => ⟨rfl, fun _ => rfl⟩)⟩, (fun γ γ' h => ⟨h 14 rfl, fun w' => (congrArg (fun a => NewAt w' (a) wr.heap.size #[.bool false, .slice none 0 0] 28) (h 14 rfl))⟩)⟩
     case hmono3 =>
      exact ⟨⟨⟨⟨⟨⟨⟨⟨⟨⟨⟨⟨⟨⟨⟨trivial, (fun γ wA w' e h => h)⟩, (fun γ wA w' e h => h)⟩, (fun γ wA w' e h => h)⟩, (fun γ wA w' e h => h)⟩, (fun γ wA w' e h => h)⟩, (fun γ wA w' e h => h)⟩, (fun γ wA w' e h => h)⟩, (fun γ wA w' e h => h)⟩, (fun γ wA w' e h => h)⟩, (fun γ wA w' e h => (show IsZ wA (γ 9) (ld G).num from h).ext e)⟩, (fun γ wA w' e h => (show TupE wA (γ 10) 0 6 from h).ext e)⟩, (fun γ wA w' e h => h)⟩, (fun γ w w' e h => IsZ.ext_ h e)⟩, (fun γ wA w' e h => h)⟩, (fun γ wA w' e h => (show NewAt wA (γ 14) wr.heap.size #[.bool false, .slice none 0 0] 28 from h).ext e)⟩
     case hlate3 =>
      intro γ w3 hx3 hF
      have p9 : IsZ w3 (γ 9) (ld G).num := (Each.get hF 9 (by decide)).resolve_left (by decide)
      have p10 : TupE w3 (γ 10) 0 6 := (Each.get hF 10 (by decide)).resolve_left (by decide)
      have p12 : IsZ w3 (γ 12) 0 := (Each.get hF 12 (by decide)).resolve_left (by decide)
      have p14 : NewAt w3 (γ 14) wr.heap.size #[.bool false, .slice none 0 0] 28 := (Each.get hF 14 (by decide)).resolve_left (by decide)
      clear hF
      simp only [fillAll, gV, kv, List.getD_cons_zero, List.getD_cons_succ, Act.put, List.setIfInBounds_toArray, List.set_cons_zero, List.set_cons_succ, List.toList_toArray, List.drop_succ_cons, List.drop_zero, List.drop_nil, Nat.zero_add, Nat.reduceAdd, lateP, Array.getD_eq_getD_getElem?, List.getElem?_toArray, List.getElem?_cons_succ, List.getElem?_cons_zero, Option.getD_some]
      generalize γ 9 = g9 at *
      generalize γ 10 = g10 at *
      generalize γ 12 = g12 at *
      generalize γ 14 = g14 at *
      clear γ
      obtain ⟨a10, rfl, -⟩ := p10
      obtain ⟨gc, rfl, hgc, ec⟩ := p14
      obtain ⟨b5, A5, n5, c5, rfl⟩ := p12.cells
      clear cr0 cr1 p9 hLP
      obtain ⟨cec0, cec1⟩ := ec.cells2
      have fec := ec.frozen
      go_wp2
      refine ⟨?_, trivial⟩
      go_wp2
      skip
      obtain ⟨W4, eW, ec', U⟩ := ec.put2 (.bool b5) (.slice A5 n5 c5) rfl rfl
      rw [← eW]
      clear eW ec
      replace p12 := p12.kd U.kd
      replace hx3 := U.from_ hx3 (by simp <;> omega)
      have ec := ec'
      clear U ec'
      go_meet
      case rel => exact ⟨gc, rfl, rfl, BoxZ.mk ec p12, hgc, hx3⟩
     intro γ w3 hx3 hF
     have p9 : IsZ w3 (γ 9) (ld G).num := Each.get hF 9 (by decide)
     have p10 : TupE w3 (γ 10) 0 6 := Each.get hF 10 (by decide)
     have p12 : IsZ w3 (γ 12) 0 := Each.get hF 12 (by decide)
     have p14 : NewAt w3 (γ 14) wr.heap.size #[.bool false, .slice none 0 0] 28 := Each.get hF 14 (by decide)
     clear hF
     simp only [fillAll, gV, kv, List.getD_cons_zero, List.getD_cons_succ, Act.put, List.setIfInBounds_toArray, List.set_cons_zero, List.set_cons_succ, List.toList_toArray, List.drop_succ_cons, List.drop_zero, List.drop_nil, Nat.zero_add, Nat.reduceAdd]
     generalize γ 9 = g9 at *
     generalize γ 10 = g10 at *
     generalize γ 12 = g12 at *
     generalize γ 14 = g14 at *
     clear γ
     obtain ⟨a10, rfl, -⟩ := p10
     obtain ⟨gc, rfl, hgc, ec⟩ := p14
     obtain ⟨b5, A5, n5, c5, rfl⟩ := p12.cells
     clear cr0 cr1 p9 hLP
     obtain ⟨cec0, cec1⟩ := ec.cells2
     have fec := ec.frozen
     go_wp2
     skip
     obtain ⟨W4, eW, ec', U⟩ := ec.put2 (.bool b5) (.slice A5 n5 c5) rfl rfl
     rw [← eW]
     clear eW ec
     replace p12 := p12.kd U.kd
     replace hx3 := U.from_ hx3 (by simp <;> omega)
     have ec := ec'
     clear U ec'
     go_meet
     case rel => exact ⟨gc, rfl, rfl, BoxZ.mk ec p12, hgc, hx3⟩
    case rest =>
     clear cr0 cr1 hLP
     obtain ⟨gc, rfl, rfl, -, -, hx3⟩ := hcut
     go_wp2
     go_ret2
     exact Gives.mk ⟨fun h => absurd h HD.out.2.2, fun _ => rfl⟩ (hx.trans hx3)
  ·obtain rfl : i = 0 := by omega
   have hm1 : ((0 : Nat) : Int) - 1 = -1 := by omega
   rw [hm1]
   have hfR := HR.out.fin
   have hcR : cz (lzf P R) = R := cz_lzf HR.out.2.2.2.2.2.1 HSP.out
   have hend := HR.out.end_ HX.out.1 HX.out.2.2.1 HX.out.2.2.2.2.1
   have hout := HR.out.out HX.out.1 HX.out.2.2.1 HX.out.2.2.2.2.1
   have hcQ : cz (lzf K Q) = Q := cz_lzf hend.2.2.2 hend.2.2.1
   have hT2 := trimmed_zs w.heap.size (some ⟨w.heap.size, 0, none⟩) l.length (lzf P R) wr (by rw [lzf_len]; exact hc1) (by omega) (er.row (Nat.le_refl _))
   have hT1 := trimmed_zs w.heap.size (some ⟨gq, 0, none⟩) K (lzf K Q) wr (by rw [lzf_len]; exact Nat.le_refl _) (by omega) (eq.row (by omega))
   rw [lzf_len] at hT1 hT2
   rw [trimZ_pl, hcR] at hT2
   have HE := Lib.hid (And.intro (eq.row (base := w.heap.size) (by omega)) (And.intro hcQ (And.intro hend (And.intro hout hfR))))
   clear er eq eg hm1 hcR hcQ hend hout hfR
   go_wp2_with fail
   refine Calls.mono hT2 ?_
   rintro e w3 ⟨rfl, rfl⟩
   by_cases hz : R = pz
   ·have h0 : pl R = 0 := by rw [hz, pl_pz]
    have hyes := HE.out.2.2.2.1.2 hz
    have HY := Lib.hid hyes; clear hz hyes
    rw [h0]
    go_wp2_with fail
    refine Calls.mono hT1 ?_
    rintro e w3 ⟨rfl, rfl⟩
    go_wp2
    go_ret2
    exact Gives.mk ⟨fun _ => ⟨_, rfl, by
     rw [← HE.out.2.2.1.1]
     exact IsZP.of_trim (ZsV.trim HE.out.1 (by rw [lzf_len]; exact Nat.le_refl _) (by omega)) HE.out.2.1⟩, fun h => absurd HY.out h⟩ hx
   ·have h0 : 0 < pl R := pl_pos HE.out.2.2.2.2 hz
    have hno : ¬ Zdv F G := fun h => hz (HE.out.2.2.2.1.1 h)
    have HY := Lib.hid hno; clear hz hno
    go_wp2
    go_ret2
    exact Gives.mk ⟨fun h => absurd h HY.out, fun _ => rfl⟩ hx
theorem zdivide_p (v u : Value) (F G : Nat → Rat) (s t : Nat) (w : World) (hv : IsZP 0 w v F) (hu : IsZP 0 w u G) (hs : ∀ i, qsz (F i) ≤ s) (ht : ∀ i, qsz (G i) ≤ t) (hn : pl F ≤ 549755813888) (hm : pl G ≤ 549755813888) (h0 : G ≠ pz) (hst : s + (pl F + 2) * (t + 1) + t ≤ 1099511627776) :
  Calls Tryz.prog 30 #[v, u] w (Gives w (ZdOut w.heap.size F G)) := by
 obtain ⟨l, h1, h2, -, rfl⟩ := hv.hz (fun i => by have := hs i; omega)
 obtain ⟨m, k1, k2, -, rfl⟩ := hu.hz (fun i => by have := ht i; omega)
 exact zdivide_z v u l m s t w h1 k1 hs ht (by omega) (by omega) h0 (by rw [h2]; exact hst)
end Go.Proofs.YtfacbpnegkjcgaaGreatDoor
namespace Go.Hp
open Go.RowKit
theorem pdq {F : Nat → Rat} {s n : Nat} (hs : ∀ i, qsz (F i) ≤ s) (h : Sup n F) (hn : n ≤ 9223372036854775806) (i : Nat) : qsz (pd F i) ≤ s + 2 := by
 by_cases hi : i + 1 ≤ n
 ·have h1 := qsz_mul ((i + 1 : Nat) : Rat) (F (i + 1)); have h2 := hs (i + 1); have h3 := qsz_nat (n := i + 1) (by omega)
  show qsz (((i + 1 : Nat) : Rat) * F (i + 1)) ≤ _; omega
 ·have : pd F i = 0 := by unfold pd; rw [h (i + 1) (by omega)]; exact Rat.mul_zero _
  rw [this, qsz_zero]; omega
noncomputable def dsz (F : Nat → Rat) : Int := sgz ((pl F - 1) * (pl F - 1 - 1) / 2) ((res F (pd F)).num / (F (pl F - 1)).num)
theorem half_pair (p : Nat) : ∃ h : Nat, ((p : Int) * ((p : Int) - 1) = 2 * (h : Int)) ∧ h = p * (p - 1) / 2 := by
 cases p with
 | zero => exact ⟨0, by simp, by simp⟩
 | succ k =>
  have key : ∀ k : Nat, ∃ h : Nat, (k + 1) * k = 2 * h := by
   intro k
   induction k with
   | zero => exact ⟨0, rfl⟩
   | succ k ih =>
    obtain ⟨h, e⟩ := ih
    exact ⟨h + (k + 1), by rw [Nat.mul_add 2, ← e]; grind⟩
  obtain ⟨h, e⟩ := key k
  refine ⟨h, ?_, ?_⟩
  ·have e2 : ((k + 1 : Nat) : Int) - 1 = (k : Nat) := by omega
   rw [e2, ← Int.natCast_mul, e]; rfl
  ·rw [show k + 1 - 1 = k from rfl, e]; omega
theorem par_b {h : Nat} {b : Bool} (e : decide (h % 2 = 1) = b) : (((h : Nat) : Int) % 2 == 1) = b := by
 rw [← e]
 by_cases q : h % 2 = 1
 ·rw [decide_eq_true q]; exact beq_iff_eq.2 (by omega)
 ·rw [decide_eq_false q]; exact Bool.eq_false_iff.2 fun e => q (by have := beq_iff_eq.1 e; omega)
end Go.Hp
namespace Go.Proofs.YtfacbpnegkjcgaaGreatDoor
open Go.RowKit Go.Hp
theorem zresultant_p (v u : Value) (F G : Nat → Rat) (S : Nat) (w : World) (hv : IsZP 0 w v F) (hu : IsZP 0 w u G) (hs : ∀ i, qsz (F i) ≤ S) (ht : ∀ i, qsz (G i) ≤ S) (hn : pl F ≤ 549755813888) (hm : pl G ≤ 549755813888) (hS : S ≤ 1099511627776) (hB : 8 + 8 * ((pl F + pl G + 1) * ((pl F + pl G + 1) * ((S + 1) * 2 ^ (pl F + pl G)))) ≤ 1099511627776) :
  Calls Tryz.prog 28 #[v, u] w (Gives w fun r w' => IsZ w' r (res F G).num) := by
 obtain ⟨l, h1, h2, -, rfl⟩ := hv.hz (fun i => by have := hs i; omega)
 obtain ⟨m, k1, k2, -, rfl⟩ := hu.hz (fun i => by have := ht i; omega)
 exact resultant_z v u l m S w h1 k1 hs ht (by omega) (by omega) hB
set_option maxRecDepth 20000 in
set_option maxHeartbeats 8000000 in
theorem discriminant_zw (v : Value) (l : List Int) (S : Nat) (w : World) (hv : HzV 0 w v l) (hs : ∀ i, qsz (cz l i) ≤ S) (hl : l.length ≤ 100) (h1 : 1 < pl (cz l)) (hS0 : S ≤ 68719476736) (hS : (pl (cz l) + pl (cz l)) * (S + 3) ≤ 68719476736)
  (hB : 8 + 8 * ((pl (cz l) + pl (cz l) + 1) * ((pl (cz l) + pl (cz l) + 1) * ((S + 2 + 1) * 2 ^ (pl (cz l) + pl (cz l))))) ≤ 1099511627776) :
  Calls Tryz.prog 24 #[v] w (Gives w fun r w' => TupE w' r (dsz (cz l)) 0) := by
 have HV := Lib.hid hv
 obtain ⟨A, c, rfl⟩ := hv.len
 clear hv
 have hpl : pl (cz l) ≤ l.length := pl_le (cz_sup l)
 have hpp := pl_pd (Fin_.cz l)
 have hpq : ∀ i, qsz (pd (cz l) i) ≤ S + 2 := pdq hs (cz_sup l) (by omega)
 have hnm := fun W (x : Ext w W) => normal_zp _ l W (HV.out.ext x) (by omega)
 have hder : ∀ W u, IsZP 0 W u (cz l) → Calls Tryz.prog 42 #[u] W (Gives W fun r w' => IsZP W.heap.size w' r (pd (cz l))) := fun W u hu => by
  obtain ⟨m, g1, g2, -, g4⟩ := hu.hz (fun i => by have := hs i; omega)
  rw [← g4]
  exact zderivative_p _ m W g1 (by omega)
 have h0 : cz l ≠ pz := fun e => by rw [e, pl_pz] at h1; omega
 have hlead : ∀ W u, IsZP 0 W u (cz l) → Calls Tryz.prog 76 #[u] W (Gives W fun r w' => IsZ w' r (ld (cz l)).num) := fun W u hu => lead_z u 0 (cz l) W hu h0
 have hrs : ∀ W u z, IsZP 0 W u (cz l) → IsZP 0 W z (pd (cz l)) → Calls Tryz.prog 28 #[u, z] W (Gives W fun r w' => IsZ w' r (res (cz l) (pd (cz l))).num) := fun W u z hu hz => by
  refine zresultant_p u z _ _ (S + 2) W hu hz (fun i => by have := hs i; omega) hpq (by omega) (by omega) (by omega) ?_
  rw [hpp]
  have e : 2 ^ (pl (cz l) + (pl (cz l) - 1)) ≤ 2 ^ (pl (cz l) + pl (cz l)) := Nat.pow_le_pow_right (by decide) (by omega)
  have e2 : (pl (cz l) + (pl (cz l) - 1) + 1) * ((pl (cz l) + (pl (cz l) - 1) + 1) * ((S + 2 + 1) * 2 ^ (pl (cz l) + (pl (cz l) - 1)))) ≤ (pl (cz l) + pl (cz l) + 1) * ((pl (cz l) + pl (cz l) + 1) * ((S + 2 + 1) * 2 ^ (pl (cz l) + pl (cz l)))) := Nat.mul_le_mul (by omega) (Nat.mul_le_mul (by omega) (Nat.mul_le_mul_left _ e))
  omega
 have hrz := res_sz (ZI.cz l) (zi_pd (ZI.cz l)) (S := S + 2) (fun i => by have := hs i; omega) hpq (by omega)
 have hdv := res_pd (Fin_.cz l) (ZI.cz l) h1
 have hz0 : (cz l (pl (cz l) - 1)).num ≠ 0 := fun e => hdv.2 (Rat.num_eq_zero.1 e)
 have hld : qsz (cz l (pl (cz l) - 1)) ≤ S := hs _
 have hb1 : sz (res (cz l) (pd (cz l))).num.natAbs ≤ 137438953472 := by
  have e1 : (pl (cz l) + pl (pd (cz l))) * (S + 2 + 1) ≤ (pl (cz l) + pl (cz l)) * (S + 3) := Nat.mul_le_mul (by omega) (by omega)
  omega
 have hdl : dsz (cz l) = sgz ((pl (cz l) - 1) * (pl (cz l) - 1 - 1) / 2) ((res (cz l) (pd (cz l))).num / (cz l (pl (cz l) - 1)).num) := rfl
 have hld2 : (ld (cz l)).num = (cz l (pl (cz l) - 1)).num := rfl
 obtain ⟨p, hp⟩ : ∃ p, pl (cz l) = p + 1 := ⟨pl (cz l) - 1, by omega⟩
 obtain ⟨h, hh1, hh2⟩ := half_pair p
 have hp1 : pl (cz l) - 1 = p := by omega
 have hdd := hdv.1
 rw [hp1] at hdl hz0 hld hld2 hdd
 rw [← hh2] at hdl
 have hpb : p ≤ 100 := by omega
 have hp0 : ¬ (p : Int) < 1 := by omega
 have hhb : h ≤ 10000 := by
  rw [hh2]
  have : p * (p - 1) ≤ 100 * 100 := Nat.mul_le_mul hpb (by omega)
  omega
 rw [hld2] at hlead
 rw [hdl]
 obtain ⟨X, hX⟩ : ∃ X, X = (res (cz l) (pd (cz l))).num := ⟨_, rfl⟩
 obtain ⟨L, hL⟩ : ∃ L, L = (cz l p).num := ⟨_, rfl⟩
 simp only [← hX, ← hL] at hrs hb1 hlead hz0 hdd ⊢
 have hLb : sz L.natAbs ≤ 137438953472 := by have := qz_num hld; rw [← hL] at this; omega
 obtain ⟨Y, hY⟩ : ∃ Y, Y = X / L := ⟨_, rfl⟩
 rw [← hY]
 have HY := Lib.hid (show sz Y.natAbs ≤ 137438953472 from by
  have : Y.natAbs ≤ X.natAbs := by rw [hY]; exact Int.natAbs_ediv_le_natAbs X L
  exact Nat.le_trans (sz_mono this) hb1)
 have HC := Lib.hid (And.intro hnm (And.intro hder (And.intro hlead hrs)))
 have HB := Lib.hid (And.intro hb1 (And.intro hz0 (And.intro hLb (And.intro hY (And.intro hdd hp)))))
 clear hnm hder hlead hrs hb1 hz0 hLb hY hX hL hdl hrz hdv hld hld2 hp1 hp hpq hpp hpl hS hS0 hs h1 hh2 HV hdd h0 hB
 go_enter Tryz.func24, Tryz.ntmps24
 have ez := Box.new w 28 #[.bool false, .slice none 0 0] (by simp [isDig])
 have hx := (Ext.refl w).alloc (.cells #[.bool false, .slice none 0 0] 28)
 go_upto_region 1 with (fail)
 generalize w.alloc (.cells #[.bool false, .slice none 0 0] 28) = w0 at *
 go_wp2_with fail
 refine Calls.mono (HC.out.1 _ hx) ?_
 rintro e w1 ⟨r1, rfl, hr1, hx1⟩
 have Hr1 := Lib.hid (hr1.base_le (Nat.zero_le _))
 obtain ⟨A1, c1, rfl, -⟩ := hr1.shape
 rw [HB.out.2.2.2.2.2] at Hr1 ⊢
 have e1 : (((p + 1 : Nat) : Int) - 1) = (p : Nat) := by omega
 replace ez := ez.ext hx1
 replace hx := hx.trans hx1
 clear hx1 hr1
 go_wp2_with fail
 refine Calls.mono (HC.out.2.1 _ _ Hr1.out) ?_
 rintro e w2 ⟨r2, rfl, hr2, hx2⟩
 have Hr2 := Lib.hid (And.intro (Hr1.out.ext hx2) (hr2.base_le (Nat.zero_le _)))
 replace ez := ez.ext hx2
 replace hx := hx.trans hx2
 clear hx2 hr2 Hr1
 go_wp2_with fail
 refine Calls.mono (HC.out.2.2.2 _ _ _ Hr2.out.1 Hr2.out.2) ?_
 rintro e w3 ⟨r3, rfl, hr3, hx3⟩
 have Hr3 := Lib.hid (And.intro (Hr2.out.1.ext hx3) hr3)
 replace ez := ez.ext hx3
 replace hx := hx.trans hx3
 clear hx3 hr3 Hr2
 go_wp2_with fail
 refine Calls.mono (HC.out.2.2.1 _ _ Hr3.out.1) ?_
 rintro e w4 ⟨r4, rfl, hr4, hx4⟩
 replace ez := ez.ext hx4
 replace hx := hx.trans hx4
 have Hr4 := Lib.hid (And.intro (Hr3.out.2.kd hx4.kd) hr4)
 clear hx4 hr4 Hr3
 go_wp2_with fail
 refine Calls.mono (exact_e _ _ X L _ (Hr4.out.1.has (by have := HB.out.1; omega)) (Hr4.out.2.has (by have := HB.out.2.2.1; omega)) HB.out.2.1 HB.out.2.2.2.2.1) ?_
 rintro e w5 ⟨r5, rfl, ⟨a5, rfl, hr5⟩, hx5⟩
 rw [← HB.out.2.2.2.1] at hr5
 obtain ⟨b7, A7, n7, c7, rfl⟩ := hr5.cells
 obtain ⟨W6, eW6, eQ, x6⟩ := Box.made w5 28 #[.bool b7, .slice A7 n7 c7] (by simp [isDig])
 have HQ := Lib.hid (hr5.kd x6.kd)
 have hgQ : w.heap.size < w5.heap.size := (ez.ext hx5).lt
 replace ez := ez.ext (hx5.trans x6)
 replace hx := hx.trans (hx5.trans x6)
 clear hr5 hx5 x6 Hr4
 go_upto_region 6 with (fail)
 rw [← eW6]
 clear eW6
 have hszQ : w.heap.size ≤ w5.heap.size := by omega
 generalize w5.heap.size = gQ at *
 by_cases ho : h % 2 = 1
 ·have hb := par_b (h := h) (b := true) (by simpa using ho)
  obtain ⟨ceQ0, ceQ1⟩ := eQ.cells2
  have feQ := eQ.frozen
  go_wp2_with fail
  refine Calls.mono (neg_z _ Y _ (HQ.out.has (by have := HY.out; omega))) ?_
  rintro e w8 ⟨r8, rfl, hr8, hx8⟩
  obtain ⟨b7, A7, n7, c7, rfl⟩ := hr8.cells
  clear ceQ0 ceQ1 feQ HQ
  replace eQ := eQ.ext hx8
  replace ez := ez.ext hx8
  replace hx := hx.trans hx8
  have hsg : sgz h Y = -Y := by unfold sgz; rw [if_pos ho]
  rw [← hsg] at hr8
  have Hr8 := Lib.hid hr8; clear hr8 hx8 hsg ho
  obtain ⟨ceQ0, ceQ1⟩ := eQ.cells2
  have feQ := eQ.frozen
  go_upto_region 8 with (fail)
  have hr := Hr8.out
  obtain ⟨W8, eW, eQ', U⟩ := eQ.put2 (.bool b7) (.slice A7 n7 c7) rfl rfl
  rw [← eW]
  clear eW eQ
  replace hr := hr.kd U.kd
  replace ez := ez.upd U (by simp <;> omega)
  replace hx := U.from_ hx (by simp <;> omega)
  have eQ := eQ'
  clear U eQ'
  have Hr := Lib.hid hr; clear hr Hr8 ceQ0 ceQ1 feQ
  obtain ⟨cez0, cez1⟩ := ez.cells2
  have fez := ez.frozen
  obtain ⟨ceQ0, ceQ1⟩ := eQ.cells2
  have feQ := eQ.frozen
  go_wp2
  have hr := Hr.out
  obtain ⟨W9, eW, ez', U⟩ := ez.put2 (.bool b7) (.slice A7 n7 c7) rfl rfl
  rw [← eW]
  clear eW ez
  replace hr := hr.kd U.kd
  replace hx := U.from_ hx (by simp <;> omega)
  have ez := ez'
  clear U ez'
  clear cez0 cez1 fez ceQ0 ceQ1 feQ
  obtain ⟨cez0, cez1⟩ := ez.cells2
  have fez := ez.frozen
  refine bodyPost_ret (v := .tuple #[.agg #[.bool b7, .slice A7 n7 c7], .int .i64 0]) (by simp [results, Tryz.results24, go_sem, cez0, cez1]) rfl ?_
  exact Gives.mk ⟨_, rfl, hr⟩ hx
 ·have hb := par_b (h := h) (b := false) (by simpa using ho)
  have hsg : sgz h Y = Y := by unfold sgz; rw [if_neg ho]
  have Hr := Lib.hid (show IsZ W6 (.agg #[.bool b7, .slice A7 n7 c7]) (sgz h Y) from by rw [hsg]; exact HQ.out)
  clear hsg ho HQ
  obtain ⟨cez0, cez1⟩ := ez.cells2
  have fez := ez.frozen
  obtain ⟨ceQ0, ceQ1⟩ := eQ.cells2
  have feQ := eQ.frozen
  go_wp2
  have hr := Hr.out
  obtain ⟨W9, eW, ez', U⟩ := ez.put2 (.bool b7) (.slice A7 n7 c7) rfl rfl
  rw [← eW]
  clear eW ez
  replace hr := hr.kd U.kd
  replace hx := U.from_ hx (by simp <;> omega)
  have ez := ez'
  clear U ez'
  clear cez0 cez1 fez ceQ0 ceQ1 feQ
  obtain ⟨cez0, cez1⟩ := ez.cells2
  have fez := ez.frozen
  refine bodyPost_ret (v := .tuple #[.agg #[.bool b7, .slice A7 n7 c7], .int .i64 0]) (by simp [results, Tryz.results24, go_sem, cez0, cez1]) rfl ?_
  exact Gives.mk ⟨_, rfl, hr⟩ hx
end Go.Proofs.YtfacbpnegkjcgaaGreatDoor
namespace Go.Proofs.YtfacbpnegkjcgaaGreatDoor
open Go.RowKit Go.Hp
set_option maxRecDepth 20000 in
set_option maxHeartbeats 8000000 in
theorem zgcd_z (v u : Value) (l m : List Int) (S M : Nat) (w : World) (hv : HzV 0 w v l) (hu : HzV 0 w u m) (hs : ∀ i, qsz (cz l i) ≤ S) (ht : ∀ i, qsz (cz m i) ≤ S) (hn : l.length ≤ 549755813888) (hm : m.length ≤ 549755813888) (hM : (S + 1) * 2 ^ (pl (cz l) + pl (cz m)) ≤ M) (hB : M + (pl (cz l) + pl (cz m) + 1) * (M + 1) + M ≤ 549755813888) :
  Calls Tryz.prog 44 #[v, u] w (Gives w fun r w' => IsZP 0 w' r (zgc (cz l) (cz m))) := by
 have HV := Lib.hid hv; have HU := Lib.hid hu
 obtain ⟨A0, c0, rfl⟩ := hv.len
 obtain ⟨A1, c1, rfl⟩ := hu.len
 clear hv hu
 have hc1 := pl_le (cz_sup l)
 have hc2 := pl_le (cz_sup m)
 have hSM : S + 1 ≤ M := by
  have h : 0 < 2 ^ (pl (cz l) + pl (cz m)) := Nat.pow_pos (by decide)
  have := Nat.le_mul_of_pos_right (S + 1) h; omega
 have hcn : sz (cn (cz l)) ≤ S ∧ sz (cn (cz m)) ≤ S := ⟨cn_sz hs _, cn_sz ht _⟩
 have hst := GzSt.start (Fin_.cz l) (Fin_.cz m) (ZI.cz l) (ZI.cz m) hs ht
 have hP1 := fun W (x : Ext w W) => primitive_zp _ l W (HV.out.ext x) (by omega)
 have hP2 := fun W (x : Ext w W) => primitive_zp _ m W (HU.out.ext x) (by omega)
 have hC1 := content_zp _ l w HV.out (by omega)
 have hC2 := fun W (x : Ext w W) => content_zp _ m W (HU.out.ext x) (by omega)
 have hz := (show (∀ A, GzSt (cz l) (cz m) (pl (cz l) + pl (cz m)) S A pz → psc ((Nat.gcd (cn (cz l)) (cn (cz m)) : Nat) : Rat) A = zgc (cz l) (cz m)) from
  fun A h => (zgc_eq (h.end_ (Fin_.cz l) (Fin_.cz m) (ZI.cz l) (ZI.cz m) rfl)).symm)
 have hpl : pl (cz l) + pl (cz m) ≤ 1099511627776 := by omega
 obtain ⟨F, hF⟩ : ∃ F, F = cz l := ⟨_, rfl⟩
 obtain ⟨G, hG⟩ : ∃ G, G = cz m := ⟨_, rfl⟩
 rw [← hF] at hcn hC1
 rw [← hG] at hcn
 rw [← hF, ← hG] at hM hB hst hz hpl ⊢
 simp only [← hF] at hP1
 simp only [← hG] at hP2 hC2
 have HC := Lib.hid (And.intro hC1 (And.intro hC2 (And.intro hP1 hP2)))
 have HX := Lib.hid (And.intro hM (And.intro hB (And.intro hz (And.intro hcn hSM))))
 have HSt := Lib.hid (And.intro hst hpl)
 clear hs ht hn hm hM hB hc1 hc2 hSM hcn hst hP1 hP2 hC1 hC2 hz hF hG hpl HV HU
 go_enter Tryz.func44, Tryz.ntmps44
 go_wp2_with fail
 refine Calls.mono HC.out.1 ?_
 rintro e w1 ⟨r1, rfl, hr1, hx⟩
 go_wp2_with fail
 refine Calls.mono (HC.out.2.1 w1 hx) ?_
 rintro e w2 ⟨r2, rfl, hr2, hx2⟩
 have H12 := Lib.hid (And.intro ((hr1.kd hx2.kd).has (by have h1 := HX.out.2.2.2.1.1; have h2 := HX.out.2.2.2.2; have h3 := HX.out.2.1; simp; omega)) (hr2.has (by have h1 := HX.out.2.2.2.1.2; have h2 := HX.out.2.2.2.2; have h3 := HX.out.2.1; simp; omega)))
 replace hx := hx.trans hx2
 clear hr1 hr2 hx2
 go_wp2_with fail
 refine Calls.mono (gcd_z _ _ (cn F : Nat) (cn G : Nat) _ H12.out.1 H12.out.2) ?_
 rintro e w3 ⟨r3, rfl, hr3, hx3⟩
 obtain ⟨b5, A5, n5, c5, rfl⟩ := hr3.cells
 obtain ⟨cc, hcc⟩ : ∃ cc : Nat, cc = Nat.gcd (cn F) (cn G) := ⟨_, rfl⟩
 replace hr3 : IsZ w3 (.agg #[.bool b5, .slice A5 n5 c5]) (cc : Nat) := by rw [hcc]; exact hr3
 obtain ⟨W4, eW4, e4, x4⟩ := Box.made w3 28 #[.bool b5, .slice A5 n5 c5] (by simp [isDig])
 have ec := BoxZ.mk e4 (hr3.kd x4.kd)
 replace hx := (hx.trans hx3).trans x4
 have HCC := Lib.hid hcc
 clear hx3 x4 hr3 e4 H12 hcc
 go_wp2_with fail
 rw [← eW4]
 clear eW4
 generalize w3.heap.size = gc at *
 refine Calls.mono (HC.out.2.2.1 W4 hx) ?_
 rintro e w5 ⟨r5, rfl, hr5, hx5⟩
 have ec5 := ec.ext hx5
 replace hx := hx.trans hx5
 have H5 := Lib.hid (hr5.base_le (Nat.zero_le _)); clear hr5 hx5
 go_wp2_with fail
 refine Calls.mono (HC.out.2.2.2 w5 hx) ?_
 rintro e w6 ⟨r6, rfl, hr6, hx6⟩
 replace ec5 := ec5.ext hx6
 replace hx := hx.trans hx6
 have h5 := H5.out.ext hx6
 have h6 := hr6.base_le (Nat.zero_le _)
 clear hr6 hx6 H5
 go_wp2
 go_loopw [0, 1] (fun fv gv wr => ∃ A B, IsZP 0 wr fv A ∧ IsZP 0 wr gv B ∧ GzSt F G (pl F + pl G) S A B ∧ BoxZ wr gc 28 (cc : Nat) ∧ Ext w wr) (fun _ gv _ => lenV gv)
 case atStart => exact ⟨_, _, h5, h6, HSt.out.1, ec5, hx⟩
 case round =>
  clear h5 h6 ec5 hx ec
  obtain ⟨A, B, hA, hB, hst, ec, hx⟩ := hrel
  obtain ⟨A2, c2, rfl, -⟩ := hA.shape
  obtain ⟨A3, c3, rfl, -⟩ := hB.shape
  have HA := Lib.hid (And.intro hA hB); clear hA hB
  have HS := Lib.hid hst; clear hst
  by_cases h0 : 0 < pl B
  ·have hbn : B ≠ pz := fun e => by rw [e, pl_pz] at h0; omega
   have hroom := HS.out.room rfl
   have hpl := HS.out.deg
   have HR := Lib.hid (show (∀ i, qsz (A i) ≤ M) ∧ (∀ i, qsz (B i) ≤ M) ∧ M + (pl A + 1) * (M + 1) + M ≤ 549755813888 ∧ B ≠ pz ∧ pl A ≤ 1099511627776 ∧ pl B ≤ 1099511627776 from by
    refine ⟨fun i => Nat.le_trans (hroom.1 i) HX.out.1, fun i => Nat.le_trans (hroom.2.1 i) HX.out.1, ?_, hbn, by have := HSt.out.2; omega, by have := HSt.out.2; omega⟩
    have h1 := HX.out.2.1
    have h2 : (pl A + 1) * (M + 1) ≤ (pl F + pl G + 1) * (M + 1) := Nat.mul_le_mul_right _ (by omega)
    omega)
   have hst2 := HS.out.step hbn (R := psR A B (pl A + 1 - pl B)) rfl
   have HS2 := Lib.hid (And.intro hst2.1 (And.intro hst2.2 hroom.2.2)); clear hst2 hbn hroom hpl
   go_wp2_with fail
   refine Calls.mono (pdiv_p _ _ A B M _ HA.out.1 HA.out.2 HR.out.1 HR.out.2.1 HR.out.2.2.2.1 (by have h1 := HR.out.2.2.1; have : (pl A + 1) * 1 ≤ (pl A + 1) * (M + 1) := Nat.mul_le_mul_left _ (by omega); omega) (by
    have h1 := HX.out.2.1; have h2 := HS.out.deg
    have : (pl F + pl G + 1) * 1 ≤ (pl F + pl G + 1) * (M + 1) := Nat.mul_le_mul_left _ (by omega); omega) HR.out.2.2.1) ?_
   rintro e w7 ⟨r7, rfl, ⟨qv, rv, rfl, hq, hr⟩, hx7⟩
   have hrr := hr.base_le (b := 0) (Nat.zero_le _)
   have hB7 := HA.out.2.ext hx7
   have ec7 := ec.ext hx7
   replace hx := hx.trans hx7
   have H7 := Lib.hid (And.intro hrr hB7); clear hr hrr hB7 hq hx7 ec
   go_wp2_with fail
   refine Calls.mono (primitive_p _ _ _ H7.out.1 (fun i => by
    have h1 := HS2.out.2.2 i
    have h2 := HX.out.1
    have h3 : (S + 1) * 2 ^ (pl F + pl G - (pl A + pl B) + (pl A + 1 - pl B)) ≤ (S + 1) * 2 ^ (pl F + pl G) * 2 := by
     have e1 : (S + 1) * 2 ^ (pl F + pl G) * 2 = (S + 1) * 2 ^ (pl F + pl G + 1) := by rw [Nat.pow_succ, Nat.mul_assoc]
     rw [e1]
     refine Nat.mul_le_mul_left _ (Nat.pow_le_pow_right (by decide) ?_)
     have := HS.out.deg
     omega
    have h4 := HX.out.2.1
    omega) (by have := psR_top HS.out.fA HS.out.fB HR.out.2.2.2.1; have := HR.out.2.2.2.2.2; omega)) ?_
   rintro e w8 ⟨r8, rfl, hr8, hx8⟩
   have hB8 := H7.out.2.ext hx8
   have hp8 := hr8.base_le (b := 0) (Nat.zero_le _)
   have ec8 := ec7.ext hx8
   replace hx := hx.trans hx8
   obtain ⟨A4, c4, rfl, -⟩ := hr8.shape
   have H8 := Lib.hid (And.intro hB8 hp8); clear hB8 hp8 hr8 hx8 ec7 H7
   go_wp2
   go_roundw
   case rel => exact ⟨_, _, H8.out.1, H8.out.2, HS2.out.1, ec8, hx⟩
   case measure => exact HS2.out.2.1
  ·have hbz : B = pz := (pl_zero HS.out.fB).1 (by omega)
   have hroom := HS.out.room rfl
   subst hbz
   have hz := HX.out.2.2.1 A HS.out
   have HZ := Lib.hid (And.intro hz (And.intro hroom.1 (show pl A ≤ 1099511627776 by have := HS.out.deg; have := HSt.out.2; omega))); have h0 : pl pz = 0 := pl_pz
   rw [h0]
   clear hz hroom
   obtain ⟨b, Bv, bn, bc, e8, hb8⟩ := ec
   have Hb := Lib.hid hb8; clear hb8
   obtain ⟨ce80, ce81⟩ := e8.cells2
   have fe8 := e8.frozen
   go_wp2_with fail
   refine Calls.mono (zscale_pp _ _ A (cc : Nat) _ HA.out.1 (fun i => by have h1 := HZ.out.2.1 i; have h2 := HX.out.1; have h3 := HX.out.2.1; omega) (Hb.out.has (by
    rw [HCC.out]
    have h1 := HX.out.2.2.2.1
    have h2 : sz (Nat.gcd (cn F) (cn G)) ≤ S := by
     by_cases e : cn F = 0
     ·rw [e, Nat.gcd_zero_left]; exact h1.2
     ·exact Nat.le_trans (sz_mono (Nat.gcd_le_left _ (Nat.pos_of_ne_zero e))) h1.1
    have h3 := HX.out.2.2.2.2
    have h4 := HX.out.2.1
    simp only [Int.natAbs_natCast]
    omega)) HZ.out.2.2) ?_
   rintro e w9 ⟨r9, rfl, hr9, hx9⟩
   have h9 : IsZP 0 w9 r9 (zgc F G) := by
    rw [← HZ.out.1, ← HCC.out]; exact hr9
   have H9 := Lib.hid h9; clear h9 hr9
   go_wp2
   go_ret
   exact Gives.mk H9.out (hx.trans hx9)
theorem zgcd_p (v u : Value) (F G : Nat → Rat) (S M : Nat) (w : World) (hv : IsZP 0 w v F) (hu : IsZP 0 w u G) (hs : ∀ i, qsz (F i) ≤ S) (ht : ∀ i, qsz (G i) ≤ S) (hn : pl F ≤ 549755813888) (hm : pl G ≤ 549755813888) (hM : (S + 1) * 2 ^ (pl F + pl G) ≤ M) (hB : M + (pl F + pl G + 1) * (M + 1) + M ≤ 549755813888) :
  Calls Tryz.prog 44 #[v, u] w (Gives w fun r w' => IsZP 0 w' r (zgc F G)) := by
 have hSM : S + 1 ≤ M := by
  have h : 0 < 2 ^ (pl F + pl G) := Nat.pow_pos (by decide)
  have := Nat.le_mul_of_pos_right (S + 1) h; omega
 obtain ⟨l, h1, h2, -, rfl⟩ := hv.hz (fun i => by have := hs i; omega)
 obtain ⟨m, k1, k2, -, rfl⟩ := hu.hz (fun i => by have := ht i; omega)
 exact zgcd_z v u l m S M w h1 k1 hs ht (by omega) (by omega) hM hB
end Go.Proofs.YtfacbpnegkjcgaaGreatDoor
namespace Go.Hp
open Go.RowKit
def isB : Value → Bool
 | .bool _ => true
 | _ => false
def NoB (w : World) (v : Value) : Prop := ∀ g ∈ blk v, ∀ i c, w.cell? ⟨g, i, none⟩ ≠ some (.bool c)
theorem noB_of {w : World} {g : Nat} {t : TypeId} {cur : Array Value} {n c : Nat} (hb : w.heap[g]? = some (.cells cur t (0, 0))) (h : ∀ u ∈ cur.toList, isB u = false) : NoB w (.slice (some ⟨g, 0, none⟩) n c) := by
 intro g' hg i b e
 have : g' = g := by simpa [blk, Value.ownBlock] using hg
 subst this
 rw [cell_of_row w g' i cur t (0, 0) hb] at e
 have := h (.bool b) (by
  have := Array.mem_of_getElem? e
  simpa using this)
 cases this
theorem noB_to {w : World} {g : Nat} {t : TypeId} {cur : Array Value} {n c : Nat} (hb : w.heap[g]? = some (.cells cur t (0, 0))) (h : NoB w (.slice (some ⟨g, 0, none⟩) n c)) : ∀ u ∈ cur.toList, isB u = false := by
 intro u hu
 obtain ⟨i, hi, rfl⟩ := List.getElem_of_mem hu
 have h1 := h g (by simp [blk, Value.ownBlock]) i
 rw [cell_of_row w g i cur t (0, 0) hb] at h1
 have hi' : i < cur.size := by simpa using hi
 rw [Array.getElem?_eq_getElem hi'] at h1
 rw [Array.getElem_toList]
 cases hc : cur[i] with
 | bool b => exact absurd (by rw [hc]) (h1 b)
 | _ => rfl
section
variable {P : Program}
theorem run_append_blk (w : World) (k base : Nat) (t ty e : TypeId) (i : TypeInfo) (z : Value) (bytes : Nat) (ht : P.underlying t = some (.slice e)) (hi : P.info? e = some i) (hz : i.zero = some z)
  (hsize : i.size = k) (hby : i.bytes = bytes) (hzs : z.cells.size = k) (hzd : nodig z.cells = true) (hsz : 0 < k)
  (v : Value) (n : Nat) (xs : List Value) (hown : OwnC k base e w v n xs)
  (a : Addr) (c : Nat) (news : List Value) (hl : news.length = k) (hnews : ∀ j u, news[j]? = some u → w.cell? (a.add j) = some u) (h1 : ∀ u ∈ news, u.oneCell' = true) (hnd : ∀ u ∈ news, isDig u = false)
  (h63 : n + 1 ≤ maxLen) (hbytes : (n + 1) * bytes ≤ 140737488355328) (hbase : base ≤ w.heap.size) (hvb : NoB w v) (hnb : ∀ u ∈ news, isB u = false) (hzB : ∀ u ∈ z.cells.toList, isB u = false) :
  ∃ v' w', (Builtin.append_ #[t, t] ty #[v, .slice (some a) 1 c]).run P w = .ok v' w' ∧ OwnC k base e w' v' (n + 1) (xs ++ news) ∧ Upd (blk v) w w' ∧ NoB w' v' := by
 subst hsize
 subst hby
 have hl' : news.length = 1 * i.size := by rw [Nat.one_mul]; exact hl
 have hlen : (xs ++ news).length = (n + 1) * i.size := by rw [List.length_append, hown.1, hl, Nat.succ_mul]
 have hsmall : n + 1 ≤ 9223372036854775807 := by simp only [maxLen] at h63; omega
 have hzl := all_list.1 hzd
 have hzc : ∀ m, ∀ u ∈ (Builtin.zeroCells z.cells m).toList, isDig u = false := by
  intro m u hu
  simp only [Builtin.zeroCells, Array.toList_map, Array.toList_range, List.mem_map, List.mem_range] at hu
  obtain ⟨j, hj, rfl⟩ := hu
  have : j % z.cells.size < z.cells.size := Nat.mod_lt _ (by omega)
  rw [getElem!_pos z.cells _ this]
  exact hzl _ (by simp)
 have hzb : ∀ m, ∀ u ∈ (Builtin.zeroCells z.cells m).toList, isB u = false := by
  intro m u hu
  simp only [Builtin.zeroCells, Array.toList_map, Array.toList_range, List.mem_map, List.mem_range] at hu
  obtain ⟨j, hj, rfl⟩ := hu
  have : j % z.cells.size < z.cells.size := Nat.mod_lt _ (by omega)
  rw [getElem!_pos z.cells _ this]
  exact hzB _ (by simp)
 have hxb : ∀ u ∈ xs, isB u = false := by
  rcases hown.2 with ⟨_, h0⟩ | ⟨g, cap, cur, ev, _, hb, _, _, _, htake⟩
  ·intro u hu
   have : xs = [] := List.eq_nil_of_length_eq_zero (by rw [hown.1, h0, Nat.zero_mul])
   rw [this] at hu; cases hu
  ·intro u hu
   rw [← htake] at hu
   exact noB_to hb.1 (by rw [ev] at hvb; exact hvb) _ (List.mem_of_mem_take hu)
 have hxd : ∀ u ∈ xs, isDig u = false := by
  rcases hown.2 with ⟨_, h0⟩ | ⟨g, cap, cur, _, _, hb, _, _, _, htake⟩
  ·intro u hu
   have : xs = [] := List.eq_nil_of_length_eq_zero (by rw [hown.1, h0, Nat.zero_mul])
   rw [this] at hu; cases hu
  ·intro u hu
   rw [← htake] at hu
   exact all_list.1 hb.2 _ (List.mem_of_mem_take hu)
 have grown : ∀ (old : Nat), old < n + 1 →
   OwnC i.size base e (w.drew.alloc (.cells (xs.toArray ++ news.toArray ++ Builtin.zeroCells z.cells (grownCap w (n + 1) old e - (n + 1))) e)) (.slice (some ⟨w.heap.size, 0, none⟩) (n + 1) (grownCap w (n + 1) old e)) (n + 1) (xs ++ news) ∧
   (∀ G, Upd G w (w.drew.alloc (.cells (xs.toArray ++ news.toArray ++ Builtin.zeroCells z.cells (grownCap w (n + 1) old e - (n + 1))) e))) ∧
   NoB (w.drew.alloc (.cells (xs.toArray ++ news.toArray ++ Builtin.zeroCells z.cells (grownCap w (n + 1) old e - (n + 1))) e)) (.slice (some ⟨w.heap.size, 0, none⟩) (n + 1) (grownCap w (n + 1) old e)) := by
  intro old ho
  have hge := grownCap_ge w (n + 1) old e
  have hcm : grownCap w (n + 1) old e ≤ maxLen := grownCap_le_maxLen w (n + 1) old e h63
  refine ⟨⟨hlen, .inr ⟨w.heap.size, _, _, rfl, hbase, ⟨heap_alloc_new w.drew _, ?_⟩, hge, hcm, ?_, ?_⟩⟩, fun G => Upd.of_ext ((Ext.refl w).drew.alloc _), noB_of (heap_alloc_new w.drew _) ?_⟩
  ·rw [all_list]
   intro u hu
   simp only [Array.toList_append, List.mem_append] at hu
   rcases hu with (hu | hu) | hu
   ·exact hxd u (by simpa using hu)
   ·exact hnd u (by simpa using hu)
   ·exact hzc _ u hu
  ·simp only [Array.size_append, List.size_toArray, size_zeroCells, hzs, hown.1, hl]
   rw [← Nat.succ_mul, ← Nat.add_mul]
   congr 1
   omega
  ·simp only [Array.toList_append, List.append_assoc]
   rw [← List.append_assoc, ← hlen]
   exact List.take_left
  ·intro u hu
   simp only [Array.toList_append, List.mem_append] at hu
   rcases hu with (hu | hu) | hu
   ·exact hxb u (by simpa using hu)
   ·exact hnb u (by simpa using hu)
   ·exact hzb _ u hu
 rcases hown.2 with ⟨rfl, rfl⟩ | ⟨g, cap, cur, rfl, hbg, hb, hnc, hcm, hcs, htake⟩
 ·have hx : xs = [] := List.eq_nil_of_length_eq_zero (by simpa using hown.1)
  subst hx
  have hr := run_append_nil (P := P) w t ty e i z ht hi hz a 1 c news hl' hnews (by omega) (by omega) (by have hb := hbytes; simp only [Nat.zero_add] at hb; omega)
  have hgr := grown 0 (by omega)
  simp only [Nat.zero_add, List.nil_append, Array.empty_append] at hgr ⊢
  exact ⟨_, _, hr, hgr.1, hgr.2.1 _, hgr.2.2⟩
 ·have hg := hb.1
  by_cases hroom : n + 1 ≤ cap
  ·have hfit : n * i.size + news.length ≤ cur.size := by rw [hl, hcs, ← Nat.succ_mul]; exact Nat.mul_le_mul_right _ hroom
   have hr := run_append_room (P := P) w t ty e i ht hi g n cap cur hg a 1 c news hl' hnews h1 hroom hfit
   have hnew : ∀ u ∈ cur.toList.take (n * i.size) ++ news ++ cur.toList.drop (n * i.size + news.length), isDig u = false := by
    intro u hu
    simp only [List.mem_append] at hu
    rcases hu with (hu | hu) | hu
    ·exact all_list.1 hb.2 _ (List.mem_of_mem_take hu)
    ·exact hnd u hu
    ·exact all_list.1 hb.2 _ (List.mem_of_mem_drop hu)
   have hbx : Box (w.setRow g (cur.toList.take (n * i.size) ++ news ++ cur.toList.drop (n * i.size + news.length)).toArray) g e _ := ⟨setRow_heap w g cur _ e _ hg, all_list.2 (by simpa using hnew)⟩
   refine ⟨_, _, hr, ⟨hlen, .inr ⟨g, cap, _, rfl, hbg, hbx, hroom, hcm, ?_, ?_⟩⟩, ⟨fun g' o hg' ho => ?_, kd_block hb fun h hne _ => setRow_other w g h _ hne, fun a' ha hG => ?_⟩, noB_of hbx.1 ?_⟩
   ·simp only [List.size_toArray, List.length_append, List.length_take, List.length_drop, Array.length_toList]
    omega
   ·rw [htake, ← hlen]
    exact List.take_left
   ·rw [setRow_other w g g' _ (fun e => hg' (by simp [blk, Value.ownBlock, e]))]; exact ho
   ·have hga : a'.heap.size ≤ g := hG g (by simp [blk, Value.ownBlock])
    exact ha.grown (row := some g) ⟨rfl, rfl, rfl, by simp [World.setRow], fun k _ hk => setRow_other w g k _ (fun e => hk (by rw [e]))⟩ (fun k hk => by cases hk; exact hga)
   ·intro u hu
    have hcb := noB_to hb.1 hvb
    have hu' : u ∈ cur.toList.take (n * i.size) ++ news ++ cur.toList.drop (n * i.size + news.length) := by simpa using hu
    simp only [List.mem_append] at hu'
    rcases hu' with (hu | hu) | hu
    ·exact hcb _ (List.mem_of_mem_take hu)
    ·exact hnb u hu
    ·exact hcb _ (List.mem_of_mem_drop hu)
  ·have holds : ∀ j u, xs[j]? = some u → w.cell? ((⟨g, 0, none⟩ : Addr).add j) = some u := hown.owns.cells (g := g) rfl
   have hr := run_append_grow (P := P) w t ty e i z ht hi hz ⟨g, 0, none⟩ n cap xs hown.1 holds a 1 c news hl' hnews (by omega) (by omega) (growslice_fits (by omega) hbytes)
   have hgr := grown cap (by omega)
   exact ⟨_, _, hr, hgr.1, hgr.2.1 _, hgr.2.2⟩
end
section
variable {α : Type} {k : Nat} {rd : World → Value → α → Prop} {base : Nat} {e : TypeId} {w w' : World} {v : Value} {l : List α}
theorem OwnR.append_blk {P : Program} (h : OwnR k rd base e w v l) (t ty : TypeId) (i : TypeInfo) (z : Value) (bytes : Nat) (ht : P.underlying t = some (.slice e)) (hi : P.info? e = some i) (hz : i.zero = some z)
  (hsize : i.size = k) (hby : i.bytes = bytes) (hzs : z.cells.size = k) (hzd : nodig z.cells = true) (hsz : 0 < k) {x : α}
  (a : Addr) (c : Nat) (news : Array Value) (hl : news.size = k) (hx : rd w (.agg news) x) (hnews : ∀ j u, news.toList[j]? = some u → w.cell? (a.add j) = some u) (h1 : ∀ u ∈ news.toList, u.oneCell' = true) (hnd : nodig news = true)
  (h63 : l.length + 1 ≤ maxLen) (hbytes : (l.length + 1) * bytes ≤ 140737488355328) (hbase : base ≤ w.heap.size) (hr : ∀ w' u y, KD w w' → rd w u y → rd w' u y) (hvb : NoB w v) (hnb : ∀ u ∈ news.toList, isB u = false) (hzB : ∀ u ∈ z.cells.toList, isB u = false) :
  ∃ v' w', (Builtin.append_ #[t, t] ty #[v, .slice (some a) 1 c]).run P w = .ok v' w' ∧ OwnR k rd base e w' v' (l ++ [x]) ∧ Upd (blk v) w w' ∧ NoB w' v' := by
 obtain ⟨ess, g1, g2, g3, g5⟩ := h
 obtain ⟨v', w', hrun, hown, hupd, hblk⟩ := run_append_blk (P := P) w k base t ty e i z bytes ht hi hz hsize hby hzs hzd hsz v l.length _ g3 a c news.toList (by simpa using hl) hnews h1 (all_list.1 hnd) h63 hbytes hbase hvb hnb hzB
 refine ⟨v', w', hrun, ⟨ess ++ [news], by simp [g1], ?_, ?_, ?_⟩, hupd, hblk⟩
 ·intro d hd
  rcases List.mem_append.1 hd with hd | hd
  ·exact g2 d hd
  ·simp at hd; subst hd; exact hl
 ·have e1 : (ess ++ [news]).flatMap Array.toList = ess.flatMap Array.toList ++ news.toList := by simp
  rw [e1, List.length_append]
  exact hown
 ·intro j hj hj'
  rcases Nat.lt_or_ge j l.length with hlt | hge
  ·rw [List.getElem_append_left hlt, List.getElem_append_left (by omega)]
   exact hr _ _ _ hupd.kd (g5 j hlt (by omega))
  ·have : j = l.length := by simp at hj; omega
   subst this
   rw [List.getElem_append_right (by omega), List.getElem_append_right (by omega)]
   simpa using hr _ _ _ hupd.kd hx
end
end Go.Hp
namespace Go.Hp
open Go.RowKit
theorem KD.own {A B : World} {row : Option Nat} (hg : A.grownBy B row) (hr : ∀ r, row = some r → ∃ o : Obj, A.heap[r]? = some o ∧ o.isCells = false) : KD A B := fun _ _ e => cell_kept e hg hr
theorem Box.own {A B : World} {row : Option Nat} {g : Nat} {t : TypeId} {cs : Array Value} (h : Box A g t cs) (hg : A.grownBy B row) (hr : ∀ r, row = some r → ∃ o : Obj, A.heap[r]? = some o ∧ o.isCells = false) : Box B g t cs :=
 ⟨(hg.block g h.lt (fun e => by obtain ⟨o, h1, h2⟩ := hr g e.symm; rw [h.1] at h1; cases h1; cases h2)).trans h.1, h.2⟩
theorem upd_cell {A B : World} {G : List Nat} {g i : Nat} {v : Value} (U : Upd G A B) (hg : g ∉ G) (h : A.cell? ⟨g, i, none⟩ = some v) : B.cell? ⟨g, i, none⟩ = some v := by
 obtain ⟨o, ho, hc⟩ := cells_of_cell h
 exact (World.cell?_of_block ((U.1 g o hg ho).trans ho.symm)).trans h
theorem BoxQ.own {A B : World} {row : Option Nat} {g : Nat} {t : TypeId} {q : Rat} (h : BoxQ A g t q) (hg : A.grownBy B row) (hr : ∀ r, row = some r → ∃ o : Obj, A.heap[r]? = some o ∧ o.isCells = false) : BoxQ B g t q := by
 obtain ⟨b, A1, n, c, b', A1', n', c', h1, h2⟩ := h
 exact BoxQ.mk (h1.own hg hr) (h2.kd (KD.own hg hr))
end Go.Hp
namespace Go.Hp
structure Pos1 (F : Nat → Rat) : Prop where
 z : ZI F
 f : Fin_ F
 n : F ≠ pz
 l : 0 < ld F
 c : cn F = 1
theorem Pos1.pp {F : Nat → Rat} (hz : ZI F) (h : Fin_ F) (h0 : F ≠ pz) : Pos1 (Hp.pp F) := ⟨pp_zi hz h, pp_fin h, pp_ne hz h h0, pp_lead hz h h0, cn_pp hz h h0⟩
theorem Pos1.pcn {F : Nat → Rat} (h : Pos1 F) : Hp.pcn F = 1 := by
 have := h.l
 unfold Hp.pcn
 rw [if_neg (by grind), h.c]; rfl
theorem Pos1.self {F : Nat → Rat} (h : Pos1 F) : Hp.pp F = F := by
 have e := pp_eq h.z h.f h.n
 rw [h.pcn] at e
 rw [show (((1 : Int)) : Rat) = 1 from rfl, psc_one] at e
 exact e.symm
theorem Pos1.pos {F : Nat → Rat} (h : Pos1 F) : 0 < pl F := pl_pos h.f h.n
theorem fin_bound {F : Nat → Rat} (h : Fin_ F) : ∃ S, ∀ i, qsz (F i) ≤ S := by
 obtain ⟨n, h⟩ := h
 induction n generalizing F with
 | zero => exact ⟨1, fun i => by rw [h i (Nat.zero_le _)]; decide⟩
 | succ n ih =>
  obtain ⟨S, hS⟩ := ih h.tl
  refine ⟨max S (qsz (F 0)), fun i => ?_⟩
  match i with
  | 0 => exact Nat.le_max_right _ _
  | i + 1 => exact Nat.le_trans (hS i) (Nat.le_max_left _ _)
theorem zgc_is {F G : Nat → Rat} (fF : Fin_ F) (fG : Fin_ G) (zF : ZI F) (zG : ZI G) : IsZG F G (zgc F G) := by
 obtain ⟨S, hS⟩ := fin_bound fF
 obtain ⟨T, hT⟩ := fin_bound fG
 exact (zgc_all fF fG zF zG (S := max S T) (fun i => Nat.le_trans (hS i) (Nat.le_max_left _ _)) (fun i => Nat.le_trans (hT i) (Nat.le_max_right _ _))).1
theorem ld_cv {F G : Nat → Rat} (h : Fin_ F) (k : Fin_ G) (hF : F ≠ pz) (hG : G ≠ pz) : ld (cv F G) = ld F * ld G := by
 have h1 := pl_cv h k hF hG
 have h2 := pl_pos h hF
 have h3 := pl_pos k hG
 unfold ld
 rw [h1]
 have := cv_top (n := pl F - 1) (m := pl G - 1) (by rw [show pl F - 1 + 1 = pl F by omega]; exact pl_sup h) (by rw [show pl G - 1 + 1 = pl G by omega]; exact pl_sup k)
 rw [show pl F + pl G - 1 - 1 = pl F - 1 + (pl G - 1) by omega]; exact this
theorem Pos1.mul {F G : Nat → Rat} (h : Pos1 F) (k : Pos1 G) : Pos1 (cv F G) :=
 ⟨h.z.cv k.z, h.f.cv k.f, fun e => by rcases cv_eq_zero h.f k.f e with e | e; exact h.n e; exact k.n e, by rw [ld_cv h.f k.f h.n k.n]; exact Rat.mul_pos h.l k.l, by rw [gauss h.z k.z h.f k.f, h.c, k.c]⟩
theorem pos_pone : Pos1 pone := by
 have e : pl pone = 1 := pl_eq pone_sup fun _ => by show (1 : Rat) ≠ 0; decide
 refine ⟨fun i => ?_, pone_fin, pone_ne, ?_, ?_⟩
 ·match i with
  | 0 => exact ⟨1, rfl⟩
  | i + 1 => exact ⟨0, rfl⟩
 ·unfold ld; rw [e]; show (0 : Rat) < 1; decide
 ·unfold cn; rw [e]; rfl
theorem Pos1.one {F : Nat → Rat} (h : Pos1 F) (h1 : pl F ≤ 1) : F = pone := by
 have hp := h.pos
 have e1 : pl F = 1 := by omega
 have hc := h.c
 have hl := h.l
 unfold ld at hl
 unfold cn at hc
 rw [e1] at hl hc
 have hc' : Int.gcd ((0 : Nat) : Int) (F 0).num = 1 := hc
 obtain ⟨z, hz⟩ := h.z 0
 rw [hz] at hc' hl
 have hn : ((z : Int) : Rat).num = z := rfl
 rw [hn] at hc'
 have hz0 : 0 < z := by exact_mod_cast hl
 have h2 : z.natAbs = 1 := by simpa [Int.gcd] using hc'
 have h3 : z = 1 := by omega
 funext i
 match i with
 | 0 => rw [hz, h3]; rfl
 | i + 1 => exact (pl_sup h.f) (i + 1) (by omega)
theorem Pos1.gcd {F G : Nat → Rat} (h : Pos1 F) (zG : ZI G) (fG : Fin_ G) : Pos1 (zgc F G) ∧ Zdv F (zgc F G) ∧ Zdv G (zgc F G) ∧ Dv (zgc F G) F ∧ Dv (zgc F G) G ∧ ∃ U V, Fin_ U ∧ Fin_ V ∧ pad (cv U F) (cv V G) = zgc F G := by
 have k := zgc_is h.f fG h.z zG
 obtain ⟨D, hD⟩ : ∃ D, D = zgc F G := ⟨_, rfl⟩
 rw [← hD] at k ⊢
 obtain ⟨f1, z1, l1, c1, g1⟩ := k
 have k' : IsZG F G D := ⟨f1, z1, l1, c1, g1⟩
 have hn : D ≠ pz := fun e => by
  have := g1.2.2.1
  rw [e, mn_pz] at this
  exact h.n (dv_pz this)
 refine ⟨⟨z1, f1, hn, l1 hn, by rw [c1, h.c, Nat.gcd_one_left]⟩, k'.zdv h.z h.f hn, k'.symm_.zdv zG fG hn, (dv_mn D).trans g1.2.2.1, (dv_mn D).trans g1.2.2.2.1, ?_⟩
 obtain ⟨U, V, fU, fV, e⟩ := g1.bez h.f fG
 refine ⟨psc (ld D) U, psc (ld D) V, fU.psc _, fV.psc _, ?_⟩
 have e2 : psc (ld D) (pad (cv U F) (cv V G)) = psc (ld D) (mn D) := by rw [e]
 have e3 : psc (ld D) (mn D) = D := by
  unfold mn
  rw [psc_psc]
  have := ld_ne f1 hn
  rw [show ld D * (1 / ld D) = 1 by grind, psc_one]
 rw [e3] at e2
 rw [psc_cv, psc_cv, ← e2]
 funext n; simp only [pad, psc]; grind
theorem zdv_quot {F D : Nat → Rat} (fD : Fin_ D) (nD : D ≠ pz) (h : Zdv F D) : ZI (pq F D) ∧ Fin_ (pq F D) ∧ F = cv (pq F D) D := by
 obtain ⟨Q, zQ, fQ, e⟩ := h
 have := (pq_mul fQ fD nD).1
 rw [← e] at this
 rw [this]
 exact ⟨zQ, fQ, e⟩
theorem Pos1.quot {F D : Nat → Rat} (h : Pos1 F) (k : Pos1 D) (hd : Zdv F D) : Pos1 (pq F D) ∧ F = cv (pq F D) D := by
 obtain ⟨zQ, fQ, e⟩ := zdv_quot k.f k.n hd
 have nQ : pq F D ≠ pz := fun e2 => h.n (by rw [e, e2, pz_cv])
 have h1 : ld F = ld (pq F D) * ld D := by rw [← ld_cv fQ k.f nQ k.n, ← e]
 have h2 : cn F = cn (pq F D) * cn D := by rw [← gauss zQ k.z fQ k.f, ← e]
 refine ⟨⟨zQ, fQ, nQ, ?_, ?_⟩, e⟩
 ·have a := h.l; have b := k.l
  rw [h1] at a
  rcases Std.lt_trichotomy 0 (ld (pq F D)) with c | c | c
  ·exact c
  ·rw [← c] at a; rw [Rat.zero_mul] at a; exact absurd a (by decide)
  ·exfalso
   have := Rat.mul_neg_iff_of_pos_right b |>.2 c
   grind
 ·rw [h.c, k.c] at h2; omega
def Cop (F G : Nat → Rat) : Prop := ∃ U V, Fin_ U ∧ Fin_ V ∧ pad (cv U F) (cv V G) = pone
theorem Cop.symm {F G : Nat → Rat} (h : Cop F G) : Cop G F := by
 obtain ⟨U, V, a, b, e⟩ := h
 exact ⟨V, U, b, a, by rw [← e]; funext n; simp only [pad]; grind⟩
theorem Cop.dv {F G D : Nat → Rat} (h : Cop F G) (k : Dv D F) : Cop D G := by
 obtain ⟨U, V, a, b, e⟩ := h
 obtain ⟨Q, fQ, rfl⟩ := k
 exact ⟨cv U Q, V, a.cv fQ, b, by rw [cv_assoc]; exact e⟩
theorem Cop.euclid {F G H : Nat → Rat} (h : Cop F G) (fH : Fin_ H) (k : Dv F (cv G H)) : Dv F H := by
 obtain ⟨U, V, a, b, e⟩ := h
 have h1 : Dv F (cv (pad (cv U F) (cv V G)) H) := by
  rw [pad_cv]
  refine Dv.pad ?_ ?_
  ·rw [cv_assoc, cv_comm F H, ← cv_assoc]
   exact (Dv.refl F).mul (a.cv fH)
  ·rw [cv_assoc]; exact k.mul b
 rw [e, pone_cv] at h1
 exact h1
theorem Cop.self {F : Nat → Rat} (fF : Fin_ F) (h : Cop F F) : pl F = 1 := by
 obtain ⟨U, V, a, b, e⟩ := h
 have h1 : Dv F pone := by rw [← e]; exact ((Dv.refl F).mul a).pad ((Dv.refl F).mul b)
 have hn : F ≠ pz := fun e2 => pone_ne (dv_pz (by rw [e2] at h1; exact h1))
 have h2 := Dv.le fF pone_fin pone_ne h1
 have h3 : pl pone ≤ 1 := pl_le pone_sup
 have := pl_pos fF hn
 omega
theorem Cop.of_gcd {F G : Nat → Rat} (h : Pos1 F) (zG : ZI G) (fG : Fin_ G) (h1 : pl (zgc F G) ≤ 1) : Cop F G := by
 obtain ⟨k, -, -, -, -, U, V, a, b, e⟩ := h.gcd zG fG
 rw [k.one h1] at e
 exact ⟨U, V, a, b, e⟩
theorem Cop.gcd {F G : Nat → Rat} (c : Cop F G) (h : Pos1 F) (zG : ZI G) (fG : Fin_ G) : zgc F G = pone := by
 obtain ⟨k, -, -, d1, d2, -⟩ := h.gcd zG fG
 have h1 := Cop.self k.f ((c.dv d1).symm.dv d2)
 exact k.one (by omega)
theorem fin_pd {F : Nat → Rat} (h : Fin_ F) : Fin_ (pd F) := by
 obtain ⟨n, h⟩ := h
 exact ⟨n, sup_pd (h.mono (Nat.le_succ n))⟩
theorem dv_pd {F : Nat → Rat} (fF : Fin_ F) (hn : F ≠ pz) (h : Dv F (pd F)) : pl F = 1 := by
 have h1 := pl_pd fF
 have h2 := pl_pos fF hn
 rcases Nat.lt_or_ge 1 (pl F) with h3 | h3
 ·have h4 : pd F ≠ pz := fun e => by rw [e, pl_pz] at h1; omega
  have := Dv.le fF (fin_pd fF) h4 h
  omega
 ·omega
def pw (F : Nat → Rat) : Nat → Nat → Rat
 | 0 => pone
 | n + 1 => cv (pw F n) F
theorem pw_fin {F : Nat → Rat} (h : Fin_ F) : ∀ n, Fin_ (pw F n)
 | 0 => pone_fin
 | n + 1 => (pw_fin h n).cv h
theorem pw_pone (n : Nat) : pw pone n = pone := by
 induction n with
 | zero => rfl
 | succ n ih => show cv (pw pone n) pone = pone; rw [ih, cv_pone]
/-! ### the rounds -/
noncomputable def yw (W C : Nat → Rat) : Nat → (Nat → Rat) × (Nat → Rat)
 | 0 => (W, C)
 | k + 1 => (zgc (yw W C k).1 (yw W C k).2, pq (yw W C k).2 (zgc (yw W C k).1 (yw W C k).2))
noncomputable def ya (W C : Nat → Rat) (k : Nat) : Nat → Rat := pq (yw W C k).1 (yw W C (k + 1)).1
noncomputable def yl (W C : Nat → Rat) : Nat → List ((Nat → Rat) × Nat)
 | 0 => []
 | k + 1 => yl W C k ++ (if 1 < pl (ya W C k) then [(ya W C k, k + 1)] else [])
section
variable {W C : Nat → Rat}
theorem yw_pos (hW : Pos1 W) (hC : Pos1 C) : ∀ k, Pos1 (yw W C k).1 ∧ Pos1 (yw W C k).2
 | 0 => ⟨hW, hC⟩
 | k + 1 => by
  obtain ⟨h1, h2⟩ := yw_pos hW hC k
  obtain ⟨k1, k2, k3, -⟩ := h1.gcd h2.z h2.f
  exact ⟨k1, (h2.quot k1 k3).1⟩
theorem yw_eq (hW : Pos1 W) (hC : Pos1 C) (k : Nat) : Pos1 (ya W C k) ∧ (yw W C k).1 = cv (ya W C k) (yw W C (k + 1)).1 ∧ (yw W C k).2 = cv (yw W C (k + 1)).2 (yw W C (k + 1)).1 ∧ Zdv (yw W C k).1 (yw W C (k + 1)).1 ∧ Zdv (yw W C k).2 (yw W C (k + 1)).1 := by
 obtain ⟨h1, h2⟩ := yw_pos hW hC k
 obtain ⟨k1, k2, k3, -⟩ := h1.gcd h2.z h2.f
 have q1 := h1.quot k1 k2
 have q2 := h2.quot k1 k3
 exact ⟨q1.1, q1.2, q2.2, k2, k3⟩
theorem zdv_trans {A B D : Nat → Rat} (h : Zdv A B) (k : Zdv B D) : Zdv A D := by
 obtain ⟨Q, a, b, rfl⟩ := h
 obtain ⟨R, c, d, rfl⟩ := k
 exact ⟨cv Q R, a.cv c, b.cv d, (cv_assoc _ _ _).symm⟩
theorem zdv_dv {A B : Nat → Rat} (h : Zdv A B) : Dv B A := by
 obtain ⟨Q, a, b, rfl⟩ := h; exact ⟨Q, b, rfl⟩
theorem yw_zdv (hW : Pos1 W) (hC : Pos1 C) : ∀ k, Zdv W (yw W C k).1 ∧ Zdv C (yw W C k).2
 | 0 => ⟨⟨pone, pos_pone.z, pone_fin, (pone_cv _).symm⟩, ⟨pone, pos_pone.z, pone_fin, (pone_cv _).symm⟩⟩
 | k + 1 => by
  obtain ⟨h1, h2⟩ := yw_zdv hW hC k
  obtain ⟨p, e1, e2, d1, d2⟩ := yw_eq hW hC k
  have q := (yw_pos hW hC (k + 1)).1
  exact ⟨zdv_trans h1 d1, zdv_trans h2 ⟨(yw W C (k + 1)).1, q.z, q.f, by rw [cv_comm]; exact e2⟩⟩
theorem yw_low (hW : Pos1 W) (hC : Pos1 C) : ∀ k, (∀ j, j ≤ k → 1 < pl (yw W C j).1) → pl (yw W C k).2 + k ≤ pl C
 | 0, _ => by show pl C + 0 ≤ _; omega
 | k + 1, h => by
  have h1 := yw_low hW hC k fun j hj => h j (by omega)
  have h2 := h (k + 1) (Nat.le_refl _)
  obtain ⟨p, e1, e2, -⟩ := yw_eq hW hC k
  obtain ⟨q1, q2⟩ := yw_pos hW hC (k + 1)
  have h3 := pl_cv q2.f q1.f q2.n q1.n
  rw [← e2] at h3
  omega
theorem yw_stop (hW : Pos1 W) (hC : Pos1 C) : ∃ K, pl (yw W C K).1 ≤ 1 ∧ (∀ j, j < K → 1 < pl (yw W C j).1) ∧ K ≤ pl C := by
 have hx : ∃ K, pl (yw W C K).1 ≤ 1 := Classical.byContradiction fun hn => by
  have h1 := yw_low hW hC (pl C) fun j _ => by
   rcases Nat.lt_or_ge 1 (pl (yw W C j).1) with a | a
   ·exact a
   ·exact absurd ⟨j, a⟩ hn
  have := (yw_pos hW hC (pl C)).2.pos
  omega
 obtain ⟨K, h1, h2⟩ := least hx
 refine ⟨K, h1, fun j hj => by have := h2 j hj; omega, ?_⟩
 match K with
 | 0 => exact Nat.zero_le _
 | K + 1 =>
  have := yw_low hW hC K fun j hj => by have := h2 j (by omega); omega
  have := (yw_pos hW hC K).2.pos
  omega
end
end Go.Hp
namespace Go.Hp
theorem evn_zi {F : Nat → Rat} (z : ZI F) (x : Int) : ∀ n, ∃ y : Int, evn n F (x : Rat) = (y : Rat) := by
 intro n
 induction n generalizing F with
 | zero => exact ⟨0, rfl⟩
 | succ n ih =>
  obtain ⟨y, hy⟩ := ih (F := tl F) fun i => z (i + 1)
  obtain ⟨a, ha⟩ := z 0
  exact ⟨a + x * y, by rw [evn_tl, hy, ha]; simp⟩
theorem ev_zi {F : Nat → Rat} (z : ZI F) (x : Int) : ∃ y : Int, ev F (x : Rat) = (y : Rat) := evn_zi z x _
theorem off_roots {F : Nat → Rat} {n : Nat} (fF : Fin_ F) (h0 : F ≠ pz) (hn : pl F ≤ n) : ∃ X : Nat → Rat, Apart X n ∧ ∀ k, k < n → ev F (X k) ≠ 0 ∧ ∃ m : Nat, m < 2 * n ∧ X k = ((m : Int) : Rat) := by
 classical
 obtain ⟨l, hl⟩ : ∃ l, l = (List.range (2 * n)).map (fun k : Nat => (((k : Nat) : Int) : Rat)) := ⟨_, rfl⟩
 have hnd : l.Nodup := by
  rw [hl, List.nodup_iff_pairwise_ne, List.pairwise_map]
  refine List.Pairwise.imp (R := fun a b => a < b) ?_ List.pairwise_lt_range
  intro a b hab e
  have : ((a : Nat) : Int) = ((b : Nat) : Int) := by exact_mod_cast e
  omega
 obtain ⟨R, hR⟩ : ∃ R, R = l.filter fun x => decide (ev F x = 0) := ⟨_, rfl⟩
 obtain ⟨N, hN⟩ : ∃ N, N = l.filter fun x => !decide (ev F x = 0) := ⟨_, rfl⟩
 have hlen : R.length + N.length = 2 * n := by
  have h1 : R.length + N.length = l.length := by
   rw [hR, hN]
   clear hR hN hl hnd
   induction l with
   | nil => rfl
   | cons a l ih =>
    simp only [List.filter_cons]
    by_cases e : ev F a = 0
    ·simp [e]; omega
    ·simp [e]; omega
  rw [h1, hl]; simp
 have hRl : R.length < pl F := by
  rcases Nat.lt_or_ge R.length (pl F) with a | a
  ·exact a
  ·exact absurd (many_roots ((pl_sup fF).mono a) (by rw [hR]; exact hnd.sublist (List.filter_sublist)) (fun x hx => by rw [hR, List.mem_filter] at hx; simpa using hx.2)) h0
 have hNn : N.Nodup := by rw [hN]; exact hnd.sublist (List.filter_sublist)
 have hNg : ∀ k (h : k < n), ∃ h' : k < N.length, N.getD k 0 = N[k] := fun k h => ⟨by omega, by rw [List.getD_eq_getElem?_getD, List.getElem?_eq_getElem (by omega)]; rfl⟩
 refine ⟨fun k => N.getD k 0, fun i k hi hk => ?_, fun k hk => ?_⟩
 ·obtain ⟨a1, a2⟩ := hNg i hi
  obtain ⟨b1, b2⟩ := hNg k (by omega)
  show N.getD i 0 ≠ N.getD k 0
  rw [a2, b2]
  intro e
  rw [List.nodup_iff_pairwise_ne, List.pairwise_iff_getElem] at hNn
  exact hNn k i b1 a1 hk e.symm
 ·obtain ⟨a1, a2⟩ := hNg k hk
  show ev F (N.getD k 0) ≠ 0 ∧ ∃ m : Nat, m < 2 * n ∧ N.getD k 0 = _
  rw [a2]
  obtain ⟨y, hy⟩ : ∃ y, y = N[k] := ⟨_, rfl⟩
  have hm : y ∈ N := by rw [hy]; exact List.getElem_mem a1
  rw [← hy]
  clear hy a2
  rw [hN, List.mem_filter, hl] at hm
  obtain ⟨b1, b2⟩ := hm
  obtain ⟨m, c1, c2⟩ := List.mem_map.1 b1
  refine ⟨by simpa using b2, m, List.mem_range.1 c1, c2.symm⟩
theorem zdv_qsz {F D : Nat → Rat} {n s : Nat} (zF : ZI F) (fF : Fin_ F) (h0 : F ≠ pz) (zD : ZI D) (fD : Fin_ D) (hd : Zdv F D) (hn : pl F ≤ n) (hn9 : n ≤ 16) (hs : ∀ i, qsz (F i) ≤ s) (hs9 : s ≤ 5) (i : Nat) : qsz (D i) ≤ 36000 := by
 obtain ⟨X, hA, hX⟩ := off_roots fF h0 hn
 have hX1 : ∀ k, k < n → qsz (X k) ≤ 1 := fun k hk => by
  obtain ⟨-, m, h1, h2⟩ := hX k hk
  have h3 : bp 1 = 4294967296 := rfl
  have h4 : sz ((m : Nat) : Int).natAbs ≤ 1 := sz_le_of_lt (by rw [h3]; omega)
  rw [h2, qsz_cast]
  omega
 have hX2 : ∀ k, k < n → qsz (X k) ≤ 2 := fun k hk => Nat.le_trans (hX1 k hk) (by omega)
 obtain ⟨Q, zQ, fQ, e⟩ := hd
 have hY : ∀ k, k < n → qsz (ev D (X k)) ≤ 113 := fun k hk => by
  have h1 := ev_qsz ((pl_sup fF).mono hn) hs (hX1 k hk)
  have h2 : n * (s + 1 + 1) ≤ 16 * 7 := Nat.mul_le_mul hn9 (by omega)
  obtain ⟨h3, m, -, h4⟩ := hX k hk
  have h5 : ev F (X k) = ev Q (X k) * ev D (X k) := by rw [e, ev_cv fQ fD]
  rw [h4] at h1 h3 h5 ⊢
  obtain ⟨a, ha⟩ := ev_zi zF (m : Int)
  obtain ⟨b, hb⟩ := ev_zi zQ (m : Int)
  obtain ⟨c, hc⟩ := ev_zi zD (m : Int)
  rw [ha] at h1 h3
  rw [ha, hb, hc] at h5
  rw [hc]
  have h6 : a = b * c := by exact_mod_cast h5
  have h7 : a ≠ 0 := fun e => h3 (by rw [e]; rfl)
  rw [qsz_cast] at h1 ⊢
  have h8 : c.natAbs ≤ a.natAbs := Nat.le_of_dvd (by omega) (Int.natAbs_dvd_natAbs.2 ⟨b, by rw [h6, Int.mul_comm]⟩)
  have := sz_mono h8
  omega
 have hDn : D ≠ pz := fun e2 => h0 (by rw [e, e2, cv_pz])
 have hDl : pl D ≤ pl F := Dv.le fD fF h0 ⟨Q, fQ, e⟩
 obtain ⟨Y, hYe⟩ : ∃ Y, Y = fun k => ev D (X k) := ⟨_, rfl⟩
 have hD : D = lgs X Y n n := through_uniq hA ((pl_sup fD).mono (by omega)) (lgs_sup X Y n n (Nat.le_refl _)) fun k hk => by
  rw [ev_lgs hA hk n (Nat.le_refl _), if_pos hk, hYe]
 have hc : ∀ j, j < n → CD 2235 (lgt X Y n j) := fun j hj => by
  have h1 := lgp_cd j n hX2 (by omega)
  have h2 := ev_qsz (lgp_sup X j n).1 (fun j => h1.elem j) (hX1 j hj)
  have h3 : (n + 1) * (3 + 7 * n + 1 + 1) ≤ 17 * 117 := Nat.mul_le_mul (by omega) (by omega)
  have h4 := qsz_div (Y j) (ev (lgp X j n) (X j))
  have h5 := hY j hj
  have h6 : qsz (Y j) ≤ 113 := by rw [hYe]; exact h5
  exact (h1.psc _).mono (by omega)
 have hl : ∀ m, m ≤ n → CD (1 + m * 2236) (lgs X Y n m) := by
  intro m
  induction m with
  | zero => intro _; exact CD.pz
  | succ m ih => intro h; exact ((ih (by omega)).pad (hc m h)).mono (by omega)
 rw [hD]
 have h9 : n * 2236 ≤ 16 * 2236 := Nat.mul_le_mul_right _ hn9
 exact Nat.le_trans ((hl n (Nat.le_refl _)).elem i) (by omega)
end Go.Hp
namespace Go.Hp
theorem Cop.mul {F G H : Nat → Rat} (fF : Fin_ F) (fG : Fin_ G) (fH : Fin_ H) (h : Cop F G) (k : Cop F H) : Cop F (cv G H) := by
 obtain ⟨U, V, a, b, e⟩ := h
 obtain ⟨X, Y, c, d, e'⟩ := k
 refine ⟨pad (cv (pad (cv U F) (cv V G)) X) (cv U (cv Y H)), cv V Y, (((a.cv fF).pad (b.cv fG)).cv c).pad (a.cv (d.cv fH)), b.cv d, ?_⟩
 have h1 : cv (pad (cv U F) (cv V G)) (pad (cv X F) (cv Y H)) = pone := by rw [e, e', pone_cv]
 rw [← h1, cv_pad, pad_cv (cv U F) (cv V G) (cv Y H), pad_cv _ _ F]
 have e1 : cv (cv (pad (cv U F) (cv V G)) X) F = cv (pad (cv U F) (cv V G)) (cv X F) := cv_assoc _ _ _
 have e2 : cv (cv U (cv Y H)) F = cv (cv U F) (cv Y H) := by rw [cv_assoc, cv_comm (cv Y H) F, ← cv_assoc]
 have e3 : cv (cv V Y) (cv G H) = cv (cv V G) (cv Y H) := by rw [cv_assoc, cv_assoc, ← cv_assoc Y G H, cv_comm Y G, cv_assoc]
 rw [e1, e2, e3]
 funext n; simp only [pad]; grind
theorem Cop.one (F : Nat → Rat) : Cop F pone := ⟨pz, pone, Fin_.pz, pone_fin, by rw [pz_cv, pone_cv]; funext n; simp only [pad, pz]; grind⟩
theorem Cop.pw {F G : Nat → Rat} (fF : Fin_ F) (fG : Fin_ G) (h : Cop F G) : ∀ n, Cop F (pw G n)
 | 0 => Cop.one F
 | n + 1 => Cop.mul fF (pw_fin fG n) fG (Cop.pw fF fG h n) h
theorem split_off {W : Nat → Rat} (hW : Pos1 W) : ∀ (n : Nat) {C : Nat → Rat}, Pos1 C → pl C ≤ n → ∃ P R N, Pos1 P ∧ Pos1 R ∧ C = cv P R ∧ Cop P W ∧ Dv R (pw W N) := by
 intro n
 induction n with
 | zero => intro C hC hn; have := hC.pos; omega
 | succ n ih =>
  intro C hC hn
  obtain ⟨k, z1, -, -, d2, -⟩ := hC.gcd hW.z hW.f
  by_cases h1 : pl (zgc C W) ≤ 1
  ·exact ⟨C, pone, 0, hC, pos_pone, (cv_pone C).symm, Cop.of_gcd hC hW.z hW.f h1, Dv.refl _⟩
  ·obtain ⟨q1, q2⟩ := hC.quot k z1
   have h2 := pl_cv q1.f k.f q1.n k.n
   rw [← q2] at h2
   obtain ⟨P, R, N, a, b, c, d, e⟩ := ih q1 (by omega)
   refine ⟨P, cv R (zgc C W), N + 1, a, b.mul k, by rw [← cv_assoc, ← c]; exact q2, d, ?_⟩
   obtain ⟨X, fX, eX⟩ := e
   obtain ⟨Y, fY, eY⟩ := d2
   refine ⟨cv X Y, fX.cv fY, ?_⟩
   show cv (pw W N) W = _
   rw [eX]
   conv => lhs; rw [eY]
   rw [cv_assoc, cv_assoc X Y, ← cv_assoc R Y, cv_comm R Y, cv_assoc Y R]
noncomputable def yc (g : Nat → Rat) : Nat → Rat := zgc g (pd g)
noncomputable def y0 (g : Nat → Rat) : Nat → Rat := pq g (yc g)
section
variable {g : Nat → Rat}
theorem yc_pos (h : Pos1 g) : Pos1 (yc g) ∧ Pos1 (y0 g) ∧ g = cv (y0 g) (yc g) ∧ Zdv g (yc g) ∧ Zdv (pd g) (yc g) := by
 obtain ⟨k, z1, z2, -⟩ := h.gcd (zi_pd h.z) (fin_pd h.f)
 obtain ⟨q1, q2⟩ := h.quot k z1
 exact ⟨k, q1, q2, z1, z2⟩
theorem yc_dv (h : Pos1 g) : Dv (yc g) (cv (y0 g) (pd (yc g))) := by
 obtain ⟨k, q1, q2, z1, z2⟩ := yc_pos h
 have h1 := zdv_dv z2
 rw [q2, pd_cv, ← q2] at h1
 have h2 : Dv (yc g) (psb (pad (cv (pd (y0 g)) (yc g)) (cv (y0 g) (pd (yc g)))) (cv (pd (y0 g)) (yc g))) := h1.psb ((Dv.refl _).mul (fin_pd q1.f))
 have e : psb (pad (cv (pd (y0 g)) (yc g)) (cv (y0 g) (pd (yc g)))) (cv (pd (y0 g)) (yc g)) = cv (y0 g) (pd (yc g)) := by
  funext n; simp only [psb, pad]; grind
 rw [e] at h2
 exact h2
theorem yc_pw (h : Pos1 g) : ∃ N, Dv (yc g) (pw (y0 g) N) := by
 obtain ⟨k, q1, q2, z1, z2⟩ := yc_pos h
 obtain ⟨P, R, N, a, b, c, d, e⟩ := split_off q1 _ k (Nat.le_refl _)
 have h1 := yc_dv h
 have hP : Dv P (cv (y0 g) (cv (pd P) R)) := by
  have h2 : Dv P (cv (y0 g) (pd (yc g))) := Dv.trans ⟨R, b.f, by rw [cv_comm]; exact c⟩ h1
  rw [c, pd_cv, cv_pad] at h2
  have h3 : Dv P (cv (y0 g) (cv P (pd R))) := by
   rw [cv_comm P, ← cv_assoc]
   exact (Dv.refl P).mul (q1.f.cv (fin_pd b.f))
  have h4 := h2.psb h3
  have e4 : psb (pad (cv (y0 g) (cv (pd P) R)) (cv (y0 g) (cv P (pd R)))) (cv (y0 g) (cv P (pd R))) = cv (y0 g) (cv (pd P) R) := by
   funext n; simp only [psb, pad]; grind
  rw [e4] at h4
  exact h4
 have h5 := d.euclid ((fin_pd a.f).cv b.f) hP
 have h6 : Cop P R := ((Cop.pw a.f q1.f d N).symm.dv e).symm
 rw [cv_comm] at h5
 have h7 := h6.euclid (fin_pd a.f) h5
 have h8 := a.one (by have := dv_pd a.f a.n h7; omega)
 refine ⟨N, ?_⟩
 rw [c, h8, pone_cv]
 exact e
theorem yl_mem (W C : Nat → Rat) : ∀ (K : Nat) (p : (Nat → Rat) × Nat), p ∈ yl W C K → ∃ j, j < K ∧ p = (ya W C j, j + 1) ∧ 1 < pl (ya W C j) := by
 intro K
 induction K with
 | zero => intro p hp; simp [yl] at hp
 | succ K ih =>
  intro p hp
  show _
  rw [yl, List.mem_append] at hp
  rcases hp with hp | hp
  ·obtain ⟨j, a, b, c⟩ := ih p hp; exact ⟨j, by omega, b, c⟩
  ·split at hp
   ·rename_i hl
    rw [List.mem_singleton] at hp
    exact ⟨K, by omega, hp, hl⟩
   ·simp at hp
theorem yl_pos1 (h : Pos1 g) (K : Nat) : ∀ p ∈ yl (y0 g) (yc g) K, Pos1 p.1 ∧ 1 < pl p.1 ∧ 1 ≤ p.2 ∧ p.2 ≤ K := fun p hp => by
 obtain ⟨hC, hW, -⟩ := yc_pos h
 obtain ⟨j, h1, rfl, h3⟩ := yl_mem _ _ K p hp
 exact ⟨(yw_eq hW hC j).1, h3, by show 1 ≤ j + 1; omega, by show j + 1 ≤ K; omega⟩
theorem yl_free (h : Pos1 g) {K : Nat} (hK : pl (yw (y0 g) (yc g) K).1 ≤ 1) (hK' : ∀ j, j < K → 1 < pl (yw (y0 g) (yc g) j).1) (hg : 1 < pl g) :
  (∃ p, yl (y0 g) (yc g) K = [p] ∧ p.2 = 1) ↔ pl (yc g) ≤ 1 := by
 obtain ⟨hC, hW, e, -⟩ := yc_pos h
 constructor
 ·rintro ⟨p, hp, hp1⟩
  refine Classical.byContradiction fun hn => ?_
  obtain ⟨N, hN⟩ := yc_pw h
  have hw0 : 1 < pl (y0 g) := by
   rcases Nat.lt_or_ge 1 (pl (y0 g)) with a | a
   ·exact a
   ·rw [hW.one a, pw_pone] at hN
    have h2 := Dv.le hC.f pone_fin pone_ne hN
    have h3 : pl pone ≤ 1 := pl_le pone_sup
    omega
  have hw1 : 1 < pl (yw (y0 g) (yc g) 1).1 := by
   rcases Nat.lt_or_ge 1 (pl (yw (y0 g) (yc g) 1).1) with a | a
   ·exact a
   ·have c1 := Cop.of_gcd hW hC.z hC.f a
    have c2 := (Cop.pw hC.f hW.f c1.symm N).symm.dv hN
    have := Cop.self hC.f c2
    omega
  match K, hK, hK', hp with
  | 0, hK, _, _ => exact absurd hw0 (by have : pl (y0 g) ≤ 1 := hK; omega)
  | 1, hK, _, _ => omega
  | K + 2, hK, hK', hp =>
   obtain ⟨q, e1, -⟩ := yw_eq hW hC (K + 1)
   have h4 := (yw_pos hW hC (K + 2)).1.one hK
   have h5 := hK' (K + 1) (by omega)
   rw [h4, cv_pone] at e1
   have h6 : (ya (y0 g) (yc g) (K + 1), K + 1 + 1) ∈ yl (y0 g) (yc g) (K + 2) := by
    rw [yl, if_pos (by rw [← e1]; exact h5)]
    simp
   rw [hp, List.mem_singleton] at h6
   rw [← h6] at hp1
   have : K + 1 + 1 = 1 := hp1
   omega
 ·intro hc
  have hc1 := hC.one hc
  have e0 : y0 g = g := by rw [hc1, cv_pone] at e; exact e.symm
  have hz : zgc (y0 g) (yc g) = pone := by rw [hc1]; exact (Cop.one _).gcd hW pos_pone.z pone_fin
  have hK1 : K = 1 := by
   match K, hK, hK' with
   | 0, hK, _ =>
    have : pl (y0 g) ≤ 1 := hK
    rw [e0] at this; omega
   | 1, _, _ => rfl
   | K + 2, _, hK' =>
    have h1 := hK' 1 (by omega)
    have h2 : (yw (y0 g) (yc g) 1).1 = pone := hz
    have h3 : pl pone ≤ 1 := pl_le pone_sup
    rw [h2] at h1; omega
  subst hK1
  have ha : ya (y0 g) (yc g) 0 = g := by
   show pq (y0 g) (zgc (y0 g) (yc g)) = g
   rw [hz, e0]
   have := (pq_mul h.f pone_fin pone_ne).1
   rw [cv_pone] at this; exact this
  refine ⟨(g, 1), ?_, rfl⟩
  show [] ++ _ = _
  rw [ha, if_pos hg]; rfl
end
theorem isG_yc {F : Nat → Rat} (zF : ZI F) (fF : Fin_ F) (h0 : F ≠ pz) : IsG F (pd F) (mn (yc (pp F))) := by
 have h := Pos1.pp zF fF h0
 have k := (zgc_is h.f (fin_pd h.f) h.z (zi_pd h.z)).2.2.2.2
 have ha : (1 / (pcn F : Rat)) ≠ 0 := inv_ne (by exact_mod_cast pcn_ne zF fF h0)
 have e : pd (pp F) = psc (1 / (pcn F : Rat)) (pd F) := by
  funext i; show ((i + 1 : Nat) : Rat) * ((1 / (pcn F : Rat)) * F (i + 1)) = (1 / (pcn F : Rat)) * (((i + 1 : Nat) : Rat) * F (i + 1)); grind
 refine IsG.of (fun E _ => ?_) k
 rw [e]
 unfold pp
 rw [dv_psc_iff ha, dv_psc_iff ha]
end Go.Hp
namespace Go.Hp
open Go.RowKit
def rdf : World → Value → Value × Nat → Prop := fun _ c u => c = .agg #[u.1, .int .i64 (u.2 : Nat)] ∧ ∃ A n k, u.1 = .slice A n k
theorem IsZP.updB {b : Nat} {G : List Nat} {w w' : World} {v : Value} {F : Nat → Rat} (h : IsZP b w v F) (U : Upd G w w') (hG : ∀ g ∈ G, ∀ i c, w.cell? ⟨g, i, none⟩ ≠ some (.bool c)) : IsZP b w' v F := by
 obtain ⟨l, ⟨A, c, h1, h2, h3, h4⟩, h5, rfl⟩ := h
 refine ⟨l, ⟨A, c, h1, h2, h3, fun h0 => ?_⟩, h5, rfl⟩
 obtain ⟨g, o, ha, hb, hc⟩ := h4 h0
 have hg : g ∉ G := fun hm => by
  obtain ⟨cs, q1, q2, q3⟩ := hc 0 h0
  obtain ⟨b, A1, n, c1, e⟩ := q3.cells
  obtain rfl := agg2 e
  exact hG g hm _ b (q2 0 (by omega))
 refine ⟨g, o, ha, hb, fun j hj => ?_⟩
 obtain ⟨cs, q1, q2, q3⟩ := hc j hj
 refine ⟨cs, q1, fun i hi => ?_, q3.kd U.kd⟩
 have e : cs[i]? = some (cs[i]'(by omega)) := Array.getElem?_eq_getElem (by omega)
 rw [e]
 exact upd_cell U hg ((q2 i hi).trans e)
structure Fac (base : Nat) (t : TypeId) (w : World) (v : Value) (us : List (Value × Nat)) (l : List ((Nat → Rat) × Nat)) : Prop where
 out : OwnR 2 rdf base t w v us
 len : us.length = l.length
 nb : NoB w v
 el : ∀ i (h : i < us.length) (h' : i < l.length), us[i].2 = l[i].2 ∧ IsZP 0 w us[i].1 l[i].1
section
variable {base : Nat} {t : TypeId} {w w' : World} {v : Value} {us : List (Value × Nat)} {l : List ((Nat → Rat) × Nat)}
theorem NoB.nil (w : World) : NoB w (.slice none 0 0) := fun g hg => by simp [blk, Value.ownBlock] at hg
theorem Fac.nil (base : Nat) (t : TypeId) (w : World) : Fac base t w (.slice none 0 0) [] [] := ⟨OwnR.nil _ _ _ _ _, rfl, NoB.nil w, fun i h => by simp at h⟩
theorem NoB.ext {k : Nat} {α : Type} {rd : World → Value → α → Prop} {b : Nat} {m : List α} (h : NoB w v) (o : OwnR k rd b t w v m) (x : Ext w w') : NoB w' v := fun g hg i c e => by
 have := (OwnR.blk_ge o g hg).2
 rw [x.cells g i this] at e
 exact h g hg i c e
theorem Fac.ext (h : Fac base t w v us l) (x : Ext w w') : Fac base t w' v us l :=
 ⟨h.out.ext x fun _ _ q => q, h.len, h.nb.ext h.out x, fun i a b => ⟨(h.el i a b).1, (h.el i a b).2.ext x⟩⟩
theorem Fac.base_le {b : Nat} (h : Fac base t w v us l) (hb : b ≤ base) : Fac b t w v us l := by
 obtain ⟨⟨ess, h1, h2, ⟨h3, h4⟩, h5⟩, k2, k3, k4⟩ := h
 refine ⟨⟨ess, h1, h2, ⟨h3, ?_⟩, h5⟩, k2, k3, k4⟩
 rcases h4 with h4 | ⟨g, cap, cur, a, c, d⟩
 ·exact .inl h4
 ·exact .inr ⟨g, cap, cur, a, Nat.le_trans hb c, d⟩
theorem Fac.shape (h : Fac base t w v us l) : ∃ A c, v = .slice A l.length c := by
 obtain ⟨A, c, e⟩ := h.out.len
 exact ⟨A, c, by rw [e, h.len]⟩
theorem Fac.at_ {A : Option Addr} {n c : Nat} (h : Fac base t w (.slice A n c) us l) {i : Nat} (hi : i < l.length) :
  ∃ g o E d, A = some ⟨g, o, none⟩ ∧ w.cell? ⟨g, o + i * 2, none⟩ = some (.slice E (pl l[i].1) d) ∧ w.cell? ⟨g, o + i * 2 + 1, none⟩ = some (.int .i64 (l[i].2 : Nat)) ∧ IsZP 0 w (.slice E (pl l[i].1) d) l[i].1 := by
 obtain ⟨h0, h1, -, h2⟩ := h
 have hi' : i < us.length := by omega
 obtain ⟨A', c', e, -, -, hA⟩ := OwnR.row h0
 have eA : A' = A := by injection e with h1; exact h1.symm
 subst eA
 obtain ⟨g, o, ha, hb, hc⟩ := hA (by omega)
 obtain ⟨cs, q1, q2, q3, -⟩ := hc i hi'
 obtain ⟨k1, k2⟩ := h2 i hi' hi
 obtain ⟨E, d, e2, -⟩ := IsZP.shape k2
 have e3 : cs = #[us[i].1, .int .i64 (us[i].2 : Nat)] := by injection q3
 refine ⟨g, o, E, d, ha, ?_, ?_, by rw [← e2]; exact k2⟩
 ·have := q2 0 (by omega)
  rw [e3, e2] at this
  exact this
 ·have := q2 1 (by omega)
  rw [e3, k1] at this
  exact this
theorem Fac.append {P : Program} {A : Option Addr} {n c : Nat} {F : Nat → Rat} (h : Fac base t w v us l) (hu : IsZP 0 w (.slice A n c) F) (e : Nat)
  (tt ty : TypeId) (i : TypeInfo) (z : Value) (bytes : Nat) (hT : P.underlying tt = some (.slice t)) (hi : P.info? t = some i) (hz : i.zero = some z) (hsize : i.size = 2) (hby : i.bytes = bytes) (hzs : z.cells.size = 2) (hzd : nodig z.cells = true) (hzB : ∀ u ∈ z.cells.toList, isB u = false)
  (h63 : l.length + 1 ≤ maxLen) (hbytes : (l.length + 1) * bytes ≤ 140737488355328) (hbase : base ≤ w.heap.size) :
  ∃ v' w', (Builtin.append_ #[tt, tt] ty #[v, .slice (some ⟨w.heap.size, 0, none⟩) 1 1]).run P (w.alloc (.cells #[.slice A n c, .int .i64 (e : Nat)] t)) = .ok v' w' ∧ Fac base t w' v' (us ++ [(.slice A n c, e)]) (l ++ [(F, e)]) ∧
   Upd (blk v) (w.alloc (.cells #[.slice A n c, .int .i64 (e : Nat)] t)) w' ∧ NoB (w.alloc (.cells #[.slice A n c, .int .i64 (e : Nat)] t)) v := by
 have hb := Box.new w t #[.slice A n c, .int .i64 (e : Nat)] (by simp [isDig])
 have x := (Ext.refl w).alloc (.cells #[.slice A n c, .int .i64 (e : Nat)] t)
 have h' := h.ext x
 have hu' := hu.ext x
 have hl := h.len
 obtain ⟨v', w', a, b, U, B⟩ := OwnR.append_blk (P := P) (x := ((Value.slice A n c), e)) h'.out tt ty i z bytes hT hi hz hsize hby hzs hzd (by decide) ⟨w.heap.size, 0, none⟩ 1 #[.slice A n c, .int .i64 (e : Nat)] rfl ⟨rfl, _, _, _, rfl⟩ (news_new w t _) (by simp [Value.oneCell']) (by simp [nodig, isDig]) (by omega) (by rw [hl]; exact hbytes) (Nat.le_trans hbase x.size) (fun _ _ _ _ q => q) h'.nb (by simp [isB]) hzB
 refine ⟨v', w', a, ⟨b, by simp [hl], B, fun j a1 a2 => ?_⟩, U, h'.nb⟩
 by_cases hj : j < us.length
 ·rw [List.getElem_append_left hj, List.getElem_append_left (by omega)]
  obtain ⟨k1, k2⟩ := h'.el j hj (by omega)
  exact ⟨k1, k2.updB U h'.nb⟩
 ·rw [List.getElem_append_right (by omega), List.getElem_append_right (by omega)]
  have e0 : j - us.length = 0 := by simp at a1; omega
  have e1 : j - l.length = 0 := by omega
  simp only [e0, e1, List.getElem_cons_zero]
  exact ⟨trivial, hu'.updB U h'.nb⟩
theorem IsZP.upd2 {b g : Nat} {t' : TypeId} {x y : Value} {F : Nat → Rat} {u : Value} (h : IsZP b w u F) (hF : 1 < pl F) (e : Box w g t' #[x, y]) (U : Upd [g] w w') : IsZP b w' u F := by
 obtain ⟨l, ⟨A, c, h1, h2, h3, h4⟩, h5, rfl⟩ := h
 have hl : l.length = pl (cz l) := by have := h5.pl; rw [zq_len] at this; exact this.symm
 refine ⟨l, ⟨A, c, h1, h2, h3, fun h0 => ?_⟩, h5, rfl⟩
 obtain ⟨g1, o, ha, hb, hc⟩ := h4 h0
 have hg : g1 ∉ [g] := fun hm => by
  have : g1 = g := by simpa using hm
  subst this
  obtain ⟨cs, q1, q2, q3⟩ := hc 1 (by omega)
  obtain ⟨b, A1, n, c1, e1⟩ := q3.cells
  obtain rfl := agg2 e1
  have h6 := q2 0 (by omega)
  rw [cell_of_row w g1 (o + 1 * 2 + 0) #[x, y] t' (0, 0) e.1, Array.getElem?_eq_none (by simp)] at h6
  cases h6
 refine ⟨g1, o, ha, hb, fun j hj => ?_⟩
 obtain ⟨cs, q1, q2, q3⟩ := hc j hj
 refine ⟨cs, q1, fun i hi => ?_, q3.kd U.kd⟩
 have e2 : cs[i]? = some (cs[i]'(by omega)) := Array.getElem?_eq_getElem (by omega)
 rw [e2]
 exact upd_cell U hg ((q2 i hi).trans e2)
theorem IsZP.off1 {g0 : Nat} {F : Nat → Rat} {u : Value} (h : IsZP (g0 + 1) w u F) (U : Upd [g0] w w') : IsZP (g0 + 1) w' u F := by
 obtain ⟨l, ⟨A, c, h1, h2, h3, h4⟩, h5, rfl⟩ := h
 refine ⟨l, ⟨A, c, h1, h2, h3, fun h0 => ?_⟩, h5, rfl⟩
 obtain ⟨g, o, ha, hb, hc⟩ := h4 h0
 refine ⟨g, o, ha, hb, fun j hj => ?_⟩
 obtain ⟨cs, q1, q2, q3⟩ := hc j hj
 refine ⟨cs, q1, fun i hi => ?_, q3.kd U.kd⟩
 have e : cs[i]? = some (cs[i]'(by omega)) := Array.getElem?_eq_getElem (by omega)
 rw [e]
 exact upd_cell U (by simp; omega) ((q2 i hi).trans e)
theorem Fac.upd2 {g : Nat} {t' : TypeId} {x y : Value} (h : Fac base t w v us l) (hl : ∀ p ∈ l, 1 < pl p.1) (e : Box w g t' #[x, y]) (hg : g < base) (U : Upd [g] w w') : Fac base t w' v us l := by
 have hb := OwnR.blk_ge h.out
 have hne : ∀ g' ∈ blk v, g' ∉ [g] := fun g' hg' hm => by
  have := hb g' hg'
  have : g' = g := by simpa using hm
  omega
 refine ⟨OwnR.upd h.out U hne fun _ _ q => q, h.len, fun g' hg' i c hc => ?_, fun i a b => ⟨(h.el i a b).1, (h.el i a b).2.upd2 (hl _ (List.getElem_mem b)) e U⟩⟩
 obtain ⟨o, ho⟩ : ∃ o, w.heap[g']? = some o := ⟨_, Array.getElem?_eq_getElem (hb g' hg').2⟩
 have hk := U.1 g' o (hne g' hg') ho
 rw [World.cell?_of_block (hk.trans ho.symm)] at hc
 exact h.nb g' hg' i c hc
theorem yl_len (W C : Nat → Rat) : ∀ K, (yl W C K).length ≤ K
 | 0 => Nat.le_refl _
 | K + 1 => by
  have := yl_len W C K
  rw [yl, List.length_append]
  split <;> simp <;> omega
end
end Go.Hp
namespace Go.Hp
open Go.RowKit
theorem yw_room {g : Nat → Rat} {n s : Nat} (h : Pos1 g) (hn : pl g ≤ n) (hn9 : n ≤ 16) (hs : ∀ i, qsz (g i) ≤ s) (hs9 : s ≤ 5) (k : Nat) :
  (∀ i, qsz ((yw (y0 g) (yc g) k).1 i) ≤ 36000) ∧ (∀ i, qsz ((yw (y0 g) (yc g) k).2 i) ≤ 36000) ∧ pl (yw (y0 g) (yc g) k).1 + pl (yw (y0 g) (yc g) k).2 ≤ n + 1 := by
 obtain ⟨hC, hW, e, d1, -⟩ := yc_pos h
 obtain ⟨p1, p2⟩ := yw_pos hW hC k
 obtain ⟨e1, e2⟩ := yw_zdv hW hC k
 have dW : Zdv g (y0 g) := ⟨yc g, hC.z, hC.f, by rw [cv_comm]; exact e⟩
 have l1 := Dv.le p1.f hW.f hW.n (zdv_dv e1)
 have l2 := Dv.le p2.f hC.f hC.n (zdv_dv e2)
 have l3 := pl_cv hW.f hC.f hW.n hC.n
 rw [← e] at l3
 have := hW.pos
 exact ⟨zdv_qsz h.z h.f h.n p1.z p1.f (zdv_trans dW e1) hn hn9 hs hs9, zdv_qsz h.z h.f h.n p2.z p2.f (zdv_trans d1 e2) hn hn9 hs hs9, by omega⟩
def SqK (g : Nat → Rat) (K : Nat) : Prop := pl (yw (y0 g) (yc g) K).1 ≤ 1 ∧ ∀ j, j < K → 1 < pl (yw (y0 g) (yc g) j).1
theorem SqK.uniq {g : Nat → Rat} {K L : Nat} (h : SqK g K) (k : SqK g L) : K = L := by
 rcases Nat.lt_trichotomy K L with a | a | a
 ·have := k.2 K a; have := h.1; omega
 ·exact a
 ·have := h.2 L a; have := k.1; omega
theorem yw_meas {g : Nat → Rat} (h : Pos1 g) {k : Nat} (h1 : 1 < pl (yw (y0 g) (yc g) k).1) : pl (yw (y0 g) (yc g) (k + 1)).2 + pl (yw (y0 g) (yc g) (k + 1)).1 < pl (yw (y0 g) (yc g) k).2 + pl (yw (y0 g) (yc g) k).1 := by
 obtain ⟨hC, hW, -⟩ := yc_pos h
 obtain ⟨p, e1, e2, -⟩ := yw_eq hW hC k
 obtain ⟨q1, q2⟩ := yw_pos hW hC (k + 1)
 have h2 := pl_cv p.f q1.f p.n q1.n
 have h3 := pl_cv q2.f q1.f q2.n q1.n
 rw [← e1] at h2
 rw [← e2] at h3
 have := p.pos; have := q1.pos; have := q2.pos
 omega
end Go.Hp
namespace Go.Proofs.YtfacbpnegkjcgaaGreatDoor
open Go.RowKit Go.Hp
theorem infoF : (Tryz.prog.info? 76).map (fun i => (i.zero, i.size, i.bytes)) = some (some (.agg #[.slice none 0 0, .int .i64 0]), 2, 32) := by kernel_rfl
theorem append_fac (W : World) (v : Value) (base ty n c e : Nat) (A : Option Addr) (us : List (Value × Nat)) (l : List ((Nat → Rat) × Nat)) (F : Nat → Rat) (z : Int) (g : Nat) (h : Fac base 76 W v us l) (hu : IsZP 0 W (.slice A n c) F) (hz : z = (e : Nat)) (hg : g = W.heap.size) (hn : l.length ≤ 1000000) (hb : base ≤ W.heap.size) :
  ∃ v' w', (Builtin.append_ #[69, 69] ty #[v, .slice (some ⟨g, 0, none⟩) 1 1]).run Tryz.prog (W.alloc (.cells #[.slice A n c, .int .i64 z] 76)) = .ok v' w' ∧
   (Fac base 76 w' v' (us ++ [(.slice A n c, e)]) (l ++ [(F, e)]) ∧ Upd (blk v) (W.alloc (.cells #[.slice A n c, .int .i64 z] 76)) w' ∧ NoB (W.alloc (.cells #[.slice A n c, .int .i64 z] 76)) v) := by
 subst hz hg
 obtain ⟨i0, hi, hz0, hz1, hz2⟩ := info_parts infoF
 obtain ⟨v', w', a, b, U, N⟩ := Fac.append (P := Tryz.prog) h hu e 69 ty i0 _ 32 Tryz.underlying69 hi hz0 hz1 hz2 rfl (by simp [nodig, isDig, Value.cells]) (by simp [isB, Value.cells]) (by simp only [maxLen]; omega) (by omega) hb
 exact ⟨v', w', a, b, U, N⟩
def SqOut (base : Nat) (F : Nat → Rat) (r : Value) (w : World) : Prop := ∃ a u us K, r = .tuple #[a, u, .int .i64 0] ∧ IsZ w a (pcn F) ∧ SqK (pp F) K ∧ Fac base 76 w u us (yl (y0 (pp F)) (yc (pp F)) K)
set_option maxRecDepth 20000 in
set_option maxHeartbeats 8000000 in
theorem zsqf_z (v : Value) (l : List Int) (S n M : Nat) (w : World) (hv : HzV 0 w v l) (hs : ∀ i, qsz (cz l i) ≤ S) (hd : ∀ i, qsz (pd (pp (cz l)) i) ≤ S) (hS : S ≤ 5) (hl : l.length ≤ 1000) (hp : pl (cz l) ≤ n) (hn : n ≤ 16) (h0 : cz l ≠ pz)
  (hM : (S + 1) * 2 ^ (n + (n - 1)) ≤ M) (hB : M + (n + (n - 1) + 1) * (M + 1) + M ≤ 549755813888) :
  Calls Tryz.prog 52 #[v] w (Gives w (SqOut w.heap.size (cz l))) := by
 have HV := Lib.hid hv
 obtain ⟨A, c, rfl⟩ := hv.len
 clear hv
 have hg := Pos1.pp (ZI.cz l) (Fin_.cz l) h0
 have hpg : pl (pp (cz l)) = pl (cz l) := pp_pl (ZI.cz l) (Fin_.cz l)
 have hsg : ∀ i, qsz (pp (cz l) i) ≤ S := pp_qsz (ZI.cz l) (Fin_.cz l) hs
 have hnm := fun W (x : Ext w W) => normal_zp _ l W (HV.out.ext x) (by omega)
 have hpr : ∀ W u, IsZP 0 W u (cz l) → Calls Tryz.prog 14 #[u] W (Gives W fun r w' => IsZP W.heap.size w' r (pp (cz l))) := fun W u hu =>
  primitive_p u _ W hu (fun i => by have := hs i; omega) (by omega)
 have hl1 : ∀ W u, IsZP 0 W u (cz l) → Calls Tryz.prog 76 #[u] W (Gives W fun r w' => IsZ w' r (ld (cz l)).num) := fun W u hu => lead_z u 0 (cz l) W hu h0
 have hl2 : ∀ W u, IsZP 0 W u (pp (cz l)) → Calls Tryz.prog 76 #[u] W (Gives W fun r w' => IsZ w' r (ld (pp (cz l))).num) := fun W u hu => lead_z u 0 _ W hu hg.n
 have hex : ∀ W u z, IsZ W u (ld (cz l)).num → IsZ W z (ld (pp (cz l))).num → Calls Tryz.prog 62 #[u, z] W (Gives W fun r w' => TupE w' r (pcn (cz l)) 0) := fun W u z hu hz => by
  obtain ⟨q1, q2, q3⟩ := pcn_quot (ZI.cz l) (Fin_.cz l) h0
  have b1 := qz_num (hs (pl (cz l) - 1))
  have b2 := qz_num (hsg (pl (pp (cz l)) - 1))
  rw [← q3]
  exact exact_e u z _ _ W (hu.has (by show sz (cz l (pl (cz l) - 1)).num.natAbs ≤ _; omega)) (hz.has (by show sz (pp (cz l) (pl (pp (cz l)) - 1)).num.natAbs ≤ _; omega)) q1 q2
 have hde : ∀ W u, IsZP 0 W u (pp (cz l)) → Calls Tryz.prog 42 #[u] W (Gives W fun r w' => IsZP 0 w' r (pd (pp (cz l)))) := fun W u hu => by
  obtain ⟨m, g1, g2, -, g4⟩ := hu.hz (fun i => by have := hsg i; omega)
  rw [← g4]
  exact Gives.imp (zderivative_p _ m W g1 (by omega)) fun _ _ h => h.base_le (Nat.zero_le _)
 have hpd : pl (pd (pp (cz l))) ≤ n - 1 := by rw [pl_pd hg.f]; omega
 have hg1 : ∀ W u z, IsZP 0 W u (pp (cz l)) → IsZP 0 W z (pd (pp (cz l))) → Calls Tryz.prog 44 #[u, z] W (Gives W fun r w' => IsZP 0 w' r (yc (pp (cz l)))) := fun W u z hu hz => by
  have e : 2 ^ (pl (pp (cz l)) + pl (pd (pp (cz l)))) ≤ 2 ^ (n + (n - 1)) := Nat.pow_le_pow_right (by decide) (by omega)
  have e2 : (S + 1) * 2 ^ (pl (pp (cz l)) + pl (pd (pp (cz l)))) ≤ (S + 1) * 2 ^ (n + (n - 1)) := Nat.mul_le_mul_left _ e
  have e3 : (pl (pp (cz l)) + pl (pd (pp (cz l))) + 1) * (M + 1) ≤ (n + (n - 1) + 1) * (M + 1) := Nat.mul_le_mul_right _ (by omega)
  exact zgcd_p u z _ _ S M W hu hz hsg hd (by omega) (by omega) (by omega) (by omega)
 have hroom := yw_room hg (by omega) hn hsg hS
 obtain ⟨hC, hW, eg, dC, -⟩ := yc_pos hg
 have hd1 : ∀ W u z, IsZP 0 W u (pp (cz l)) → IsZP 0 W z (yc (pp (cz l))) → Calls Tryz.prog 30 #[u, z] W (Gives W fun r w' => ∃ q, r = .tuple #[q, .int .i64 0] ∧ IsZP 0 w' q (y0 (pp (cz l)))) := fun W u z hu hz => by
  have := (hroom 0).2.1
  have e3 : (pl (pp (cz l)) + 2) * (36000 + 1) ≤ 18 * 36001 := Nat.mul_le_mul_right _ (by omega)
  refine Gives.imp (zdivide_p u z _ _ S 36000 W hu hz hsg this (by omega) (by have := (hroom 0).2.2; have : pl (yw (y0 (pp (cz l))) (yc (pp (cz l))) 0).2 = pl (yc (pp (cz l))) := rfl; omega) hC.n (by omega)) fun r w' hr => ?_
  obtain ⟨q, e1, e2⟩ := hr.1 dC
  exact ⟨q, e1, e2.base_le (Nat.zero_le _)⟩
 have hG2 : ∀ k W a b, IsZP 0 W a (yw (y0 (pp (cz l))) (yc (pp (cz l))) k).1 → IsZP 0 W b (yw (y0 (pp (cz l))) (yc (pp (cz l))) k).2 → Calls Tryz.prog 44 #[a, b] W (Gives W fun r w' => IsZP 0 w' r (yw (y0 (pp (cz l))) (yc (pp (cz l))) (k + 1)).1) := fun k W a b ha hb => by
  obtain ⟨r1, r2, r3⟩ := hroom k
  have e : 2 ^ (pl (yw (y0 (pp (cz l))) (yc (pp (cz l))) k).1 + pl (yw (y0 (pp (cz l))) (yc (pp (cz l))) k).2) ≤ 2 ^ 17 := Nat.pow_le_pow_right (by decide) (by omega)
  have e3 : (pl (yw (y0 (pp (cz l))) (yc (pp (cz l))) k).1 + pl (yw (y0 (pp (cz l))) (yc (pp (cz l))) k).2 + 1) * (4718723072 + 1) ≤ 18 * (4718723072 + 1) := Nat.mul_le_mul_right _ (by omega)
  exact zgcd_p a b _ _ 36000 4718723072 W ha hb r1 r2 (by omega) (by omega) (by omega) (by omega)
 have hDv : ∀ (A B : Nat → Rat) W a b, (∀ i, qsz (A i) ≤ 36000) → (∀ i, qsz (B i) ≤ 36000) → pl A ≤ 17 → pl B ≤ 17 → B ≠ pz → Zdv A B → IsZP 0 W a A → IsZP 0 W b B → Calls Tryz.prog 30 #[a, b] W (Gives W fun r w' => ∃ q, r = .tuple #[q, .int .i64 0] ∧ IsZP 0 w' q (pq A B)) := fun A B W a b qa qb la lb nb dv ha hb => by
  have e3 : (pl A + 2) * (36000 + 1) ≤ 19 * 36001 := Nat.mul_le_mul_right _ (by omega)
  refine Gives.imp (zdivide_p a b _ _ 36000 36000 W ha hb qa qb (by omega) (by omega) nb (by omega)) fun r w' hr => ?_
  obtain ⟨q, e1, e2⟩ := hr.1 dv
  exact ⟨q, e1, e2.base_le (Nat.zero_le _)⟩
 have hD2 : ∀ k W a b, IsZP 0 W a (yw (y0 (pp (cz l))) (yc (pp (cz l))) k).1 → IsZP 0 W b (yw (y0 (pp (cz l))) (yc (pp (cz l))) (k + 1)).1 → Calls Tryz.prog 30 #[a, b] W (Gives W fun r w' => ∃ q, r = .tuple #[q, .int .i64 0] ∧ IsZP 0 w' q (ya (y0 (pp (cz l))) (yc (pp (cz l))) k)) := fun k W a b ha hb => by
  obtain ⟨r1, r2, r3⟩ := hroom k
  obtain ⟨s1, s2, s3⟩ := hroom (k + 1)
  obtain ⟨-, -, -, dv, -⟩ := yw_eq hW hC k
  exact hDv (yw (y0 (pp (cz l))) (yc (pp (cz l))) k).1 (yw (y0 (pp (cz l))) (yc (pp (cz l))) (k + 1)).1 W a b r1 s1 (by omega) (by omega) (yw_pos hW hC (k + 1)).1.n dv ha hb
 have hD3 : ∀ k W a b, IsZP 0 W a (yw (y0 (pp (cz l))) (yc (pp (cz l))) k).2 → IsZP 0 W b (yw (y0 (pp (cz l))) (yc (pp (cz l))) (k + 1)).1 → Calls Tryz.prog 30 #[a, b] W (Gives W fun r w' => ∃ q, r = .tuple #[q, .int .i64 0] ∧ IsZP 0 w' q (yw (y0 (pp (cz l))) (yc (pp (cz l))) (k + 1)).2) := fun k W a b ha hb => by
  obtain ⟨r1, r2, r3⟩ := hroom k
  obtain ⟨s1, s2, s3⟩ := hroom (k + 1)
  obtain ⟨-, -, -, -, dv⟩ := yw_eq hW hC k
  exact hDv (yw (y0 (pp (cz l))) (yc (pp (cz l))) k).2 (yw (y0 (pp (cz l))) (yc (pp (cz l))) (k + 1)).1 W a b r2 s1 (by omega) (by omega) (yw_pos hW hC (k + 1)).1.n dv ha hb
 have hlow := fun k (hk : ∀ j, j ≤ k → 1 < pl (yw (y0 (pp (cz l))) (yc (pp (cz l))) j).1) => yw_low hW hC k hk
 have hyc : pl (yc (pp (cz l))) ≤ 17 := by have := (hroom 0).2.2; have : pl (yw (y0 (pp (cz l))) (yc (pp (cz l))) 0).2 = pl (yc (pp (cz l))) := rfl; omega
 have hlw : ∀ k, pl (yw (y0 (pp (cz l))) (yc (pp (cz l))) k).1 ≤ 17 := fun k => by have := (hroom k).2.2; omega
 obtain ⟨F, hF⟩ : ∃ F, F = cz l := ⟨_, rfl⟩
 obtain ⟨g, hgg⟩ : ∃ g, g = pp F := ⟨_, rfl⟩
 have hpf := pl_pos (Fin_.cz l) h0
 simp only [← hF] at hnm hpr hl1 hl2 hex hde hg1 hd1 hG2 hD2 hD3 hlow hyc hg hpf hp hlw ⊢
 simp only [← hgg] at hpr hl2 hex hde hg1 hd1 hG2 hD2 hD3 hlow hyc hg hlw
 have HC := Lib.hid (And.intro hnm (And.intro hpr (And.intro hl1 (And.intro hl2 (And.intro hex (And.intro hde (And.intro hg1 hd1)))))))
 have HD := Lib.hid (And.intro hG2 (And.intro hD2 hD3))
 have HP := Lib.hid hg
 have HL := Lib.hid (And.intro hlow (And.intro hyc hlw))
 have HGG := Lib.hid hgg
 clear hnm hpr hl1 hl2 hex hde hg1 hd1 hG2 hD2 hD3 hDv hlow hyc hlw hroom hC hW eg dC hg hpd hpg hsg hs hd hS hM hB h0 HV hF hgg hl
 go_enter Tryz.func52, Tryz.ntmps52
 have ez := Box.new w 28 #[.bool false, .slice none 0 0] (by simp [isDig])
 have hx := (Ext.refl w).alloc (.cells #[.bool false, .slice none 0 0] 28)
 go_upto_region 1 with (fail)
 generalize w.alloc (.cells #[.bool false, .slice none 0 0] 28) = w0 at *
 go_wp2_with fail
 refine Calls.mono (HC.out.1 _ hx) ?_
 rintro e w1 ⟨r1, rfl, hr1, hx1⟩
 obtain ⟨A1, c1, rfl, -⟩ := hr1.shape
 have Hr := Lib.hid (hr1.base_le (b := 0) (Nat.zero_le _))
 replace ez := ez.ext hx1
 replace hx := hx.trans hx1
 clear hx1 hr1
 go_wp2_with fail
 refine Calls.mono (HC.out.2.1 _ _ Hr.out) ?_
 rintro e w2 ⟨r2, rfl, hr2, hx2⟩
 obtain ⟨A2, c2, rfl, -⟩ := hr2.shape
 have Hr2 := Lib.hid (And.intro (Hr.out.ext hx2) (hr2.base_le (b := w.heap.size + 1) ez.lt))
 replace ez := ez.ext hx2
 replace hx := hx.trans hx2
 clear hx2 hr2 Hr
 go_wp2_with fail
 refine Calls.mono (HC.out.2.2.1 _ _ Hr2.out.1) ?_
 rintro e w3 ⟨r3, rfl, hr3, hx3⟩
 have Hr3 := Lib.hid (And.intro (Hr2.out.2.ext hx3) hr3)
 replace ez := ez.ext hx3
 replace hx := hx.trans hx3
 clear hx3 hr3 Hr2
 go_wp2_with fail
 refine Calls.mono (HC.out.2.2.2.1 _ _ (Hr3.out.1.base_le (Nat.zero_le _))) ?_
 rintro e w4 ⟨r4, rfl, hr4, hx4⟩
 have Hr4 := Lib.hid (And.intro (Hr3.out.1.ext hx4) (And.intro (Hr3.out.2.kd hx4.kd) hr4))
 replace ez := ez.ext hx4
 replace hx := hx.trans hx4
 clear hx4 hr4 Hr3
 go_wp2_with fail
 refine Calls.mono (HC.out.2.2.2.2.1 _ _ _ Hr4.out.2.1 Hr4.out.2.2) ?_
 rintro e w5 ⟨r5, rfl, ⟨a5, rfl, hr5⟩, hx5⟩
 obtain ⟨b7, A7, n7, c7, rfl⟩ := hr5.cells
 have hg5 := Hr4.out.1.ext hx5
 replace ez := ez.ext hx5
 replace hx := hx.trans hx5
 clear hx5 Hr4
 obtain ⟨cez0, cez1⟩ := ez.cells2
 have fez := ez.frozen
 go_upto_region 6 with (fail)
 have hr := hr5
 obtain ⟨W6, eW, ez', U⟩ := ez.put2 (.bool b7) (.slice A7 n7 c7) rfl rfl
 rw [← eW]
 have HG6 := Lib.hid ((hg5.off1 U).base_le (b := 0) (Nat.zero_le _))
 replace hr := hr.kd U.kd
 replace hx := U.from_ hx (by simp <;> omega)
 clear eW ez hg5
 have ez := ez'
 clear U ez'
 have Hrz := Lib.hid hr; clear hr hr5
 clear cez0 cez1 fez
 go_wp2_with fail
 refine Calls.mono (HC.out.2.2.2.2.2.1 _ _ HG6.out) ?_
 rintro e w7 ⟨r7, rfl, hr7, hx7⟩
 obtain ⟨A3, c3, rfl, -⟩ := hr7.shape
 have Hr7 := Lib.hid (And.intro (HG6.out.ext hx7) (And.intro hr7 (Hrz.out.kd hx7.kd)))
 replace ez := ez.ext hx7
 replace hx := hx.trans hx7
 clear hx7 hr7 HG6 Hrz
 go_wp2_with fail
 refine Calls.mono (HC.out.2.2.2.2.2.2.1 _ _ _ Hr7.out.1 Hr7.out.2.1) ?_
 rintro e w8 ⟨r8, rfl, hr8, hx8⟩
 obtain ⟨A4, c4, rfl, -⟩ := hr8.shape
 have Hr8 := Lib.hid (And.intro (Hr7.out.1.ext hx8) (And.intro hr8 (Hr7.out.2.2.kd hx8.kd)))
 replace ez := ez.ext hx8
 replace hx := hx.trans hx8
 clear hx8 hr8 Hr7
 go_wp2_with fail
 refine Calls.mono (HC.out.2.2.2.2.2.2.2 _ _ _ Hr8.out.1 Hr8.out.2.1) ?_
 rintro e w9 ⟨r9, rfl, ⟨q9, rfl, hq9⟩, hx9⟩
 obtain ⟨A5, c5, rfl, -⟩ := hq9.shape
 replace ez := ez.ext hx9
 replace hx := hx.trans hx9
 have Hs := Lib.hid (And.intro hq9 (And.intro (Hr8.out.2.1.ext hx9) (Hr8.out.2.2.kd hx9.kd)))
 clear hx9 hq9 Hr8
 have hbz : w.heap.size < w9.heap.size := ez.lt
 go_wp2
 go_loopw [3, 6, 7, 9] (fun lv rv sv ev wr => ∃ k us, Fac w9.heap.size 76 wr lv us (yl (y0 g) (yc g) k) ∧ IsZP 0 wr rv (yw (y0 g) (yc g) k).2 ∧ IsZP 0 wr sv (yw (y0 g) (yc g) k).1 ∧ ev = .int .i64 ((k : Int) + 1) ∧ (∀ j, j < k → 1 < pl (yw (y0 g) (yc g) j).1) ∧ Ext w9 wr ∧
   Box wr w.heap.size 28 #[.bool b7, .slice A7 n7 c7] ∧ IsZ wr (.agg #[.bool b7, .slice A7 n7 c7]) (pcn F) ∧ Ext w wr) (fun _ rv sv _ _ => lenV rv + lenV sv)
 case atStart => exact ⟨0, [], Fac.nil _ _ _, Hs.out.2.1, Hs.out.1, by go_num, fun j hj => by omega, Ext.refl _, ez, Hs.out.2.2, hx⟩
 case round =>
  clear ez hx Hs
  obtain ⟨k, us, hFac, hrep, hsim, rfl, hK, hsz, ez, hrz, hx⟩ := hrel
  obtain ⟨L, d, rfl⟩ := hFac.shape
  obtain ⟨A2, c2, rfl, -⟩ := hrep.shape
  obtain ⟨A3, c3, rfl, -⟩ := hsim.shape
  have HK := Lib.hid hK; clear hK
  have Hf := Lib.hid (And.intro hFac (And.intro hrep (And.intro hsim hrz))); clear hFac hrep hsim hrz
  by_cases h1 : 1 < pl (yw (y0 g) (yc g) k).1
  ·have hk17 : k ≤ 17 := by
    have := HL.out.1 k fun j hj => by
     rcases Nat.lt_or_ge j k with a | a
     ·exact HK.out j a
     ·obtain rfl : j = k := by omega
      exact h1
    have := HL.out.2.1
    omega
   have hlk : (yl (y0 g) (yc g) k).length ≤ k := yl_len _ _ k
   go_wp2_with fail
   refine Calls.mono (HD.out.1 k _ _ _ Hf.out.2.2.1 Hf.out.2.1) ?_
   rintro e w4 ⟨r4, rfl, hr4, hx4⟩
   obtain ⟨A6, c6, rfl, -⟩ := hr4.shape
   have Hf4 := Lib.hid (And.intro (Hf.out.1.ext hx4) (And.intro (Hf.out.2.1.ext hx4) (And.intro (Hf.out.2.2.1.ext hx4) (And.intro (Hf.out.2.2.2.kd hx4.kd) hr4))))
   replace ez := ez.ext hx4
   replace hx := hx.trans hx4
   have hsz4 := hsz.trans hx4
   clear hx4 hr4 Hf hsz
   go_wp2_with fail
   refine Calls.mono (HD.out.2.1 k _ _ _ Hf4.out.2.2.1 Hf4.out.2.2.2.2) ?_
   rintro e w5 ⟨r5, rfl, ⟨q5, rfl, hq5⟩, hx5⟩
   obtain ⟨A7, c7, rfl, -⟩ := hq5.shape
   have hFac := Hf4.out.1.ext hx5
   have hrep := Hf4.out.2.1.ext hx5
   have hm := Hf4.out.2.2.2.2.ext hx5
   have HZr := Lib.hid (Hf4.out.2.2.2.1.kd hx5.kd)
   replace ez := ez.ext hx5
   replace hx := hx.trans hx5
   have hsz := hsz4.trans hx5
   clear hx5 Hf4 hsz4
   by_cases h2 : 1 < pl (ya (y0 g) (yc g) k)
   ·have Hm := Lib.hid (And.intro hFac (And.intro hrep (And.intro hm hq5))); clear hFac hrep hm hq5
    have hbl := Hm.out.1.out.blk_ge
    have Hbl := Lib.hid hbl; clear hbl
    go_wp2_with (at_builtin; refine wpList_append_run rfl _ _ 69 rfl (.slice L (yl (y0 g) (yc g) k).length d) (.slice (some ⟨w5.heap.size, 0, none⟩) 1 1) rfl rfl (append_fac w5 _ w9.heap.size _ _ _ (k + 1) _ us _ _ _ _ Hm.out.1 Hm.out.2.2.2 (by first | rfl | (push_cast; rfl) | omega) rfl (by omega) hsz.size) ?_)
    intro v' w6 hF6 U hN
    have xa := (Ext.refl w5).alloc (.cells #[.slice A7 (pl (ya (y0 g) (yc g) k)) c7, .int .i64 ((k : Int) + 1)] 76)
    have hFac : Fac w9.heap.size 76 w6 v' (us ++ [(.slice A7 (pl (ya (y0 g) (yc g) k)) c7, k + 1)]) (yl (y0 g) (yc g) (k + 1)) := by
     rw [yl, if_pos h2]; exact hF6
    have hrep := (Hm.out.2.1.ext xa).updB U hN
    have hm := (Hm.out.2.2.1.ext xa).updB U hN
    have HZ6 := Lib.hid ((HZr.out.kd xa.kd).kd U.kd)
    replace ez := (ez.ext xa).upd U (fun hg => by have := (Hbl.out _ hg).1; omega)
    replace hx := U.from_ (hx.trans xa) (fun g' hg => by have := (Hbl.out _ hg).1; have := hx.size; omega)
    replace hsz := U.from_ (hsz.trans xa) (fun g' hg => (Hbl.out _ hg).1)
    clear hF6 U hN xa Hm Hbl HZr
    have HZr := Lib.hid HZ6.out; clear HZ6
    have Hm := Lib.hid (And.intro hm (And.intro hrep hFac)); clear hm hrep hFac
    go_wp2_with fail
    refine Calls.mono (HD.out.2.2 k _ _ _ Hm.out.2.1 Hm.out.1) ?_
    rintro e w8 ⟨r8, rfl, ⟨q8, rfl, hq8⟩, hx8⟩
    obtain ⟨A8, c8, rfl, -⟩ := hq8.shape
    replace ez := ez.ext hx8
    replace hx := hx.trans hx8
    have hF8 := Hm.out.2.2.ext hx8
    have hm8 := Hm.out.1.ext hx8
    have Hq := Lib.hid (And.intro hq8 (And.intro hm8 hF8))
    have HZ8 := Lib.hid (HZr.out.kd hx8.kd)
    replace hsz := hsz.trans hx8
    clear hx8 hq8 hm8 hF8 Hm
    go_wp2
    go_roundw
    case rel => exact ⟨k + 1, _, Hq.out.2.2, Hq.out.1, Hq.out.2.1, by go_num, fun j hj => by
     rcases Nat.lt_or_ge j k with a | a
     ·exact HK.out j a
     ·obtain rfl : j = k := by omega
      exact h1, hsz, ez, HZ8.out, hx⟩
    case measure =>
     have := yw_meas HP.out h1
     simp only [lenV]
     omega
   ·have hFac : Fac w9.heap.size 76 w5 (.slice L (yl (y0 g) (yc g) k).length d) us (yl (y0 g) (yc g) (k + 1)) := by
     rw [yl, if_neg h2, List.append_nil]; exact hFac
    have Hm := Lib.hid (And.intro hm (And.intro hrep hFac)); clear hm hrep hFac
    go_wp2_with fail
    refine Calls.mono (HD.out.2.2 k _ _ _ Hm.out.2.1 Hm.out.1) ?_
    rintro e w8 ⟨r8, rfl, ⟨q8, rfl, hq8⟩, hx8⟩
    obtain ⟨A8, c8, rfl, -⟩ := hq8.shape
    replace ez := ez.ext hx8
    replace hx := hx.trans hx8
    have hF8 := Hm.out.2.2.ext hx8
    have hm8 := Hm.out.1.ext hx8
    have Hq := Lib.hid (And.intro hq8 (And.intro hm8 hF8))
    have HZ8 := Lib.hid (HZr.out.kd hx8.kd)
    replace hsz := hsz.trans hx8
    clear hx8 hq8 hm8 hF8 Hm
    go_wp2
    go_roundw
    case rel => exact ⟨k + 1, _, Hq.out.2.2, Hq.out.1, Hq.out.2.1, by go_num, fun j hj => by
     rcases Nat.lt_or_ge j k with a | a
     ·exact HK.out j a
     ·obtain rfl : j = k := by omega
      exact h1, hsz, ez, HZ8.out, hx⟩
    case measure =>
     have := yw_meas HP.out h1
     simp only [lenV]
     omega
  ·have hSK : SqK g k := ⟨by omega, HK.out⟩
   have HS := Lib.hid hSK; clear hSK
   obtain ⟨cez0, cez1⟩ := ez.cells2
   have fez := ez.frozen
   go_wp2
   obtain ⟨W9, eW, ez', U⟩ := ez.put2 (.bool b7) (.slice A7 n7 c7) rfl rfl
   rw [← eW]
   have hF9 := Hf.out.1.upd2 (fun p hp => (yl_pos1 HP.out k p hp).2.1) ez hbz U
   have hr9 := Hf.out.2.2.2.kd U.kd
   replace hx := U.from_ hx (by simp <;> omega)
   clear eW ez cez0 cez1 fez
   have ez := ez'
   obtain ⟨cez0, cez1⟩ := ez.cells2
   have fez := ez.frozen
   refine bodyPost_ret (v := .tuple #[.agg #[.bool b7, .slice A7 n7 c7], .slice L (yl (y0 g) (yc g) k).length d, .int .i64 0]) (by simp [results, Tryz.results52, go_sem, cez0, cez1]) rfl ?_
   have hgg := HGG.out
   subst hgg
   exact Gives.mk ⟨_, _, us, k, rfl, hr9, HS.out, hF9.base_le (Nat.le_of_lt hbz)⟩ hx
end Go.Proofs.YtfacbpnegkjcgaaGreatDoor
namespace Go.Hp
open Go
section
variable {P : Program} {ops : Array Oper} {Q : Exit → Act → World → Prop} {a0 : Act} {W0 : World}
 {k ℓ : Nat} {D : List Nat} {T : List (List Nat)} {EK : List Nat} {EV : List Value} {V : (Nat → Value) → Nat → Value} {F : Nat → (Nat → Value) → World → Prop}
theorem wpAny_para (nl : Nat) (c : Cert ops k D T EK ℓ) (hℓ : ℓ < k ∨ ops.size ≤ ℓ) (hgt : ∀ i o, k ≤ i → ops[i]? = some o → ℓ < k → o.guard = none) (hnl : ℓ < k → ∀ i, k + nl ≤ i → i < ops.size → ℓ ∈ T.getD i []) (hE : EAll a0 EK EV) (hD : ∀ d ∈ D, d < a0.tmps.size) (hmono : ∀ i γ w w', i < k → Ext w w' → F i γ w → F i γ w')
  (hstep : ∀ i, i < k → StepOk P ops EK EV W0 D T V F i)
  (htail : ∀ γ w, Ext W0 w → (∀ i, i < k → F i (mask (i :: T.getD i []) γ) w) → (∀ i j, i < k → j < k → i ≠ j → isNew ops i → isNew ops j → pvals T V γ i ≠ pvals T V γ j) → wpList P ops Q (ops.toList.drop k) (fillAll a0 (pvals T V γ) 0 D) w)
  (hlate : ∀ e, ops[ℓ]? = some e → ∀ γ w, Ext W0 w → (∀ i, i < k → i ≠ ℓ → F i (mask (i :: T.getD i []) γ) w) → (∀ i j, i < k → j < k → i ≠ j → i ≠ ℓ → j ≠ ℓ → isNew ops i → isNew ops j → pvals T V γ i ≠ pvals T V γ j) → lateP P ops Q e nl (ops.toList.drop k) ((fillAll a0 (pvals T V γ) 0 D).put (some (D.getD ℓ 0)) (a0.tmps.getD (D.getD ℓ 0) undef)) w) :
  ∀ (fuel : Nat) (γ : Nat → Value) (L : Array Bool) (a : Act) (w : World), (List.range ops.size).countP (fun i => !L.getD i false) ≤ fuel → PInv ops a0 W0 k D T V F γ L a w → wpAny P .any ops Q fuel L a w := by
 intro fuel
 induction fuel with
 | zero =>
  intro γ L a w hf h
  have hall : ∀ i, i < ops.size → L.getD i false = true := by
   intro i hi
   have := List.countP_eq_zero.1 (Nat.le_zero.1 hf) i (List.mem_range.2 hi)
   simpa using this
  have hks : k = ops.size := by
   rcases Nat.lt_or_ge k ops.size with hlt | hge
   ·have h1 := hall k hlt
    rw [h.low k (Nat.le_refl _)] at h1; cases h1
   ·exact Nat.le_antisymm c.hk hge
  have ha : a = fillAll a0 (pvals T V γ) 0 D := frame_eq c hD h (fun i hi => hall i (Nat.lt_of_lt_of_le hi c.hk))
  rw [ha]
  exact wpAny_tail c (by omega) 0 k 0 L _ w (by omega) (Nat.le_refl _) (Nat.le_refl _) h.size (fun j hj => hall j (by omega)) (fun j hj => h.low j hj) (htail γ w h.ext (fun i hi => h.facts i hi (hall i (by omega))) fun i j hi hj hne => h.apart i j hi hj hne (hall i (by omega)) (hall j (by omega)))
 | succ fuel ih =>
  intro γ L a w hf h
  by_cases hall : ∀ i, i < k → L.getD i false = true
  ·have ha : a = fillAll a0 (pvals T V γ) 0 D := frame_eq c hD h hall
   have hcount : ops.size - k ≤ fuel + 1 := by
    refine Nat.le_trans ?_ hf
    have : (List.range' k (ops.size - k)).countP (fun i => !L.getD i false) = ops.size - k := by
     have h1 : (List.range' k (ops.size - k)).countP (fun i => !L.getD i false) = (List.range' k (ops.size - k)).length := by
      rw [List.countP_eq_length]
      intro i hi
      rw [List.mem_range'_1] at hi
      simp [h.low i hi.1]
     rw [h1, List.length_range']
    rw [← this]
    have hsub : (List.range' k (ops.size - k)).Sublist (List.range ops.size) := by
     rw [range_split ops.size k c.hk]
     exact List.sublist_append_right _ _
    exact hsub.countP_le
   rw [ha]
   exact wpAny_tail c (by have := c.hk; omega) (ops.size - k) k (fuel + 1) L _ w (by have := c.hk; omega) hcount (Nat.le_refl _) h.size hall (fun j hj => h.low j hj) (htail γ w h.ext (fun i hi => h.facts i hi (hall i hi)) fun i j hi hj hne => h.apart i j hi hj hne (hall i hi) (hall j hj))
  ·have hun : ∀ j, j < ops.size → L.getD j true = L.getD j false := fun j hj => by
    rw [Array.getD_eq_getD_getElem?, Array.getD_eq_getD_getElem?, Array.getElem?_eq_getElem (by rw [h.size]; exact hj)]; rfl
   by_cases hlc : ℓ < k ∧ ∀ i, i < k → i ≠ ℓ → L.getD i false = true
   ·obtain ⟨hlk, hll⟩ := hlc
    have hll0 : L.getD ℓ false = false := by
     cases hx : L.getD ℓ false with
     | false => rfl
     | true => exact absurd (fun i hi => by
       by_cases e : i = ℓ
       ·rw [e]; exact hx
       ·exact hll i hi e) hall
    have ha := frame_late c hD hlk h hll hll0
    have hls : ℓ < ops.size := by have := c.hk; omega
    have hlo : ops[ℓ]? = some ops[ℓ] := Array.getElem?_eq_getElem hls
    have hcount : ops.size - k + 1 ≤ fuel + 1 := by
     refine Nat.le_trans ?_ hf
     have h1 : (List.range' k (ops.size - k)).countP (fun i => !L.getD i false) = ops.size - k := by
      have h1 : (List.range' k (ops.size - k)).countP (fun i => !L.getD i false) = (List.range' k (ops.size - k)).length := by
       rw [List.countP_eq_length]
       intro i hi
       rw [List.mem_range'_1] at hi
       simp [h.low i hi.1]
      rw [h1, List.length_range']
     have h2 : 0 < (List.range k).countP (fun i => !L.getD i false) := List.countP_pos_iff.2 ⟨ℓ, List.mem_range.2 hlk, by rw [hll0]; rfl⟩
     rw [range_split ops.size k c.hk, List.countP_append, h1]
     omega
    have hed : ∀ e ∈ (ops[ℓ]).after, Region.binds .any e = true → L.getD e.on false = true := fun e he hb => hll _ (by have := c.edges ℓ _ hlo e he hb; omega) (by have := c.edges ℓ _ hlo e he hb; omega)
    have hT := c.up h.closed ℓ _ hlo hed
    have hs := hstep ℓ hlk γ w h.ext (fun j hj => h.facts j (by
     have hjl := hT j hj
     rcases Nat.lt_or_ge j k with hlt | hge
     ·exact hlt
     ·rw [h.low j hge] at hjl; cases hjl) (hT j hj))
    rw [hlo] at hs
    obtain ⟨hg, hu⟩ := hs
    have hfirst : wpList P ops Q (ops[ℓ] :: ops.toList.drop k) a w := by
     show if _ then _ else _
     rw [if_pos (wanted_of_inv c h hlk hlo hT hg)]
     refine .inl (UponV.wp (upon_new hu) (eval_of_inv c hE h hlk hlo hT) fun v w' hvw => ?_)
     obtain ⟨⟨q1, q2, q3⟩, q4⟩ := hvw
     have h' := inv_step c hD hmono h hlk hlo hll0 hed q1 q2 q3 q4
     have hsz : ℓ < L.size := by rw [h.size]; exact hls
     have hall' : ∀ i, i < k → (L.setIfInBounds ℓ true).getD i false = true := fun i hi => by
      rw [getD_set hsz]
      split
      ·rfl
      ·rename_i e; exact hll i hi (fun e' => e e'.symm)
     rw [frame_eq c hD h' hall']
     exact htail _ _ h'.ext (fun i hi => h'.facts i hi (hall' i hi)) fun i j hi hj hne => h'.apart i j hi hj hne (hall' i hi) (hall' j hj)
    refine wpAny_late c hlk (fun i o hki hio => hgt i o hki hio hlk) hlo (ops.size - k) k (fuel + 1) nl L a w (by have := c.hk; omega) hcount (Nat.le_refl _) h.size (fun j hj hne => hll j hj hne) hll0 (fun j hj => h.low j hj) (hnl hlk) h.closed ⟨hfirst, ?_⟩
    rw [ha]
    exact hlate _ hlo γ w h.ext (fun i hi hne => h.facts i hi (hll i hi hne)) fun i j hi hj hne hil hjl hn hm => h.apart i j hi hj hne (hll i hi hil) (hll j hj hjl) hn hm
   -- the least that is not listed may come up
   have hex : ∃ i, i < k ∧ L.getD i false = false ∧ ∀ j, j < i → L.getD j false = true := by
    have : ∃ i, i < k ∧ L.getD i false = false := by
     obtain ⟨i, hi⟩ := Classical.not_forall.1 hall
     obtain ⟨hi, hl⟩ := Classical.not_imp.1 hi
     exact ⟨i, hi, by simpa using hl⟩
    obtain ⟨i, hi, hl⟩ := this
    induction i using Nat.strongRecOn with
    | _ i ihi =>
     by_cases hj : ∃ j, j < i ∧ L.getD j false = false
     ·obtain ⟨j, hji, hjl⟩ := hj
      exact ihi j hji (by omega) hjl
     ·refine ⟨i, hi, hl, fun j hji => ?_⟩
      cases hjl : L.getD j false with
      | true => rfl
      | false => exact absurd ⟨j, hji, hjl⟩ hj
   obtain ⟨i0, hi0, hl0, hlow0⟩ := hex
   have hi0s : i0 < ops.size := Nat.lt_of_lt_of_le hi0 c.hk
   have hi0o : ops[i0]? = some ops[i0] := Array.getElem?_eq_getElem hi0s
   have hr0 : i0 ∈ Region.ready .any ops L := mem_ready.2 ⟨hi0s, by rw [hun i0 hi0s]; exact hl0, _, hi0o, fun e he hb => hlow0 _ (c.edges i0 _ hi0o e he hb)⟩
   refine ⟨fun h0 => (by rw [h0] at hr0; cases hr0), fun i hi => ?_⟩
   obtain ⟨h1, h2, o, ho, he⟩ := mem_ready.1 hi
   rw [hun i h1] at h2
   have hT := c.up h.closed i o ho he
   have hik : i < k := by
    rcases Nat.lt_or_ge i k with hlt | hge
    ·exact hlt
    ·have := hT i0 (c.tail i hge h1 i0 (by omega) (by
      rintro rfl
      refine hlc ⟨hi0, fun j hj hne => ?_⟩
      have hjT := c.tail i hge h1 j (by omega) hne
      exact hT j hjT))
     rw [hl0] at this; cases this
   have hs := hstep i hik γ w h.ext (fun j hj => h.facts j (by
    have hjl := hT j hj
    rcases Nat.lt_or_ge j k with hlt | hge
    ·exact hlt
    ·rw [h.low j hge] at hjl; cases hjl) (hT j hj))
   rw [ho] at hs
   obtain ⟨hg, hu⟩ := hs
   unfold wpOp
   rw [ho]
   show if _ then _ else _
   rw [if_pos (wanted_of_inv c h hik ho hT hg)]
   refine .inl (UponV.wp (upon_new hu) (eval_of_inv c hE h hik ho hT) fun v w' hvw => ?_)
   obtain ⟨⟨q1, q2, q3⟩, q4⟩ := hvw
   refine ih (upd γ i v) _ _ w' ?_ (inv_step c hD hmono h hik ho h2 he q1 q2 q3 q4)
   have hiL : i < L.size := by rw [h.size]; exact h1
   have hlt : (List.range ops.size).countP (fun j => !(L.setIfInBounds i true).getD j false) < (List.range ops.size).countP (fun j => !L.getD j false) := by
    have hle : ∀ (l : List Nat), l.countP (fun j => !(L.setIfInBounds i true).getD j false) ≤ l.countP (fun j => !L.getD j false) := fun l =>
     List.countP_mono_left fun j _ hj => by
      rw [getD_set hiL] at hj
      split at hj
      ·simp at hj
      ·exact hj
    have hspl : List.range ops.size = List.range i ++ i :: List.range' (i + 1) (ops.size - i - 1) := by
     rw [range_split ops.size i (by omega), show ops.size - i = (ops.size - i - 1) + 1 from by omega, List.range'_succ]
     simp
    rw [hspl, List.countP_append, List.countP_append, List.countP_cons, List.countP_cons]
    have a1 := hle (List.range i)
    have a2 := hle (List.range' (i + 1) (ops.size - i - 1))
    rw [getD_set hiL, if_pos rfl, h2]
    simp only [Bool.not_true, Bool.not_false, if_true, Bool.false_eq_true, if_false]
    omega
   omega
theorem wp_region_gena {id : Nat} (k ℓ nl : Nat) (D : List Nat) (T : List (List Nat)) (EK : List Nat) (EV : List Value) (VL : List ((Nat → Value) → Value)) (FL : (Nat → Value) → World → List Prop)
  (hE : EAll a0 EK EV) (hm : P.follows .mixedOrders = true) (hc : parOk ops k D T EK ℓ = true) (hℓ : ℓ < k ∨ ops.size ≤ ℓ) (hgt : ℓ < k → (ops.toList.drop k).all (fun o => o.guard.isNone) = true) (hnl : ℓ < k → ∀ i, k + nl ≤ i → i < ops.size → ℓ ∈ T.getD i []) (hD : D.all (fun d => Nat.blt d a0.tmps.size) = true)
  (hT : (List.range k).all (fun i => (T.getD i []).all fun j => Nat.blt j i && (T.getD j []).all fun m => (T.getD i []).contains m) = true)
  (hloc : Each k (Local T VL FL))
  (hmono : Each k fun i => ∀ γ w w', Ext w w' → gF FL γ w i → gF FL γ w' i)
  (hstep : Each k (StepTo P ops EK EV W0 D T VL FL))
  (htail : ∀ γ w, Ext W0 w → Each k (fun i => gF FL γ w i) → (∀ i j, i < k → j < k → i ≠ j → isNew ops i → isNew ops j → gV VL γ i ≠ gV VL γ j) → wpList P ops Q (ops.toList.drop k) (fillAll a0 (gV VL γ) 0 D) w)
  (hlate : ∀ e, ops[ℓ]? = some e → ∀ γ w, Ext W0 w → Each k (fun i => i = ℓ ∨ gF FL γ w i) → (∀ i j, i < k → j < k → i ≠ j → i ≠ ℓ → j ≠ ℓ → isNew ops i → isNew ops j → gV VL γ i ≠ gV VL γ j) → lateP P ops Q e nl (ops.toList.drop k) ((fillAll a0 (gV VL γ) 0 D).put (some (D.getD ℓ 0)) (a0.tmps.getD (D.getD ℓ 0) undef)) w) :
  (Code.region id ops true).wp P Q a0 W0 := by
 have c := parOk_cert hc
 have hT' : ∀ i, i < k → ∀ j ∈ T.getD i [], j < i ∧ ∀ m ∈ T.getD j [], m ∈ T.getD i [] := fun i hi j hj => by
  have := List.all_eq_true.1 (List.all_eq_true.1 hT i (List.mem_range.2 hi)) j hj
  simp only [Bool.and_eq_true, Nat.blt_eq, List.all_eq_true] at this
  exact ⟨this.1, fun m hm => by simpa using this.2 m hm⟩
 have hF : ∀ i, (Array.replicate ops.size false).getD i false = false := fun i => by
  rw [Array.getD_eq_getD_getElem?, Array.getElem?_replicate]; split <;> rfl
 have msk : ∀ (l : List Nat) (γ : Nat → Value) j, l.contains j = true → mask l γ j = γ j := fun l γ j h => by unfold mask; rw [if_pos h]
 have lV : ∀ i, i < k → ∀ γ, gV VL (mask (i :: T.getD i []) γ) i = gV VL γ i := fun i hi γ => (hloc.get i hi _ _ fun j hj => msk _ γ j hj).1
 have lF : ∀ i, i < k → ∀ γ w, gF FL (mask (i :: T.getD i []) γ) w i = gF FL γ w i := fun i hi γ w => (hloc.get i hi _ _ fun j hj => msk _ γ j hj).2 w
 have pv : ∀ γ i, i < k → pvals T (fun γ i => gV VL γ i) γ i = gV VL γ i := fun γ i hi => lV i hi γ
 have pe : ∀ γ, peval EK EV D (pvals T (fun γ i => gV VL γ i) γ) = peval EK EV D (gV VL γ) := fun γ => by
  funext x
  cases x with
  | tmp t =>
   rw [peval_eq hE, peval_eq hE]
   cases hd : D.idxOf? t with
   | none => rfl
   | some j =>
    obtain ⟨hlt, _⟩ := List.findIdx?_eq_some_iff_getElem.1 (show D.findIdx? (· == t) = some j from hd)
    exact pv γ j (by rw [← c.hlen]; exact hlt)
  | const v => rfl
  | global g => rfl
  | func f => rfl
 refine wp_region_any hm ?_
 refine wpAny_para nl (W0 := W0) (V := fun γ i => gV VL γ i) (F := fun i γ w => gF FL γ w i) c hℓ (fun i o hki hio hlk => ?_) hnl hE (fun d hd => by simpa [Nat.blt_eq] using List.all_eq_true.1 hD d hd) (fun i γ w w' hi => hmono.get i hi γ w w') (fun i hi γ w he hf => ?_)
  (fun γ w he hf hap => ?_) (fun e heo γ w he hf hap => ?_) ops.size (fun _ => undef) _ _ _ ?_ ?_
 ·have hmem : o ∈ ops.toList.drop k := by
   refine List.mem_of_getElem? (i := i - k) ?_
   rw [List.getElem?_drop, show k + (i - k) = i from by omega]
   simpa using hio
  have := List.all_eq_true.1 (hgt hlk) o hmem
  simpa using this
 ·have hs := hstep.get i hi γ w he (fun j hj => by
   have h1 := hT' i hi j hj
   rw [← lF j (by omega) γ w]; exact hf j hj)
  cases ho : ops[i]? with
  | none => rw [ho] at hs; exact hs
  | some o =>
   rw [ho] at hs
   obtain ⟨h1, h2⟩ := hs
   refine ⟨?_, ?_⟩
   ·cases hg : o.guard with
    | none => trivial
    | some p =>
     obtain ⟨g, b⟩ := p
     rw [hg] at h1
     have := c.guard i o g b ho hi hg
     exact (pv γ g this.2).trans h1
   ·rw [pe]
    have e : (fun v w' => Ext w w' ∧ gV VL (mask (i :: T.getD i []) (upd γ i v)) i = v ∧ gF FL (mask (i :: T.getD i []) (upd γ i v)) w' i) = (fun v w' => Ext w w' ∧ gV VL (upd γ i v) i = v ∧ gF FL (upd γ i v) w' i) := by
     funext v w'
     rw [lV i hi, lF i hi]
    rw [e]
    exact h2 _ (fun v w' a b c => ⟨a, b, c⟩)
 ·have h1 := htail γ w he (each_of fun i hi => by rw [← lF i hi γ w]; exact hf i hi) fun i j hi hj hne a b => by
   have := hap i j hi hj hne a b
   rwa [pv γ i hi, pv γ j hj] at this
  have e : fillAll a0 (pvals T (fun γ i => gV VL γ i) γ) 0 D = fillAll a0 (gV VL γ) 0 D := by
   have key : ∀ (ds : List Nat) (i : Nat) (a : Act), i + ds.length ≤ k → fillAll a (pvals T (fun γ i => gV VL γ i) γ) i ds = fillAll a (gV VL γ) i ds := by
    intro ds
    induction ds with
    | nil => intro i a _; rfl
    | cons d ds ih =>
     intro i a hk
     simp only [List.length_cons] at hk
     show fillAll (a.put (some d) (pvals T (fun γ i => gV VL γ i) γ i)) _ (i + 1) ds = fillAll (a.put (some d) (gV VL γ i)) _ (i + 1) ds
     rw [pv γ i (by omega)]
     exact ih _ _ (by omega)
   exact key D 0 a0 (by rw [c.hlen]; omega)
  rw [e]
  exact h1
 ·have hℓs : ℓ < ops.size := (Array.getElem?_eq_some_iff.1 heo).1
  have hlk : ℓ < k := by omega
  have h1 := hlate e heo γ w he (each_of fun i hi => by
   by_cases e : i = ℓ
   ·exact .inl e
   ·right; rw [← lF i hi γ w]; exact hf i hi e) fun i j hi hj hne hil hjl a b => by
    have := hap i j hi hj hne hil hjl a b
    rwa [pv γ i hi, pv γ j hj] at this
  have e : fillAll a0 (pvals T (fun γ i => gV VL γ i) γ) 0 D = fillAll a0 (gV VL γ) 0 D := by
   have key : ∀ (ds : List Nat) (i : Nat) (a : Act), i + ds.length ≤ k → fillAll a (pvals T (fun γ i => gV VL γ i) γ) i ds = fillAll a (gV VL γ) i ds := by
    intro ds
    induction ds with
    | nil => intro i a _; rfl
    | cons d ds ih =>
     intro i a hk
     simp only [List.length_cons] at hk
     show fillAll (a.put (some d) (pvals T (fun γ i => gV VL γ i) γ i)) _ (i + 1) ds = fillAll (a.put (some d) (gV VL γ i)) _ (i + 1) ds
     rw [pv γ i (by omega)]
     exact ih _ _ (by omega)
   exact key _ 0 a0 (by rw [c.hlen]; omega)
  rw [e]
  exact h1
 ·exact Nat.le_trans List.countP_le_length (by simp)
 ·have hN : ∀ {p : Prop} i, (Array.replicate ops.size false).getD i false = true → p := fun i h => absurd ((hF i).symm.trans h) (by decide)
  exact ⟨by simp, fun i o h => hN i h, fun i _ => hF i, rfl, rfl, fun i _ h => hN i h, fun t _ => rfl, (Ext.refl W0).drew, fun i _ h => hN i h, fun i _ h => hN i h, fun i _ _ _ _ h => hN i h⟩
theorem wp_region_latea {id : Nat} (k ℓ nl : Nat) (D : List Nat) (T : List (List Nat)) (EK : List Nat) (EV : List Value) (VL : List ((Nat → Value) → Value)) (FL : (Nat → Value) → World → List Prop) (e : Oper) (heo : ops[ℓ]? = some e)
  (hE : EAll a0 EK EV) (hm : P.follows .mixedOrders = true) (hc : parOk ops k D T EK ℓ = true) (hlk : Nat.blt ℓ k = true) (hg : (ops.toList.drop k).all (fun o => o.guard.isNone) = true)
  (hnl : (List.range ops.size).all (fun i => Nat.blt i (k + nl) || (T.getD i []).contains ℓ) = true) (hD : D.all (fun d => Nat.blt d a0.tmps.size) = true)
  (hT : (List.range k).all (fun i => (T.getD i []).all fun j => Nat.blt j i && (T.getD j []).all fun m => (T.getD i []).contains m) = true)
  (hloc : Each k (Local T VL FL))
  (hmono : Each k fun i => ∀ γ w w', Ext w w' → gF FL γ w i → gF FL γ w' i)
  (hstep : Each k (StepTo P ops EK EV W0 D T VL FL))
  (htail : ∀ γ w, Ext W0 w → Each k (fun i => gF FL γ w i) → (∀ i j, i < k → j < k → i ≠ j → isNew ops i → isNew ops j → gV VL γ i ≠ gV VL γ j) → wpList P ops Q (ops.toList.drop k) (fillAll a0 (gV VL γ) 0 D) w)
  (hlate : ∀ γ w, Ext W0 w → Each k (fun i => i = ℓ ∨ gF FL γ w i) → (∀ i j, i < k → j < k → i ≠ j → i ≠ ℓ → j ≠ ℓ → isNew ops i → isNew ops j → gV VL γ i ≠ gV VL γ j) → lateP P ops Q e nl (ops.toList.drop k) ((fillAll a0 (gV VL γ) 0 D).put (some (D.getD ℓ 0)) (a0.tmps.getD (D.getD ℓ 0) undef)) w) :
  (Code.region id ops true).wp P Q a0 W0 :=
 wp_region_gena k ℓ nl D T EK EV VL FL hE hm hc (.inl (by simpa [Nat.blt_eq] using hlk)) (fun _ => hg) (fun _ i hi his => by
  have := List.all_eq_true.1 hnl i (List.mem_range.2 his)
  simp only [Bool.or_eq_true, Nat.blt_eq] at this
  rcases this with h | h
  ·omega
  ·simpa using h) hD hT hloc hmono hstep htail fun e' he' => by rw [heo] at he'; cases he'; exact hlate
end
end Go.Hp
namespace Go.Hp
open Go.RowKit
def TupZ2 (w : World) (v : Value) (x y : Int) : Prop := ∃ a b, v = .tuple #[a, b] ∧ IsZ w a x ∧ IsZ w b y
theorem TupZ2.ext {w w' : World} {v : Value} {x y : Int} (h : TupZ2 w v x y) (k : Ext w w') : TupZ2 w' v x y := by
 obtain ⟨a, b, h1, h2, h3⟩ := h; exact ⟨a, b, h1, h2.kd k.kd, h3.kd k.kd⟩
def RdOut (F G : Nat → Rat) (r : Value) (w : World) : Prop := ∃ q b, r = .tuple #[q, .bool b] ∧ (∃ A n c, q = .slice A n c) ∧ (b = true ↔ Zdv F G) ∧ (b = true → IsZP 0 w q (pq F G))
theorem ZdSt.lower {F G : Nat → Rat} {n s t i j : Nat} {Q R : Nat → Rat} (h : ZdSt F G n s t i Q R) (hj : j ≤ i) (hs : Sup (j + pl G - 1) R) : ZdSt F G n s t j Q R :=
 ⟨fun m hm => h.1 m (by omega), h.2.1, hs, h.2.2.2.1, h.2.2.2.2.1, h.2.2.2.2.2.1, fun m => by
  have h1 := h.2.2.2.2.2.2 m
  have h2 : (n - i) * (t + 1) ≤ (n - j) * (t + 1) := Nat.mul_le_mul_right _ (by omega)
  omega⟩
theorem euc_sign {x y : Int} : ((x % y).sign != 0) = !decide (y ∣ x) := by
 by_cases h : y ∣ x
 ·rw [Int.emod_eq_zero_of_dvd h]; simp [h]
 ·have : x % y ≠ 0 := fun e => h (Int.dvd_of_emod_eq_zero e)
  have h2 : (x % y).sign ≠ 0 := fun e => this (Int.sign_eq_zero_iff_zero.1 e)
  simp [h, h2]
end Go.Hp
namespace Go.Proofs.YtfacbpnegkjcgaaGreatDoor
open Go.RowKit Go.Hp
set_option maxRecDepth 20000 in
set_option maxHeartbeats 16000000 in
theorem rdivide_z (v u : Value) (l m : List Int) (s t M : Nat) (w : World) (hv : HzV 0 w v l) (hu : HzV 0 w u m) (hs : ∀ i, qsz (cz l i) ≤ s) (ht : ∀ i, qsz (cz m i) ≤ t) (hn : l.length ≤ 1000000) (hm : m.length ≤ 1000000) (h0 : cz m ≠ pz) (hM : s + (l.length + 2) * (t + 1) + t + 1 ≤ M) (hst : 2 + (l.length + m.length + 4) * (2 * M + 4) ≤ 274877906944) :
  Calls Tryz.prog 32 #[v, u] w (Gives w (RdOut (cz l) (cz m))) := by
 have HV := Lib.hid hv; have HU := Lib.hid hu
 obtain ⟨A0, c0, rfl⟩ := hv.len
 obtain ⟨A1, c1, rfl⟩ := hu.len
 clear hv hu
 have hN1 := normal_rz _ l w HV.out (by omega)
 have hD := fun W (x : Ext w W) => degree_rz _ m W (HU.out.ext x) (by omega)
 have hLd := fun W (x : Ext w W) => lead_rz _ m W (HU.out.ext x) (by omega)
 have hc1 := pl_le (cz_sup l)
 have hc2 := pl_le (cz_sup m)
 have hfF := Fin_.cz l; have hzF := ZI.cz l; have hfG := Fin_.cz m; have hzG := ZI.cz m
 have hL := pl_pos hfG h0
 have hMb : 4 * M + 12 ≤ 274877906944 := by
  have : 4 * (2 * M + 4) ≤ (l.length + m.length + 4) * (2 * M + 4) := Nat.mul_le_mul_right _ (by omega)
  omega
 have hMul := fun (k : Nat) (z : Int) (W : World) (x : Ext w W) (v : Value) (hv : IsZP 0 W v (mono k (z : Rat))) (hk : k ≤ l.length) (hz : qsz (z : Rat) ≤ M) => show Calls Tryz.prog 40 #[v, .slice A1 m.length c1] W (Gives W fun r w' => IsZP 0 w' r (cv (mono k (z : Rat)) (cz m))) from by
  have hq : ∀ i, qsz (mono k (z : Rat) i) ≤ M := fun i => by
   unfold mono; split
   ·exact hz
   ·have : qsz (0 : Rat) = 1 := by decide
    have := one_le_qsz (z : Rat); omega
  have hp := pl_le (mono_sup k (z : Rat))
  obtain ⟨l2, g1, g2, -, g4⟩ := hv.hz (fun i => by have := hq i; omega)
  rw [← g4]
  refine Gives.imp (mul_rzp _ _ l2 m M t W g1 (HU.out.ext x) (by rw [g4]; exact hq) ht ?_ (by omega) (by omega)) fun _ _ h => h.base_le (Nat.zero_le _)
  have h1 : (l2.length + m.length) * (M + t + 1) ≤ (l.length + m.length + 4) * (2 * M + 4) := Nat.mul_le_mul (by omega) (by omega)
  omega
 obtain ⟨F, hF⟩ : ∃ F, F = cz l := ⟨_, rfl⟩
 obtain ⟨G, hG⟩ : ∃ G, G = cz m := ⟨_, rfl⟩
 rw [← hF] at hN1 hs hc1 hfF hzF
 rw [← hG] at hc2 hfG hzG hL ht h0
 simp only [← hG] at hD hLd hMul
 rw [← hF, ← hG]
 obtain ⟨n, hnn⟩ : ∃ n, n = pl F + 1 - pl G := ⟨_, rfl⟩
 have hbig : ∀ k, k ≤ n → ∀ q, q ≤ s + k * (t + 1) → q + 1 ≤ M ∧ q + t + 1 ≤ M := fun k hk q hq => by
  have : k * (t + 1) ≤ (l.length + 2) * (t + 1) := Nat.mul_le_mul_right _ (by omega)
  omega
 have htM : t + 1 ≤ M := by omega
 have hst0 : ZdSt F G n s t n pz F := ZdSt.start ((pl_sup hfF).mono (by omega)) hzF hs
 have HX := Lib.hid (And.intro hfF (And.intro hzF (And.intro hfG (And.intro hzG (And.intro h0 (And.intro ht (And.intro hbig (And.intro hMb htM))))))))
 have HC := Lib.hid (And.intro hD (And.intro hLd hMul))
 have HN := Lib.hid (And.intro hN1 (And.intro hst0 hnn))
 clear hs ht hfF hzF hfG hzG h0 hF hG hD hLd hMul hN1 hst hM hbig hst0 hMb htM HV HU
 go_enter Tryz.func32, Tryz.ntmps32
 go_wp2_with fail
 refine Calls.mono HN.out.1 ?_
 rintro e w1 ⟨r1, rfl, hr1, hx⟩
 have H1 := Lib.hid (hr1.base_le (b := 0) (Nat.zero_le _)); clear hr1
 go_wp2_with fail
 refine Calls.mono (HC.out.1 w1 hx) ?_
 rintro e w2 ⟨r2, rfl, rfl, hx2⟩
 have h1 := H1.out.ext hx2
 replace hx := hx.trans hx2
 clear hx2 H1
 go_wp2
 go_loopw [6, 8] (fun rv qv wr => ∃ Q R, IsZP 0 wr rv R ∧ IsZP 0 wr qv Q ∧ ZdSt F G n s t (pl R + 1 - pl G) Q R ∧ pl R ≤ pl F ∧ (∀ m, qsz (Q m) ≤ M) ∧ Ext w wr) (fun rv _ _ => lenV rv)
 case atStart => exact ⟨pz, F, h1, IsZP.nil _ _, HN.out.2.2 ▸ HN.out.2.1, Nat.le_refl _, fun m => by have : qsz (pz m) = 1 := by { show qsz 0 = 1; decide }; have := HX.out.2.2.2.2.2.2.2.2; omega, hx⟩
 case round =>
  clear h1 hx
  obtain ⟨Q, R, hR, hQ, hst, hRF, hqQ, hx⟩ := hrel
  obtain ⟨AR, cR, lr, rfl, j1, j2, hA, j3, j4, j5⟩ := hR.form
  obtain ⟨AQ, cQ, rfl, -⟩ := hQ.shape
  have HS := Lib.hid (And.intro hst (And.intro hqQ (And.intro hA (And.intro j3 (And.intro j5 (And.intro hR hQ))))))
  clear hst hqQ hA j3 j4 j5 hR hQ
  by_cases hle : pl G ≤ pl R
  ·obtain ⟨k, hk⟩ : ∃ k, k = pl R - pl G := ⟨_, rfl⟩
   have hk1 : pl R + 1 - pl G = k + 1 := by omega
   have hlt : pl R - 1 < lr.length := by have := HS.out.2.2.2.1; omega
   obtain ⟨g, o, b, B1, n1, d1, rfl, -, q0, q1, hq⟩ := HS.out.2.2.1.at_ (j := pl R - 1) hlt
   have hval := lz_at HS.out.2.2.2.2.1 (i := pl R - 1) hlt
   rw [hval] at hq
   obtain ⟨rv, hrv⟩ : ∃ rv, rv = (R (pl R - 1)).num := ⟨_, rfl⟩
   rw [← hrv] at hq
   have hrs : qsz (R (pl R - 1)) ≤ s + (n - (k + 1)) * (t + 1) := by rw [← hk1]; exact HS.out.1.2.2.2.2.2.2 _
   have hb2 := HX.out.2.2.2.2.2.2.1 (n - (k + 1)) (by omega) _ hrs
   have hln : (ld G).num ≠ 0 := fun e => ld_ne HX.out.2.2.1 HX.out.2.2.2.2.1 (by rw [show ld G = ((ld G).num : Rat) from HX.out.2.2.2.1.num _, e]; rfl)
   have HQ := Lib.hid (show sz rv.natAbs ≤ M ∧ (ld G).num ≠ 0 ∧ sz (ld G).num.natAbs ≤ M ∧ R (k + pl G - 1) = R (pl R - 1) from
    ⟨by rw [hrv]; have := qsz_nm (R (pl R - 1)); omega, hln, by have h1 : qsz (ld G) ≤ t := HX.out.2.2.2.2.2.1 _; have h2 := qsz_nm (ld G); have := HX.out.2.2.2.2.2.2.2.2; omega, by congr 1; omega⟩)
   have Hq := Lib.hid (And.intro hq (And.intro hrv (And.intro hk hk1))); clear hq hrv hval hrs hb2 hln hk1 hk
   have hind : ((pl R : Int) - 1).toNat = pl R - 1 := by omega
   go_wp2_with fail
   go_cut [9, 10] (fun pv qv wx => ∃ gc gd, pv = .pointer (some ⟨gc, 0, none⟩) ∧ qv = .pointer (some ⟨gd, 0, none⟩) ∧ BoxZ wx gc 28 (rv / (ld G).num) ∧ BoxZ wx gd 28 (rv % (ld G).num) ∧ Ext wr wx)
   case first =>
    refine wp_region_latea (k := 14) (ℓ := 11) (nl := 1) (D := [22, 23, 24, 25, 26, 27, 28, 29, 30, 21, 31, 32, 9, 10]) (T := [[], [], [1], [1, 2], [0, 1, 2, 3], [0, 1, 2, 3, 4], [], [6], [0, 1, 2, 3, 4, 5, 6, 7], [0, 1, 2, 3, 4, 5, 6, 7, 8], [0, 1, 2, 3, 4, 5, 6, 7, 8, 9], [0, 1, 2, 3, 4, 5, 6, 7, 8, 9], [], [], [0, 1, 2, 3, 4, 5, 6, 7, 8, 9, 10, 12, 13], [0, 1, 2, 3, 4, 5, 6, 7, 8, 9, 10, 11, 12, 13, 14]]) (EK := [6, 1]) (EV := [?e1x0, ?e1x1]) (VL := [(kv ?v1x0), (kv ?v1x1), (kv ?v1x2), (kv ?v1x3), (kv ?v1x4), (kv ?v1x5), (kv ?v1x6), (fun γ => γ 7), (fun γ => γ 8), (fun γ => γ 8), (fun γ => γ 10), (fun γ => γ 11), (fun γ => γ 12), (fun γ => γ 13)]) (FL := fun γ w' => [True, True, True, True, True, True, True, IsZ w' (γ 7) (ld G).num, TupZ2 w' (γ 8) (rv / (ld G).num) (rv % (ld G).num), True, IsZ w' (γ 10) (rv / (ld G).num), IsZ w' (γ 11) (rv % (ld G).num), NewAt w' (γ 12) wr.heap.size #[.bool false, .slice none 0 0] 28, NewAt w' (γ 13) wr.heap.size #[.bool false, .slice none 0 0] 28]) _ rfl ?hE1 (by kernel_rfl) (by kernel_rfl) (by kernel_rfl) (by kernel_rfl) (by kernel_rfl) (by rfl) (by kernel_rfl) ?hloc1 ?hmono1 ?hstep1 ?htail1 ?hlate1
    case hE1 => refine ⟨?_, ?_, trivial⟩ <;> (simp only [List.getElem?_toArray, List.getElem?_cons_succ, List.getElem?_cons_zero]; rfl)
    case hstep1 =>
     refine ⟨⟨⟨⟨⟨⟨⟨⟨⟨⟨⟨⟨⟨⟨trivial, ?_⟩, ?_⟩, ?_⟩, ?_⟩, ?_⟩, ?_⟩, ?_⟩, ?_⟩, ?_⟩, ?_⟩, ?_⟩, ?_⟩, ?_⟩, ?_⟩
     iterate 7 focus
      intro γ w' he hf; clear hf; refine ⟨by trivial, ?_⟩; intro R hR; have hc := he.cells
      have cq0 := he.cell q0
      have cq1 := he.cell q1
      go_simp; (try go_ints); (try (rw [if_neg (by omega)])); (try (rw [if_pos (by omega)])); (try go_simp); (try go_ints)
      refine hR _ _ (Ext.refl _) ?_ trivial; rfl
     ·intro γ w' he hf; clear hf; refine ⟨trivial, ?_⟩; intro R hR
      go_simp
      refine Calls.mono (show Calls _ _ _ w' (Gives w' fun r w'' => IsZ w'' (r) (ld G).num) from HC.out.2.1 w' (hx.trans he)) ?_
      rintro e w2 ⟨v, rfl, hv, hx⟩
      exact ⟨v, rfl, hR v w2 hx rfl hv⟩
     ·intro γ w' he hf; have f7 : IsZ w' (γ 7) (ld G).num := hf 7 (by decide); clear hf; refine ⟨trivial, ?_⟩; intro R hR
      go_simp
      refine Calls.mono (show Calls _ _ _ w' (Gives w' fun r w'' => TupZ2 w'' (r) (rv / (ld G).num) (rv % (ld G).num)) from euclid_r _ _ rv (ld G).num w' ((Hq.out.1.kd he.kd).has (by have := HQ.out.1; have := HX.out.2.2.2.2.2.2.2.1; omega)) (f7.has (by have := HQ.out.2.2.1; have := HX.out.2.2.2.2.2.2.2.1; omega)) HQ.out.2.1 (by have := HQ.out.1; have := HX.out.2.2.2.2.2.2.2.1; omega) (by have := HQ.out.2.2.1; have := HX.out.2.2.2.2.2.2.2.1; omega)) ?_
      rintro e w2 ⟨v, rfl, hv, hx⟩
      exact ⟨v, rfl, hR v w2 hx rfl hv⟩
     ·intro γ w' he hf; have f7 : IsZ w' (γ 7) (ld G).num := hf 7 (by decide); have f8 : TupZ2 w' (γ 8) (rv / (ld G).num) (rv % (ld G).num) := hf 8 (by decide); clear hf; refine ⟨trivial, ?_⟩; intro R hR
      have hc := he.cells
      go_simp
      (try go_ints); (try (rw [if_neg (by omega)])); (try (rw [if_pos (by omega)])); (try go_simp); (try go_ints)
      refine hR _ _ (Ext.refl _) ?_ trivial
      rfl
     ·intro γ w' he hf; have f7 : IsZ w' (γ 7) (ld G).num := hf 7 (by decide); have f8 : TupZ2 w' (γ 8) (rv / (ld G).num) (rv % (ld G).num) := hf 8 (by decide); clear hf; refine ⟨trivial, ?_⟩; intro R hR
      obtain ⟨a, b', e, ha, hb⟩ := f8
      go_simp
      exact hR _ _ (Ext.refl _) rfl ha
     ·intro γ w' he hf; have f7 : IsZ w' (γ 7) (ld G).num := hf 7 (by decide); have f8 : TupZ2 w' (γ 8) (rv / (ld G).num) (rv % (ld G).num) := hf 8 (by decide); clear hf; refine ⟨trivial, ?_⟩; intro R hR
      obtain ⟨a, b', e, ha, hb⟩ := f8
      go_simp
      exact hR _ _ (Ext.refl _) rfl hb
     ·intro γ w' he hf; clear hf; refine ⟨trivial, ?_⟩; intro R hR
      go_simp
      exact hR _ _ ((Ext.refl _).alloc _) rfl (NewAt.mk (Nat.le_trans (by simp) he.size) (by simp [isDig]))
     ·intro γ w' he hf; clear hf; refine ⟨trivial, ?_⟩; intro R hR
      go_simp
      exact hR _ _ ((Ext.refl _).alloc _) rfl (NewAt.mk (Nat.le_trans (by simp) he.size) (by simp [isDig]))
    case hloc1 =>
     exact ⟨⟨⟨⟨⟨⟨⟨⟨⟨⟨⟨⟨⟨⟨trivial, (fun γ γ' h => ⟨rfl, fun _ => rfl⟩)⟩, (fun γ γ' h => ⟨rfl, fun _ => rfl⟩)⟩, (fun γ γ' h => ⟨rfl, fun _ => rfl⟩)⟩, (fun γ γ' h => ⟨rfl, fun _ => rfl⟩)⟩, (fun γ γ' h => ⟨rfl, fun _ => rfl⟩)⟩, (fun γ γ' h => ⟨rfl, fun _ => rfl⟩)⟩, (fun γ γ' h => ⟨rfl, fun _ => rfl⟩)⟩, (fun γ γ' h => ⟨h 7 rfl, fun w' => (congrArg (fun a => IsZ w' (a) (ld G).num) (h 7 rfl))⟩)⟩, (fun γ γ' h => ⟨h 8 rfl, fun w' => (congrArg (fun a => TupZ2 w' (a) (rv / (ld G).num) (rv % (ld G).num)) (h 8 rfl))⟩)⟩, (fun γ γ' h => ⟨(congrArg (fun a => a) (h 8 rfl)), fun _ => rfl⟩)⟩, (fun γ γ' h => ⟨h 10 rfl, fun w' => (congrArg (fun a => IsZ w' (a) (rv / (ld G).num)) (h 10 rfl))⟩)⟩, (fun γ γ' h => ⟨h 11 rfl, fun w' => (congrArg (fun a => IsZ w' (a) (rv % (ld G).num)) (h 11 rfl))⟩)⟩, (fun γ γ' h => ⟨h 12 rfl, fun w' => (congrArg (fun a => NewAt w' (a) wr.heap.size #[.bool false, .slice none 0 0] 28) (h 12 rfl))⟩)⟩, (fun γ γ' h => ⟨h 13 rfl, fun w' => (congrArg (fun a => NewAt w' (a) wr.heap.size #[.bool false, .slice none 0 0] 28) (h 13 rfl))⟩)⟩
    case hmono1 =>
     exact ⟨⟨⟨⟨⟨⟨⟨⟨⟨⟨⟨⟨⟨⟨trivial, (fun γ wA w' e h => h)⟩, (fun γ wA w' e h => h)⟩, (fun γ wA w' e h => h)⟩, (fun γ wA w' e h => h)⟩, (fun γ wA w' e h => h)⟩, (fun γ wA w' e h => h)⟩, (fun γ wA w' e h => h)⟩, (fun γ wA w' e h => (show IsZ wA (γ 7) (ld G).num from h).ext e)⟩, (fun γ wA w' e h => (show TupZ2 wA (γ 8) (rv / (ld G).num) (rv % (ld G).num) from h).ext e)⟩, (fun γ wA w' e h => h)⟩, (fun γ w w' e h => IsZ.ext_ h e)⟩, (fun γ w w' e h => IsZ.ext_ h e)⟩, (fun γ wA w' e h => (show NewAt wA (γ 12) wr.heap.size #[.bool false, .slice none 0 0] 28 from h).ext e)⟩, (fun γ wA w' e h => (show NewAt wA (γ 13) wr.heap.size #[.bool false, .slice none 0 0] 28 from h).ext e)⟩
    case hlate1 =>
     intro γ w3 hx3 hF hA
     have na12x13 : γ 12 ≠ γ 13 := hA 12 13 (by decide) (by decide) (by decide) (by decide) (by decide) ⟨_, _, rfl, rfl⟩ ⟨_, _, rfl, rfl⟩
     clear hA
     have p7 : IsZ w3 (γ 7) (ld G).num := (Each.get hF 7 (by decide)).resolve_left (by decide)
     have p8 : TupZ2 w3 (γ 8) (rv / (ld G).num) (rv % (ld G).num) := (Each.get hF 8 (by decide)).resolve_left (by decide)
     have p10 : IsZ w3 (γ 10) (rv / (ld G).num) := (Each.get hF 10 (by decide)).resolve_left (by decide)
     have p12 : NewAt w3 (γ 12) wr.heap.size #[.bool false, .slice none 0 0] 28 := (Each.get hF 12 (by decide)).resolve_left (by decide)
     have p13 : NewAt w3 (γ 13) wr.heap.size #[.bool false, .slice none 0 0] 28 := (Each.get hF 13 (by decide)).resolve_left (by decide)
     clear hF
     simp only [fillAll, gV, kv, List.getD_cons_zero, List.getD_cons_succ, Act.put, List.setIfInBounds_toArray, List.set_cons_zero, List.set_cons_succ, List.toList_toArray, List.drop_succ_cons, List.drop_zero, List.drop_nil, Nat.zero_add, Nat.reduceAdd, lateP, Array.getD_eq_getD_getElem?, List.getElem?_toArray, List.getElem?_cons_succ, List.getElem?_cons_zero, Option.getD_some]
     generalize γ 7 = g7 at *
     generalize γ 8 = g8 at *
     generalize γ 10 = g10 at *
     generalize γ 12 = g12 at *
     generalize γ 13 = g13 at *
     clear γ
     obtain ⟨a8, b8, rfl, ha8, hb8⟩ := p8
     first | (obtain ⟨b7, A7, n7, c7, rfl⟩ := p11.cells; have hy := p11; clear p11) | (obtain ⟨b7, A7, n7, c7, rfl⟩ := hb8.cells; have hy := hb8)
     clear hb8 ha8
     obtain ⟨gc, rfl, hgc, ec⟩ := p12
     obtain ⟨gd, rfl, hgd, ed⟩ := p13
     have hcd : gc ≠ gd := fun e => na12x13 (by rw [e])
     clear na12x13
     obtain ⟨b5, A5, n5, c5, rfl⟩ := p10.cells
     clear q0 q1 p7 hind
     obtain ⟨cec0, cec1⟩ := ec.cells2
     have fec := ec.frozen
     obtain ⟨ced0, ced1⟩ := ed.cells2
     have fed := ed.frozen
     go_wp2
     refine ⟨?_, trivial⟩
     go_wp2
     skip
     obtain ⟨W4, eW, ec', U⟩ := ec.put2 (.bool b5) (.slice A5 n5 c5) rfl rfl
     rw [← eW]
     clear eW ec
     replace p10 := p10.kd U.kd
     replace hy := hy.kd U.kd
     replace ed := ed.upd U (by simp <;> omega)
     replace hx3 := U.from_ hx3 (by simp <;> omega)
     have ec := ec'
     clear U ec'
     obtain ⟨W5, eW, ed', U⟩ := ed.put2 (.bool b7) (.slice A7 n7 c7) rfl rfl
     rw [← eW]
     clear eW ed
     replace p10 := p10.kd U.kd
     replace hy := hy.kd U.kd
     replace ec := ec.upd U (by simp <;> omega)
     replace hx3 := U.from_ hx3 (by simp <;> omega)
     have ed := ed'
     clear U ed'
     go_meet
     case rel => exact ⟨gc, gd, rfl, rfl, BoxZ.mk ec p10, BoxZ.mk ed hy, hx3⟩
    intro γ w3 hx3 hF hA
    have na12x13 : γ 12 ≠ γ 13 := hA 12 13 (by decide) (by decide) (by decide) ⟨_, _, rfl, rfl⟩ ⟨_, _, rfl, rfl⟩
    clear hA
    have p7 : IsZ w3 (γ 7) (ld G).num := Each.get hF 7 (by decide)
    have p8 : TupZ2 w3 (γ 8) (rv / (ld G).num) (rv % (ld G).num) := Each.get hF 8 (by decide)
    have p10 : IsZ w3 (γ 10) (rv / (ld G).num) := Each.get hF 10 (by decide)
    have p11 : IsZ w3 (γ 11) (rv % (ld G).num) := Each.get hF 11 (by decide)
    have p12 : NewAt w3 (γ 12) wr.heap.size #[.bool false, .slice none 0 0] 28 := Each.get hF 12 (by decide)
    have p13 : NewAt w3 (γ 13) wr.heap.size #[.bool false, .slice none 0 0] 28 := Each.get hF 13 (by decide)
    clear hF
    simp only [fillAll, gV, kv, List.getD_cons_zero, List.getD_cons_succ, Act.put, List.setIfInBounds_toArray, List.set_cons_zero, List.set_cons_succ, List.toList_toArray, List.drop_succ_cons, List.drop_zero, List.drop_nil, Nat.zero_add, Nat.reduceAdd]
    generalize γ 7 = g7 at *
    generalize γ 8 = g8 at *
    generalize γ 10 = g10 at *
    generalize γ 11 = g11 at *
    generalize γ 12 = g12 at *
    generalize γ 13 = g13 at *
    clear γ
    obtain ⟨a8, b8, rfl, ha8, hb8⟩ := p8
    first | (obtain ⟨b7, A7, n7, c7, rfl⟩ := p11.cells; have hy := p11; clear p11) | (obtain ⟨b7, A7, n7, c7, rfl⟩ := hb8.cells; have hy := hb8)
    clear hb8 ha8
    obtain ⟨gc, rfl, hgc, ec⟩ := p12
    obtain ⟨gd, rfl, hgd, ed⟩ := p13
    have hcd : gc ≠ gd := fun e => na12x13 (by rw [e])
    clear na12x13
    obtain ⟨b5, A5, n5, c5, rfl⟩ := p10.cells
    clear q0 q1 p7 hind
    obtain ⟨cec0, cec1⟩ := ec.cells2
    have fec := ec.frozen
    obtain ⟨ced0, ced1⟩ := ed.cells2
    have fed := ed.frozen
    go_wp2
    skip
    obtain ⟨W4, eW, ec', U⟩ := ec.put2 (.bool b5) (.slice A5 n5 c5) rfl rfl
    rw [← eW]
    clear eW ec
    replace p10 := p10.kd U.kd
    replace hy := hy.kd U.kd
    replace ed := ed.upd U (by simp <;> omega)
    replace hx3 := U.from_ hx3 (by simp <;> omega)
    have ec := ec'
    clear U ec'
    obtain ⟨W5, eW, ed', U⟩ := ed.put2 (.bool b7) (.slice A7 n7 c7) rfl rfl
    rw [← eW]
    clear eW ed
    replace p10 := p10.kd U.kd
    replace hy := hy.kd U.kd
    replace ec := ec.upd U (by simp <;> omega)
    replace hx3 := U.from_ hx3 (by simp <;> omega)
    have ed := ed'
    clear U ed'
    go_meet
    case rel => exact ⟨gc, gd, rfl, rfl, BoxZ.mk ec p10, BoxZ.mk ed hy, hx3⟩
   case rest =>
    clear q0 q1 hind
    obtain ⟨gc, gd, rfl, rfl, ⟨b5, A5, n5, c5, ec, hz⟩, ⟨b7, A7, n7, c7, ed, hy⟩, hx3⟩ := hcut
    have xw := hx3
    replace hx := hx.trans hx3
    have Hz := Lib.hid hz; have Hy := Lib.hid hy; clear hz hy
    obtain ⟨cec0, cec1⟩ := ec.cells2
    have fec := ec.frozen
    obtain ⟨ced0, ced1⟩ := ed.cells2
    have fed := ed.frozen
    go_wp2_with fail
    refine Calls.mono (sign_r _ (rv % (ld G).num) _ (Hy.out.has (by
     have h1 := HQ.out.2.2.1
     have h2 : (rv % (ld G).num).natAbs ≤ (ld G).num.natAbs := by
      have h3 := Int.emod_nonneg rv HQ.out.2.1
      have h4 := Int.emod_lt rv HQ.out.2.1
      omega
     have h5 := sz_mono h2
     have h6 := HX.out.2.2.2.2.2.2.2.1
     omega))) ?_
    rintro e w5 ⟨r5, rfl, rfl, hx5⟩
    replace xw := xw.trans hx5
    replace hx := hx.trans hx5
    by_cases hd : (ld G).num ∣ rv
    ·have hs0 : ((rv % (ld G).num).sign != 0) = false := by rw [euc_sign]; simpa using hd
     have hz5 := Hz.out.kd hx5.kd
     have ec5 := ec.ext hx5
     have HD := Lib.hid (And.intro hd hz5); clear hd hz5 ec ed cec0 cec1 fec ced0 ced1 fed hx3 hx5 Hy Hz
     obtain ⟨cec50, cec51⟩ := ec5.cells2
     have fec5 := ec5.frozen
     obtain ⟨z, hzz⟩ : ∃ z, z = rv / (ld G).num := ⟨_, rfl⟩
     rw [← hzz] at HD
     have hk := Hq.out.2.2.1
     have hkn : k < n := by have := HN.out.2.2; omega
     have hst := HS.out.1
     rw [Hq.out.2.2.2] at hst
     have hzv : R (k + pl G - 1) = (z : Rat) * ld G := by
      rw [hzz, Hq.out.2.1, ← HQ.out.2.2.2]
      exact hst.yes HX.out.2.2.2.1 (by rw [HQ.out.2.2.2, ← Hq.out.2.1]; exact HD.out.1)
     have hzq : qsz (z : Rat) ≤ qsz (R (k + pl G - 1)) := qsz_quot (ld_ne HX.out.2.2.1 HX.out.2.2.2.2.1) (HX.out.2.2.2.1 _) hzv
     have hrq := hst.2.2.2.2.2.2 (k + pl G - 1)
     have hbb := HX.out.2.2.2.2.2.2.1 _ (show n - (k + 1) ≤ n by omega) _ hrq
     have hz0 : z ≠ 0 := fun e => by
      have h1 : R (pl R - 1) ≠ 0 := pl_top hst.fin (by have := pl_pos HX.out.2.2.1 HX.out.2.2.2.2.1; omega)
      apply h1
      rw [← HQ.out.2.2.2, hzv, e]
      show ((0 : Int) : Rat) * ld G = 0
      simp
     have hst2 := hst.step HX.out.2.2.1 HX.out.2.2.2.2.1 HX.out.2.2.2.1 HX.out.2.2.2.2.2.1 hkn hzv
     have hplR := pl_le hst2.2.2.1
     have hpG := pl_pos HX.out.2.2.1 HX.out.2.2.2.2.1
     have HZ := Lib.hid (show ZdSt F G n s t (pl (psb R (cv (mono k (z : Rat)) G)) + 1 - pl G) (pad Q (mono k (z : Rat))) (psb R (cv (mono k (z : Rat)) G)) ∧ pl (psb R (cv (mono k (z : Rat)) G)) < pl R ∧ z ≠ 0 ∧ qsz (z : Rat) + 1 ≤ M ∧ (∀ i, qsz (cv (mono k (z : Rat)) G i) ≤ 2 * M) ∧ (∀ i, qsz (mono k (z : Rat) i) ≤ M) ∧ (∀ i, qsz (pad Q (mono k (z : Rat)) i) ≤ M) ∧ (∀ i, qsz (R i) ≤ M) ∧ pl (cv (mono k (z : Rat)) G) ≤ 549755813888 ∧ pl (mono k (z : Rat)) ≤ 549755813888 ∧ pl Q ≤ 549755813888 from by
      have o1 : qsz (0 : Rat) = 1 := by decide
      have o2 := one_le_qsz (z : Rat)
      have hmn : ∀ i, qsz (mono k (z : Rat) i) ≤ M := fun i => by
       unfold mono; split <;> omega
      refine ⟨hst2.lower (by omega) ((pl_sup hst2.fin).mono (by omega)), by omega, hz0, by omega, fun i => ?_, hmn, fun i => ?_, fun i => ?_, ?_, ?_, ?_⟩
      ·rw [mono_cv]
       show qsz ((z : Rat) * sh k G i) ≤ _
       have a1 := qsz_mul (z : Rat) (sh k G i)
       have a2 : qsz (sh k G i) ≤ M := by
        unfold sh; split
        ·omega
        ·have := HX.out.2.2.2.2.2.1 (i - k); have := HX.out.2.2.2.2.2.2.2.2; omega
       omega
      ·by_cases e : i = k
       ·subst e
        show qsz (Q i + mono i (z : Rat) i) ≤ M
        rw [hst.1 i (by omega), Rat.zero_add]; exact hmn i
       ·show qsz (Q i + mono k (z : Rat) i) ≤ M
        rw [mono_off e, Rat.add_zero]; exact HS.out.2.1 i
      ·have h1 := hst.2.2.2.2.2.2 i
       have := HX.out.2.2.2.2.2.2.1 _ (show n - (k + 1) ≤ n by omega) _ h1
       omega
      ·have := pl_le ((mono_sup k (z : Rat)).cv (pl_sup HX.out.2.2.1)); omega
      ·have := pl_le (mono_sup k (z : Rat)); omega
      ·have := pl_le hst.2.1; have := HN.out.2.2; omega)
     have hkk : (pl R : Int) - 1 - ((pl G : Int) - 1) = (k : Nat) := by omega
     have hkl : k ≤ l.length := by omega
     have hplRb : pl R ≤ 549755813888 := by omega
     have hzrow : HzV 0 (w5.alloc (.cells #[.bool b5, .slice A5 n5 c5] 28)) (.slice (some ⟨w5.heap.size, 0, none⟩) 1 1) [z] :=
      ZsV.has (OwnZ.row (NewZ.own (NewZ.mk HD.out.2 (base := 0) (Nat.zero_le _) 28))) (fun x hx => by
       simp at hx; subst hx
       have h1 : sz x.natAbs ≤ qsz (x : Rat) := by rw [qsz_cast]; omega
       have h2 := HX.out.2.2.2.2.2.2.2.1
       omega)
     have HR := Lib.hid hzrow
     clear hst hzv hzq hrq hbb hz0 hst2 hplR hzz hzrow hk
     go_wp2_with fail
     refine Calls.mono (shift_one _ z k _ HR.out HZ.out.2.2.1 (by omega)) ?_
     rintro e w6 ⟨r6, rfl, hr6, hx6⟩
     replace xw := (xw.alloc _).trans hx6
     replace hx := (hx.alloc _).trans hx6
     have H6 := Lib.hid hr6; clear hr6 hx6 HR hkk
     go_wp2_with fail
     refine Calls.mono (radd _ _ Q (mono k (z : Rat)) M M _ (HS.out.2.2.2.2.2.2.ext xw) H6.out HS.out.2.1 HZ.out.2.2.2.2.2.1 (by have := HX.out.2.2.2.2.2.2.2.1; omega) HZ.out.2.2.2.2.2.2.2.2.2.2 HZ.out.2.2.2.2.2.2.2.2.2.1) ?_
     rintro e w7 ⟨r7, rfl, hr7, hx7⟩
     obtain ⟨A7, c7, rfl, -⟩ := hr7.shape
     have h6 := H6.out.ext hx7
     have H7 := Lib.hid hr7
     replace xw := xw.trans hx7
     replace hx := hx.trans hx7
     have H6' := Lib.hid h6; clear h6 hx7 hr7 H6
     go_wp2_with fail
     refine Calls.mono (HC.out.2.2 k z _ hx _ H6'.out (by omega) (by have := HZ.out.2.2.2.1; omega)) ?_
     rintro e w8 ⟨r8, rfl, hr8, hx8⟩
     have h7 := H7.out.ext hx8
     replace xw := xw.trans hx8
     replace hx := hx.trans hx8
     have H8 := Lib.hid (And.intro hr8 h7); clear hr8 h7 hx8 H7 H6'
     go_wp2_with fail
     refine Calls.mono (rsub _ _ R (cv (mono k (z : Rat)) G) M (2 * M) _ (HS.out.2.2.2.2.2.1.ext xw) H8.out.1 HZ.out.2.2.2.2.2.2.2.1 HZ.out.2.2.2.2.1 (by have := HX.out.2.2.2.2.2.2.2.1; omega) hplRb HZ.out.2.2.2.2.2.2.2.2.1) ?_
     rintro e w9 ⟨r9, rfl, hr9, hx9⟩
     have h8 := H8.out.2.ext hx9
     replace hx := hx.trans hx9
     obtain ⟨A9, c9, rfl, -⟩ := hr9.shape
     have H9 := Lib.hid (And.intro hr9 h8); clear hr9 h8 hx9 H8
     go_wp2
     go_roundw
     case rel => exact ⟨_, _, H9.out.1, H9.out.2, HZ.out.1, by have := HZ.out.2.1; omega, HZ.out.2.2.2.2.2.2.1, hx⟩
     case measure => exact HZ.out.2.1
    ·have hs0 : ((rv % (ld G).num).sign != 0) = true := by rw [euc_sign]; simpa using hd
     have hno : ¬ Zdv F G := by
      have h1 := HS.out.1
      rw [Hq.out.2.2.2] at h1
      exact h1.no HX.out.2.2.1 HX.out.2.2.2.2.1 HX.out.2.2.2.1 (by rw [HQ.out.2.2.2, ← Hq.out.2.1]; exact hd)
     have HNo := Lib.hid hno; clear hno hd
     go_wp2
     go_ret2
     exact Gives.mk ⟨_, false, rfl, ⟨_, _, _, rfl⟩, ⟨fun h => absurd h (by decide), fun h => absurd h HNo.out⟩, fun h => absurd h (by decide)⟩ hx
  ·have hfR := HS.out.1.fin
   have hzd : Zdv F G ↔ R = pz := by rw [HS.out.1.zdv, zdv_low hfR HX.out.2.2.1 (by omega)]
   by_cases hp : pl R = 0
   ·have hRz := (pl_zero hfR).1 hp
    have hQq : Q = pq F G := by
     have h1 := HS.out.1.2.2.2.1
     exact (div_eq HX.out.1 HX.out.2.2.1 HX.out.2.2.2.2.1 ⟨_, HS.out.1.2.1⟩ h1 (by rw [hRz]; exact Sup.pz _)).1
    have HY := Lib.hid (And.intro (hzd.2 hRz) hQq); clear hfR hzd hRz hQq hle
    rw [hp]
    go_wp2
    go_ret2
    exact Gives.mk ⟨_, true, rfl, ⟨_, _, _, rfl⟩, ⟨fun _ => HY.out.1, fun _ => rfl⟩, fun _ => by rw [← HY.out.2]; exact HS.out.2.2.2.2.2.2⟩ hx
   ·have hno : ¬ Zdv F G := fun h => hp (by rw [hzd.1 h, pl_pz])
    have hb : ((pl R : Int) == 0) = false := by simpa using hp
    have HY := Lib.hid hno; clear hfR hzd hno hp
    go_wp2
    go_ret2
    exact Gives.mk ⟨_, false, rfl, ⟨_, _, _, rfl⟩, ⟨fun h => absurd h (by decide), fun h => absurd h HY.out⟩, fun h => absurd h (by decide)⟩ hx
end Go.Proofs.YtfacbpnegkjcgaaGreatDoor
namespace Go.Hp
open Go.RowKit
structure PrSt (F G : Nat → Rat) (n s t j : Nat) (Q R : Nat → Rat) : Prop where
 eq : psc (ld G ^ j) F = pad (cv Q G) R
 zQ : ZI Q
 zR : ZI R
 fQ : Sup n Q
 fR : Fin_ R
 deg : pl R + j ≤ pl F
 qQ : ∀ i, qsz (Q i) ≤ s + j * (t + 1)
 qR : ∀ i, qsz (R i) ≤ s + j * (t + 1)
theorem PrSt.start {F G : Nat → Rat} {n s t : Nat} (hF : Fin_ F) (hz : ZI F) (hs : ∀ i, qsz (F i) ≤ s) : PrSt F G n s t 0 pz F where
  eq := by rw [Rat.pow_zero, psc_one, pz_cv]; funext m; simp only [pad, pz]; grind
  zQ := ZI.pz
  zR := hz
  fQ := Sup.pz n
  fR := hF
  deg := Nat.le_refl _
  qQ := fun i => by have h1 := one_le_qsz (F 0); have h2 := hs 0; show qsz 0 ≤ _; have : qsz (0 : Rat) = 1 := by decide
                    omega
  qR := fun i => by have := hs i; omega
theorem PrSt.step {F G : Nat → Rat} {n s t j : Nat} {Q R : Nat → Rat} (h : PrSt F G n s t j Q R) (hn : n = pl F + 1 - pl G) (fG : Fin_ G) (h0 : G ≠ pz) (zG : ZI G) (ht : ∀ i, qsz (G i) ≤ t) (hl : pl G ≤ pl R) {k : Nat} (hk : k = pl R - pl G) {x : Int} (hx : (x : Rat) = R (pl R - 1)) :
  PrSt F G n s t (j + 1) (pad (psc (ld G) Q) (mono k (x : Rat))) (psb (psc (ld G) R) (cv (mono k (x : Rat)) G)) ∧ pl (psb (psc (ld G) R) (cv (mono k (x : Rat)) G)) < pl R := by
 have hp := pl_pos fG h0
 have hld := ld_ne fG h0
 have zl : ∃ y : Int, ld G = (y : Rat) := zG _
 obtain ⟨y, hy⟩ := zl
 have hsup : Sup (k + pl G) (psc (ld G) R) := ((pl_sup h.fR).mono (by omega)).psc _
 have e1 : (x : Rat) = psc (ld G) R (k + pl G - 1) / ld G := by
  show _ = ld G * R (k + pl G - 1) / ld G
  rw [show k + pl G - 1 = pl R - 1 from by omega, ← hx]; grind
 have hs2 : Sup (k + pl G - 1) (psb (psc (ld G) R) (cv (mono k (x : Rat)) G)) := by
  rw [e1]; exact div_step fG h0 hsup
 have hle := pl_le hs2
 have hxq : qsz (x : Rat) ≤ s + j * (t + 1) := by rw [hx]; exact h.qR _
 have hlq : qsz (ld G) ≤ t := ht _
 have hj : (j + 1) * (t + 1) = j * (t + 1) + (t + 1) := Nat.succ_mul _ _
 have o1 : qsz (0 : Rat) = 1 := by decide
 have zsR : ZI (psc (ld G) R) := by rw [hy]; exact h.zR.psc y
 have zsQ : ZI (psc (ld G) Q) := by rw [hy]; exact h.zQ.psc y
 refine ⟨⟨?_, zsQ.pad (ZI.mono k x), zsR.psb ((ZI.mono k x).cv zG), (h.fQ.psc _).pad ((mono_sup k _).mono (by have := h.deg; omega)), ⟨_, hs2⟩, by have := h.deg; omega, fun i => ?_, fun i => ?_⟩, by omega⟩
 ·have e2 : psc (ld G ^ (j + 1)) F = psc (ld G) (psc (ld G ^ j) F) := by
   rw [psc_psc, Rat.pow_succ, Rat.mul_comm]
  rw [e2, h.eq, pad_cv, psc_cv]
  funext m; simp only [psc, pad, psb]; grind
 ·have a1 := qsz_addz zsQ (ZI.mono k x) i i
  have a2 : qsz (psc (ld G) Q i) ≤ qsz (ld G) + qsz (Q i) := qsz_mul _ _
  have a3 := h.qQ i
  have a4 : qsz (mono k (x : Rat) i) ≤ s + j * (t + 1) := by
   unfold mono; split
   ·exact hxq
   ·have := one_le_qsz (x : Rat); omega
  show qsz (psc (ld G) Q i + mono k (x : Rat) i) ≤ _
  omega
 ·have a1 := qsz_subz zsR ((ZI.mono k x).cv zG) i i
  have a2 : qsz (psc (ld G) R i) ≤ qsz (ld G) + qsz (R i) := qsz_mul _ _
  have a3 := h.qR i
  have a4 : qsz (cv (mono k (x : Rat)) G i) ≤ qsz (x : Rat) + t := by
   rw [mono_cv]
   show qsz ((x : Rat) * sh k G i) ≤ _
   have b1 := qsz_mul (x : Rat) (sh k G i)
   have b2 : qsz (sh k G i) ≤ t := by
    unfold sh; split
    ·have := one_le_qsz (ld G); omega
    ·exact ht _
   omega
  show qsz (psc (ld G) R i - cv (mono k (x : Rat)) G i) ≤ _
  omega
theorem rpow_add (a : Rat) (m : Nat) : ∀ n : Nat, a ^ (m + n) = a ^ m * a ^ n
 | 0 => by rw [Nat.add_zero, Rat.pow_zero, Rat.mul_one]
 | n + 1 => by rw [← Nat.add_assoc, Rat.pow_succ, rpow_add a m n, Rat.pow_succ, Rat.mul_assoc]
theorem PrSt.end_ {F G : Nat → Rat} {n s t j : Nat} {Q R : Nat → Rat} (h : PrSt F G n s t j Q R) (hn : n = pl F + 1 - pl G) (fF : Fin_ F) (fG : Fin_ G) (h0 : G ≠ pz) (hl : pl R < pl G) (hj : j ≤ n) :
  psc (ld G ^ (n - j)) Q = psQ F G n ∧ psc (ld G ^ (n - j)) R = psR F G n := by
 have hp := pl_pos fG h0
 have e1 : psc (ld G ^ n) F = pad (cv (psc (ld G ^ (n - j)) Q) G) (psc (ld G ^ (n - j)) R) := by
  have e2 : ld G ^ n = ld G ^ (n - j) * ld G ^ j := by rw [← rpow_add]; congr 1; omega
  rw [e2, ← psc_psc, h.eq, psc_cv]
  funext m; simp only [psc, pad]; grind
 have e3 : psc (ld G ^ n) F = pad (cv (psc (ld G ^ n) (pq F G)) G) (psc (ld G ^ n) (pr F G)) := by
  rw [psc_cv]
  have h1 := pq_pr F G
  funext m
  have h2 := congrFun h1 m
  simp only [psc, pad] at h2 ⊢
  rw [h2]; grind
 have h1 := div_unique fG (Fin_.psc _ ⟨n, h.fQ⟩) ((pq_fin F G).psc _) h0 e1 e3 (((pl_sup h.fR).mono (by omega)).psc _) ((pr_sup fF fG h0).psc _)
 have h2 := psR_end fF fG h0
 rw [← hn] at h2
 exact ⟨h1.1.trans h2.1.symm, h1.2.trans h2.2.symm⟩
def TupP2 (F G : Nat → Rat) (r : Value) (w : World) : Prop := ∃ q m, r = .tuple #[q, m] ∧ IsZP 0 w q F ∧ IsZP 0 w m G
end Go.Hp
namespace Go.Proofs.YtfacbpnegkjcgaaGreatDoor
open Go.RowKit Go.Hp
set_option maxRecDepth 20000 in
set_option maxHeartbeats 16000000 in
theorem rpdiv_z (v u : Value) (l m : List Int) (s t M : Nat) (w : World) (hv : HzV 0 w v l) (hu : HzV 0 w u m) (hs : ∀ i, qsz (cz l i) ≤ s) (ht : ∀ i, qsz (cz m i) ≤ t) (hn : l.length ≤ 1000000) (hm : m.length ≤ 1000000) (h0 : cz m ≠ pz) (hM : s + (l.length + 2) * (t + 1) + t + 1 ≤ M) (hst : 2 + (l.length + m.length + 4) * (2 * M + 4) ≤ 274877906944) :
  Calls Tryz.prog 33 #[v, u] w (Gives w (TupP2 (psQ (cz l) (cz m) (pl (cz l) + 1 - pl (cz m))) (psR (cz l) (cz m) (pl (cz l) + 1 - pl (cz m))))) := by
 have HV := Lib.hid hv; have HU := Lib.hid hu
 obtain ⟨A0, c0, rfl⟩ := hv.len
 obtain ⟨A1, c1, rfl⟩ := hu.len
 clear hv hu
 have hN1 := fun W (x : Ext w W) => normal_rz _ l W (HV.out.ext x) (by omega)
 have hD := fun W (x : Ext w W) => degree_rz _ m W (HU.out.ext x) (by omega)
 have hLd := fun W (x : Ext w W) => lead_rz _ m W (HU.out.ext x) (by omega)
 have hc1 := pl_le (cz_sup l)
 have hc2 := pl_le (cz_sup m)
 have hfF := Fin_.cz l; have hzF := ZI.cz l; have hfG := Fin_.cz m; have hzG := ZI.cz m
 have hL := pl_pos hfG h0
 have hMb : 4 * M + 12 ≤ 274877906944 := by
  have : 4 * (2 * M + 4) ≤ (l.length + m.length + 4) * (2 * M + 4) := Nat.mul_le_mul_right _ (by omega)
  omega
 have hMul := fun (k : Nat) (z : Int) (W : World) (x : Ext w W) (v : Value) (hv : IsZP 0 W v (mono k (z : Rat))) (hk : k ≤ l.length) (hz : qsz (z : Rat) ≤ M) => show Calls Tryz.prog 40 #[v, .slice A1 m.length c1] W (Gives W fun r w' => IsZP 0 w' r (cv (mono k (z : Rat)) (cz m))) from by
  have hq : ∀ i, qsz (mono k (z : Rat) i) ≤ M := fun i => by
   unfold mono; split
   ·exact hz
   ·have : qsz (0 : Rat) = 1 := by decide
    have := one_le_qsz (z : Rat); omega
  have hp := pl_le (mono_sup k (z : Rat))
  obtain ⟨l2, g1, g2, -, g4⟩ := hv.hz (fun i => by have := hq i; omega)
  rw [← g4]
  refine Gives.imp (mul_rzp _ _ l2 m M t W g1 (HU.out.ext x) (by rw [g4]; exact hq) ht ?_ (by omega) (by omega)) fun _ _ h => h.base_le (Nat.zero_le _)
  have h1 : (l2.length + m.length) * (M + t + 1) ≤ (l.length + m.length + 4) * (2 * M + 4) := Nat.mul_le_mul (by omega) (by omega)
  omega
 obtain ⟨F, hF⟩ : ∃ F, F = cz l := ⟨_, rfl⟩
 obtain ⟨G, hG⟩ : ∃ G, G = cz m := ⟨_, rfl⟩
 rw [← hF] at hs hc1 hfF hzF
 rw [← hG] at hc2 hfG hzG hL ht h0
 simp only [← hF] at hN1
 simp only [← hG] at hD hLd hMul
 rw [← hF, ← hG]
 obtain ⟨n, hnn⟩ : ∃ n, n = pl F + 1 - pl G := ⟨_, rfl⟩
 rw [← hnn]
 have hnl : n ≤ l.length + 1 := by omega
 have hbig : ∀ k, k ≤ n → ∀ q, q ≤ s + k * (t + 1) → q + 1 ≤ M ∧ q + t + 1 ≤ M := fun k hk q hq => by
  have : k * (t + 1) ≤ (l.length + 2) * (t + 1) := Nat.mul_le_mul_right _ (by omega)
  omega
 have htM : t + 1 ≤ M := by omega
 have hst0 : PrSt F G n s t 0 pz F := PrSt.start hfF hzF hs
 have hlr : ∀ j, j ≤ n → 2 + (j + 1) * t ≤ 549755813888 ∧ 1 + j * t ≤ M := fun j hj => by
  have h1 : (j + 1) * t ≤ (l.length + 2) * (t + 1) := Nat.mul_le_mul (by omega) (by omega)
  have h2 : j * t ≤ (l.length + 2) * (t + 1) := Nat.mul_le_mul (by omega) (by omega)
  omega
 have HX := Lib.hid (And.intro hfF (And.intro hzF (And.intro hfG (And.intro hzG (And.intro h0 (And.intro ht (And.intro hbig (And.intro hMb (And.intro htM hlr)))))))))
 have HC := Lib.hid (And.intro hD (And.intro hLd hMul))
 have HN := Lib.hid (And.intro hN1 (And.intro hst0 hnn))
 have HLG := Lib.hid (show sz (ld G).num.natAbs ≤ 1099511627776 ∧ qsz (((ld G).num : Int) : Rat) ≤ M ∧ (((ld G).num : Int) : Rat) = ld G ∧ sz (ld G).num.natAbs ≤ t from by
  have e : (((ld G).num : Int) : Rat) = ld G := (hzG.num _).symm
  have h1 : qsz (ld G) ≤ t := ht _
  have h2 := qz_num h1
  exact ⟨by omega, by rw [e]; omega, e, h2⟩)
 have hmax : max 0 ((pl F : Int) - 1 - ((pl G : Int) - 1) + 1) = (n : Nat) := by omega
 clear hs ht hfF hzF hfG hzG h0 hF hG hD hLd hMul hN1 hst hM hbig hst0 hMb htM hlr HV HU hnn
 go_enter Tryz.func33, Tryz.ntmps33
 go_wp2_with fail
 refine Calls.mono (HN.out.1 _ ((Ext.refl w).alloc _)) ?_
 rintro e w1 ⟨r1, rfl, hr1, hx⟩
 obtain ⟨A2, c2, rfl, -⟩ := hr1.shape
 have H1 := Lib.hid (hr1.base_le (b := 0) (Nat.zero_le _)); clear hr1
 replace hx := hx.a1
 go_wp2_with fail
 refine Calls.mono (HC.out.1 w1 hx) ?_
 rintro e w2 ⟨r2, rfl, rfl, hx2⟩
 have h1 := H1.out.ext hx2
 replace hx := hx.trans hx2
 have H2 := Lib.hid h1
 clear hx2 H1 h1
 go_wp2_with fail
 refine Calls.mono (HC.out.2.1 w2 hx) ?_
 rintro e w3 ⟨r3, rfl, hr3, hx3⟩
 obtain ⟨b5, A5, n5, c5, rfl⟩ := hr3.cells
 obtain ⟨W4, eW, eb, x4⟩ := Box.made w3 28 #[.bool b5, .slice A5 n5 c5] (by simp [isDig])
 have hl4 := hr3.kd x4.kd
 have h2 := H2.out.ext (hx3.trans x4)
 replace hx := hx.trans (hx3.trans x4)
 have HL := Lib.hid hl4; have H3 := Lib.hid h2
 clear hr3 hl4 h2 hx3 x4 H2
 go_wp2
 rw [← eW]
 clear eW
 generalize w3.heap.size = gl at *
 go_loopw [6, 7, 10] (fun qv rv kv wr => ∃ (j : Nat) (Q R : Nat → Rat), kv = .int .i64 ((n : Int) - j) ∧ j ≤ n ∧ PrSt F G n s t j Q R ∧ IsZP 0 wr rv R ∧ IsZP 0 wr qv Q ∧ BoxZ wr gl 28 (ld G).num ∧ Ext w wr) (fun _ rv _ _ => lenV rv)
 case atStart => exact ⟨0, pz, F, by simp, Nat.zero_le _, HN.out.2.1, H3.out, IsZP.empty 0 _ _ _ (by omega), BoxZ.mk eb HL.out, hx⟩
 case round =>
  clear hx eb HL H3 hmax
  obtain ⟨j, Q, R, rfl, hj, hst, hR, hQ, ⟨b6, A6, n6, c6, eb, hl⟩, hx⟩ := hrel
  obtain ⟨AR, cR, lr, rfl, j1, j2, hA, j3, j4, j5⟩ := hR.form
  obtain ⟨AQ, cQ, rfl, -⟩ := hQ.shape
  have HS := Lib.hid (And.intro hst (And.intro hA (And.intro j3 (And.intro j5 (And.intro hR (And.intro hQ hl))))))
  clear hst hA j3 j4 j5 hR hQ hl
  by_cases hle : pl G ≤ pl R
  ·obtain ⟨k, hk⟩ : ∃ k, k = pl R - pl G := ⟨_, rfl⟩
   have hlt : pl R - 1 < lr.length := by have := HS.out.2.2.1; omega
   obtain ⟨g, o, b, B1, n1, d1, rfl, -, q0, q1, hq⟩ := HS.out.2.1.at_ (j := pl R - 1) hlt
   have hval := lz_at HS.out.2.2.2.1 (i := pl R - 1) hlt
   rw [hval] at hq
   obtain ⟨z, hzz⟩ : ∃ z, z = (R (pl R - 1)).num := ⟨_, rfl⟩
   rw [← hzz] at hq
   have hind : ((pl R : Int) - 1).toNat = pl R - 1 := by omega
   have hkk : (pl R : Int) - 1 - ((pl G : Int) - 1) = (k : Nat) := by omega
   have hjn : j < n := by have := HS.out.1.deg; have := HN.out.2.2; omega
   have hzc : (z : Rat) = R (pl R - 1) := by rw [hzz]; exact (HS.out.1.zR.num _).symm
   have hst2 := HS.out.1.step HN.out.2.2 HX.out.2.2.1 HX.out.2.2.2.2.1 HX.out.2.2.2.1 HX.out.2.2.2.2.2.1 hle hk hzc
   have HZ := Lib.hid (show PrSt F G n s t (j + 1) (pad (psc (ld G) Q) (mono k (z : Rat))) (psb (psc (ld G) R) (cv (mono k (z : Rat)) G)) ∧ pl (psb (psc (ld G) R) (cv (mono k (z : Rat)) G)) < pl R ∧ z ≠ 0 ∧ qsz (z : Rat) + 1 ≤ M ∧ (∀ i, qsz (cv (mono k (z : Rat)) G i) ≤ 2 * M) ∧ (∀ i, qsz (mono k (z : Rat) i) ≤ M) ∧ (∀ i, qsz (psc (ld G) Q i) ≤ 2 * M) ∧ (∀ i, qsz (psc (ld G) R i) ≤ 2 * M) ∧ (∀ i, qsz (Q i) ≤ M) ∧ (∀ i, qsz (R i) ≤ M) ∧ pl (cv (mono k (z : Rat)) G) ≤ 549755813888 ∧ pl (mono k (z : Rat)) ≤ 549755813888 ∧ pl Q ≤ 549755813888 ∧ pl (psc (ld G) Q) ≤ 549755813888 ∧ pl (psc (ld G) R) ≤ 549755813888 ∧ pl R ≤ 549755813888 ∧ k ≤ l.length from by
    have o1 : qsz (0 : Rat) = 1 := by decide
    have o2 := one_le_qsz (z : Rat)
    have hpG := pl_pos HX.out.2.2.1 HX.out.2.2.2.2.1
    have hdeg := HS.out.1.deg
    have hQs : ∀ i, qsz (Q i) ≤ M := fun i => by have := HX.out.2.2.2.2.2.2.1 _ hj _ (HS.out.1.qQ i); omega
    have hRs : ∀ i, qsz (R i) ≤ M := fun i => by have := HX.out.2.2.2.2.2.2.1 _ hj _ (HS.out.1.qR i); omega
    have hzq : qsz (z : Rat) + 1 ≤ M := by rw [hzc]; have := HX.out.2.2.2.2.2.2.1 _ hj _ (HS.out.1.qR (pl R - 1)); omega
    have hlG : qsz (ld G) ≤ M := by have h1 : qsz (ld G) ≤ t := HX.out.2.2.2.2.2.1 _; have := HX.out.2.2.2.2.2.2.2.2.1; omega
    have hQp := pl_le HS.out.1.fQ
    refine ⟨hst2.1, hst2.2, fun e => ?_, hzq, fun i => ?_, fun i => ?_, fun i => ?_, fun i => ?_, hQs, hRs, ?_, ?_, ?_, ?_, ?_, ?_, ?_⟩
    ·have h1 : R (pl R - 1) ≠ 0 := pl_top HS.out.1.fR (by omega)
     apply h1; rw [← hzc, e]; rfl
    ·rw [mono_cv]
     show qsz ((z : Rat) * sh k G i) ≤ _
     have a1 := qsz_mul (z : Rat) (sh k G i)
     have a2 : qsz (sh k G i) ≤ M := by
      unfold sh; split
      ·omega
      ·have := HX.out.2.2.2.2.2.1 (i - k); have := HX.out.2.2.2.2.2.2.2.2.1; omega
     omega
    ·unfold mono; split <;> omega
    ·have a1 := qsz_mul (ld G) (Q i); have a2 := hQs i; show qsz (ld G * Q i) ≤ _; omega
    ·have a1 := qsz_mul (ld G) (R i); have a2 := hRs i; show qsz (ld G * R i) ≤ _; omega
    ·have := pl_le ((mono_sup k (z : Rat)).cv (pl_sup HX.out.2.2.1)); omega
    ·have := pl_le (mono_sup k (z : Rat)); omega
    ·omega
    ·have := pl_le (HS.out.1.fQ.psc (ld G)); omega
    ·have := pl_le ((pl_sup HS.out.1.fR).psc (ld G)); omega
    ·omega
    ·omega)
   have Hq := Lib.hid (And.intro hq (And.intro hk hzc))
   clear hq hk hzc hval hst2 hzz
   have xw := Ext.refl wr
   go_wp2_with fail
   have hzrow : HzV 0 (wr.alloc (.cells #[.bool b, .slice B1 n1 d1] 28)) (.slice (some ⟨wr.heap.size, 0, none⟩) 1 1) [z] :=
    ZsV.has (OwnZ.row (NewZ.own (NewZ.mk Hq.out.1 (base := 0) (Nat.zero_le _) 28))) (fun x hx => by
     simp at hx; subst hx
     have h1 : sz x.natAbs ≤ qsz (x : Rat) := by rw [qsz_cast]; omega
     have h2 := HX.out.2.2.2.2.2.2.2.1
     have h3 := HZ.out.2.2.2.1
     omega)
   have HR := Lib.hid hzrow; clear hzrow
   refine Calls.mono (shift_one _ z k _ HR.out HZ.out.2.2.1 (by have := HZ.out.2.2.2.2.2.2.2.2.2.2.2.2.2.2.2.2; omega)) ?_
   rintro e w6 ⟨r6, rfl, hr6, hx6⟩
   replace xw := (xw.alloc _).trans hx6
   replace hx := (hx.alloc _).trans hx6
   replace eb := (eb.alloc _).ext hx6
   have H6 := Lib.hid hr6
   have hl6 := HS.out.2.2.2.2.2.2.kd xw.kd
   have HL6 := Lib.hid hl6
   clear hr6 hx6 HR hkk hind q0 q1 hl6
   obtain ⟨ceb0, ceb1⟩ := eb.cells2
   have feb := eb.frozen
   go_wp2_with fail
   refine Calls.mono (rscale _ _ Q (ld G).num M _ (HS.out.2.2.2.2.2.1.ext xw) (HL6.out.has HLG.out.1) HZ.out.2.2.2.2.2.2.2.2.1 (by have := HLG.out.2.1; have := HX.out.2.2.2.2.2.2.2.1; omega) HZ.out.2.2.2.2.2.2.2.2.2.2.2.2.1) ?_
   rintro e w7 ⟨r7, rfl, hr7, hx7⟩
   rw [HLG.out.2.2.1] at hr7
   have h6 := H6.out.ext hx7
   replace xw := xw.trans hx7
   replace hx := hx.trans hx7
   have H7 := Lib.hid (And.intro hr7 h6)
   have HL7 := Lib.hid (HL6.out.kd hx7.kd)
   replace eb := eb.ext hx7
   clear hr7 h6 hx7 H6 HL6 ceb0 ceb1 feb
   go_wp2_with fail
   refine Calls.mono (radd _ _ (psc (ld G) Q) (mono k (z : Rat)) (2 * M) M _ H7.out.1 H7.out.2 HZ.out.2.2.2.2.2.2.1 HZ.out.2.2.2.2.2.1 (by have := HX.out.2.2.2.2.2.2.2.1; omega) HZ.out.2.2.2.2.2.2.2.2.2.2.2.2.2.1 HZ.out.2.2.2.2.2.2.2.2.2.2.2.1) ?_
   rintro e w8 ⟨r8, rfl, hr8, hx8⟩
   obtain ⟨A8, c8, rfl, -⟩ := hr8.shape
   have h7 := H7.out.2.ext hx8
   replace xw := xw.trans hx8
   replace hx := hx.trans hx8
   have H8 := Lib.hid (And.intro hr8 h7)
   have HL8 := Lib.hid (HL7.out.kd hx8.kd)
   replace eb := eb.ext hx8
   clear hr8 h7 hx8 H7 HL7
   obtain ⟨ceb0, ceb1⟩ := eb.cells2
   have feb := eb.frozen
   go_wp2_with fail
   refine Calls.mono (rscale _ _ R (ld G).num M _ (HS.out.2.2.2.2.1.ext xw) (HL8.out.has HLG.out.1) HZ.out.2.2.2.2.2.2.2.2.2.1 (by have := HLG.out.2.1; have := HX.out.2.2.2.2.2.2.2.1; omega) HZ.out.2.2.2.2.2.2.2.2.2.2.2.2.2.2.2.1) ?_
   rintro e w9 ⟨r9, rfl, hr9, hx9⟩
   rw [HLG.out.2.2.1] at hr9
   have h8 := H8.out.1.ext hx9
   have h8' := H8.out.2.ext hx9
   replace hx := hx.trans hx9
   have H9 := Lib.hid (And.intro hr9 (And.intro h8 h8'))
   have HL9 := Lib.hid (HL8.out.kd hx9.kd)
   replace eb := eb.ext hx9
   clear hr9 h8 h8' hx9 H8 HL8 ceb0 ceb1 feb
   go_wp2_with fail
   refine Calls.mono (HC.out.2.2 k z _ hx _ H9.out.2.2 HZ.out.2.2.2.2.2.2.2.2.2.2.2.2.2.2.2.2 (by have := HZ.out.2.2.2.1; omega)) ?_
   rintro e w10 ⟨r10, rfl, hr10, hx10⟩
   have h9 := H9.out.1.ext hx10
   have h9' := H9.out.2.1.ext hx10
   replace hx := hx.trans hx10
   have H10 := Lib.hid (And.intro hr10 (And.intro h9 h9'))
   have HL10 := Lib.hid (HL9.out.kd hx10.kd)
   replace eb := eb.ext hx10
   clear hr10 h9 h9' hx10 H9 HL9
   go_wp2_with fail
   refine Calls.mono (rsub _ _ (psc (ld G) R) (cv (mono k (z : Rat)) G) (2 * M) (2 * M) _ H10.out.2.1 H10.out.1 HZ.out.2.2.2.2.2.2.2.1 HZ.out.2.2.2.2.1 (by have := HX.out.2.2.2.2.2.2.2.1; omega) HZ.out.2.2.2.2.2.2.2.2.2.2.2.2.2.2.1 HZ.out.2.2.2.2.2.2.2.2.2.2.1) ?_
   rintro e w11 ⟨r11, rfl, hr11, hx11⟩
   obtain ⟨A11, c11, rfl, -⟩ := hr11.shape
   have h10 := H10.out.2.2.ext hx11
   replace hx := hx.trans hx11
   have H11 := Lib.hid (And.intro hr11 h10)
   have HL11 := Lib.hid (HL10.out.kd hx11.kd)
   replace eb := eb.ext hx11
   clear hr11 h10 hx11 H10 HL10
   go_wp2
   go_roundw
   case rel => exact ⟨j + 1, _, _, by go_num, by omega, HZ.out.1, H11.out.1, H11.out.2, BoxZ.mk eb HL11.out, hx⟩
   case measure => exact HZ.out.2.1
  ·have hend := HS.out.1.end_ HN.out.2.2 HX.out.1 HX.out.2.2.1 HX.out.2.2.2.2.1 (by omega) hj
   have hnj : (n : Int) - j = ((n - j : Nat) : Int) := by omega
   have hsz := HX.out.2.2.2.2.2.2.2.2.2 (n - j) (by omega)
   have hpw := sz_powz (ld G).num t HLG.out.2.2.2 (n - j)
   have hQs : ∀ i, qsz (Q i) ≤ M := fun i => by have := HX.out.2.2.2.2.2.2.1 _ hj _ (HS.out.1.qQ i); omega
   have hRs : ∀ i, qsz (R i) ≤ M := fun i => by have := HX.out.2.2.2.2.2.2.1 _ hj _ (HS.out.1.qR i); omega
   have hQp := pl_le HS.out.1.fQ
   have hpc : (((ld G).num ^ (n - j) : Int) : Rat) = ld G ^ (n - j) := by rw [← pow_int, HLG.out.2.2.1]
   have hql : qsz (((ld G).num ^ (n - j) : Int) : Rat) ≤ M + 1 := by rw [qsz_cast]; omega
   have HE := Lib.hid (And.intro hend (And.intro hsz (And.intro hpw (And.intro hQs (And.intro hRs (And.intro (show pl Q ≤ 549755813888 by omega) (And.intro (show pl R ≤ 549755813888 by have := HS.out.1.deg; omega) (And.intro hpc hql))))))))
   clear hend hsz hpw hQs hRs hQp hpc hql
   have hnb : n - j ≤ 1099511627776 := by omega
   obtain ⟨ceb0, ceb1⟩ := eb.cells2
   have feb := eb.frozen
   go_wp2_with fail
   (try rw [hnj])
   refine Calls.mono (raised_r _ (ld G).num (n - j) t _ (HS.out.2.2.2.2.2.2.has HLG.out.1) HLG.out.2.2.2 HE.out.2.1.1 hnb) ?_
   rintro e w6 ⟨r6, rfl, hr6, hx6⟩
   obtain ⟨b7, A7, n7, c7, rfl⟩ := hr6.cells
   obtain ⟨W7, eW7, e7, x7⟩ := Box.made w6 28 #[.bool b7, .slice A7 n7 c7] (by simp [isDig])
   have xw := hx6.trans x7
   have hp7 := hr6.kd x7.kd
   replace hx := hx.trans xw
   have H7 := Lib.hid hp7
   clear hr6 hp7 hx6 x7 ceb0 ceb1 feb hnj
   go_upto_region 11 with (fail)
   rw [← eW7]
   clear eW7
   generalize w6.heap.size = g7 at *
   obtain ⟨q0, q1⟩ := e7.cells2
   go_wp2_with fail
   obtain ⟨Rr, hRr⟩ : ∃ Rr, Rr = R := ⟨_, rfl⟩
   have HRr := Lib.hid hRr; clear hRr
   refine wp_region_par (k := 8) (D := [62, 63, 64, 65, 66, 67, 4, 5]) (T := [[], [], [0, 1], [], [], [0, 1, 2, 3, 4], [0, 1, 2, 3, 4, 5], [0, 1, 2, 3, 4, 5, 6]]) (EK := [6, 12, 7]) (EV := [?e1x0, ?e1x1, ?e1x2]) (VL := [(kv ?v1x0), (kv ?v1x1), (fun γ => γ 2), (kv ?v1x3), (kv ?v1x4), (fun γ => γ 5), (fun γ => γ 2), (fun γ => γ 5)]) (FL := fun γ w' => [True, True, IsZP 0 w' (γ 2) (psc (((ld G).num ^ (n - j) : Int) : Rat) Q), True, True, IsZP 0 w' (γ 5) (psc (((ld G).num ^ (n - j) : Int) : Rat) Rr), True, True]) ?hE1 (by kernel_rfl) (by kernel_rfl) (by rfl) (by kernel_rfl) ?hloc1 ?hmono1 ?hstep1 ?htail1
   case hE1 => refine ⟨?_, ?_, ?_, trivial⟩ <;> (simp only [List.getElem?_toArray, List.getElem?_cons_succ, List.getElem?_cons_zero]; rfl)
   case hstep1 =>
    refine ⟨⟨⟨⟨⟨⟨⟨⟨trivial, ?_⟩, ?_⟩, ?_⟩, ?_⟩, ?_⟩, ?_⟩, ?_⟩, ?_⟩
    iterate 2 focus
     intro γ w' he hf; clear hf; refine ⟨by trivial, ?_⟩; intro R hR; have hc := he.cells
     have cq0 := he.cell q0
     have cq1 := he.cell q1
     go_simp; (try go_ints); (try (rw [if_neg (by omega)])); (try (rw [if_pos (by omega)])); (try go_simp); (try go_ints)
     refine hR _ _ (Ext.refl _) ?_ trivial; rfl
    ·intro γ w' he hf; clear hf; refine ⟨trivial, ?_⟩; intro R hR
     go_simp
     refine Calls.mono (show Calls _ _ _ w' (Gives w' fun r w'' => IsZP 0 w'' (r) (psc (((ld G).num ^ (n - j) : Int) : Rat) Q)) from rscale _ _ Q _ M w' (HS.out.2.2.2.2.2.1.ext (xw.trans he)) ((H7.out.kd he.kd).has (by have := HE.out.2.2.1; have := HE.out.2.1.2; have := HX.out.2.2.2.2.2.2.2.1; omega)) HE.out.2.2.2.1 (by have := HE.out.2.2.2.2.2.2.2.2; have := HX.out.2.2.2.2.2.2.2.1; omega) HE.out.2.2.2.2.2.1) ?_
     rintro e w2 ⟨v, rfl, hv, hx⟩
     exact ⟨v, rfl, hR v w2 hx rfl hv⟩
    iterate 2 focus
     intro γ w' he hf; clear hf; refine ⟨by trivial, ?_⟩; intro R hR; have hc := he.cells
     have cq0 := he.cell q0
     have cq1 := he.cell q1
     go_simp; (try go_ints); (try (rw [if_neg (by omega)])); (try (rw [if_pos (by omega)])); (try go_simp); (try go_ints)
     refine hR _ _ (Ext.refl _) ?_ trivial; rfl
    ·intro γ w' he hf; have f2 : IsZP 0 w' (γ 2) (psc (((ld G).num ^ (n - j) : Int) : Rat) Q) := hf 2 (by decide); clear hf; refine ⟨trivial, ?_⟩; intro R hR
     go_simp
     refine Calls.mono (show Calls _ _ _ w' (Gives w' fun r w'' => IsZP 0 w'' (r) (psc (((ld G).num ^ (n - j) : Int) : Rat) Rr)) from rscale _ _ Rr _ M w' (HRr.out ▸ HS.out.2.2.2.2.1.ext (xw.trans he)) ((H7.out.kd he.kd).has (by have := HE.out.2.2.1; have := HE.out.2.1.2; have := HX.out.2.2.2.2.2.2.2.1; omega)) (HRr.out ▸ HE.out.2.2.2.2.1) (by have := HE.out.2.2.2.2.2.2.2.2; have := HX.out.2.2.2.2.2.2.2.1; omega) (HRr.out ▸ HE.out.2.2.2.2.2.2.1)) ?_
     rintro e w2 ⟨v, rfl, hv, hx⟩
     exact ⟨v, rfl, hR v w2 hx rfl hv⟩
    ·intro γ w' he hf; have f2 : IsZP 0 w' (γ 2) (psc (((ld G).num ^ (n - j) : Int) : Rat) Q) := hf 2 (by decide); have f5 : IsZP 0 w' (γ 5) (psc (((ld G).num ^ (n - j) : Int) : Rat) Rr) := hf 5 (by decide); clear hf; refine ⟨trivial, ?_⟩; intro R hR
     have hc := he.cells
     go_simp
     (try go_ints); (try (rw [if_neg (by omega)])); (try (rw [if_pos (by omega)])); (try go_simp); (try go_ints)
     refine hR _ _ (Ext.refl _) ?_ trivial
     rfl
    ·intro γ w' he hf; have f2 : IsZP 0 w' (γ 2) (psc (((ld G).num ^ (n - j) : Int) : Rat) Q) := hf 2 (by decide); have f5 : IsZP 0 w' (γ 5) (psc (((ld G).num ^ (n - j) : Int) : Rat) Rr) := hf 5 (by decide); clear hf; refine ⟨trivial, ?_⟩; intro R hR
     have hc := he.cells
     go_simp
     (try go_ints); (try (rw [if_neg (by omega)])); (try (rw [if_pos (by omega)])); (try go_simp); (try go_ints)
     refine hR _ _ (Ext.refl _) ?_ trivial
     rfl
   case hloc1 =>
    exact ⟨⟨⟨⟨⟨⟨⟨⟨trivial, (fun γ γ' h => ⟨rfl, fun _ => rfl⟩)⟩, (fun γ γ' h => ⟨rfl, fun _ => rfl⟩)⟩, (fun γ γ' h => ⟨h 2 rfl, fun w' => (congrArg (fun a => IsZP 0 w' (a) (psc (((ld G).num ^ (n - j) : Int) : Rat) Q)) (h 2 rfl))⟩)⟩, (fun γ γ' h => ⟨rfl, fun _ => rfl⟩)⟩, (fun γ γ' h => ⟨rfl, fun _ => rfl⟩)⟩, (fun γ γ' h => ⟨h 5 rfl, fun w' => (congrArg (fun a => IsZP 0 w' (a) (psc (((ld G).num ^ (n - j) : Int) : Rat) Rr)) (h 5 rfl))⟩)⟩, (fun γ γ' h => ⟨(congrArg (fun a => a) (h 2 rfl)), fun _ => rfl⟩)⟩, (fun γ γ' h => ⟨(congrArg (fun a => a) (h 5 rfl)), fun _ => rfl⟩)⟩
   case hmono1 =>
    exact ⟨⟨⟨⟨⟨⟨⟨⟨trivial, (fun γ wA w' e h => h)⟩, (fun γ wA w' e h => h)⟩, (fun γ wA w' e h => (show IsZP 0 wA (γ 2) (psc (((ld G).num ^ (n - j) : Int) : Rat) Q) from h).ext e)⟩, (fun γ wA w' e h => h)⟩, (fun γ wA w' e h => h)⟩, (fun γ wA w' e h => (show IsZP 0 wA (γ 5) (psc (((ld G).num ^ (n - j) : Int) : Rat) Rr) from h).ext e)⟩, (fun γ wA w' e h => h)⟩, (fun γ wA w' e h => h)⟩
   intro γ w8 hx8 hF
   have p2 : IsZP 0 w8 (γ 2) (psc (((ld G).num ^ (n - j) : Int) : Rat) Q) := Each.get hF 2 (by decide)
   have p5 : IsZP 0 w8 (γ 5) (psc (((ld G).num ^ (n - j) : Int) : Rat) Rr) := Each.get hF 5 (by decide)
   clear hF
   simp only [fillAll, gV, kv, List.getD_cons_zero, List.getD_cons_succ, Act.put, List.setIfInBounds_toArray, List.set_cons_zero, List.set_cons_succ, List.toList_toArray, List.drop_succ_cons, List.drop_zero, List.drop_nil, Nat.zero_add, Nat.reduceAdd]
   generalize γ 2 = g2 at *
   generalize γ 5 = g5 at *
   clear γ
   rw [HE.out.2.2.2.2.2.2.2.1, HE.out.1.1] at p2
   rw [HRr.out, HE.out.2.2.2.2.2.2.2.1, HE.out.1.2] at p5
   have HP := Lib.hid (And.intro p2 p5); clear p2 p5
   go_wp2
   go_ret2
   exact Gives.mk ⟨_, _, rfl, HP.out.1, HP.out.2⟩ (hx.trans hx8)
end Go.Proofs.YtfacbpnegkjcgaaGreatDoor
namespace Go.Proofs.YtfacbpnegkjcgaaGreatDoor
open Go.RowKit Go.Hp
theorem rpdiv_p (v u : Value) (F G : Nat → Rat) (s M : Nat) (w : World) (hv : IsZP 0 w v F) (hu : IsZP 0 w u G) (hs : ∀ i, qsz (F i) ≤ s) (ht : ∀ i, qsz (G i) ≤ s) (h0 : G ≠ pz) (hn : pl F ≤ 1000000) (hm : pl G ≤ 1000000) (hM : s + (pl F + 2) * (s + 1) + s + 1 ≤ M) (hst : 2 + (pl F + pl G + 4) * (2 * M + 4) ≤ 274877906944) :
  Calls Tryz.prog 33 #[v, u] w (Gives w (TupP2 (psQ F G (pl F + 1 - pl G)) (psR F G (pl F + 1 - pl G)))) := by
 have hMb : 4 * M ≤ 274877906944 := by
  have : 4 * (2 * M + 4) ≤ (pl F + pl G + 4) * (2 * M + 4) := Nat.mul_le_mul_right _ (by omega)
  omega
 obtain ⟨l, h1, h2, -, rfl⟩ := hv.hz (fun i => by have := hs i; omega)
 obtain ⟨m, k1, k2, -, rfl⟩ := hu.hz (fun i => by have := ht i; omega)
 exact rpdiv_z v u l m s s M w h1 k1 hs ht (by omega) (by omega) h0 (by rw [h2]; exact hM) (by rw [h2, k2]; exact hst)
theorem rprim (v : Value) (F : Nat → Rat) (w : World) (hv : IsZP 0 w v F) (hs : ∀ i, qsz (F i) ≤ 549755813888) (hn : pl F ≤ 549755813888) :
  Calls Tryz.prog 18 #[v] w (Gives w fun r w' => IsZP w.heap.size w' r (pp F)) := by
 obtain ⟨l, h1, h2, -, rfl⟩ := hv.hz (fun i => by have := hs i; omega)
 exact primitive_rz v l w h1 hs (by omega)
set_option maxRecDepth 20000 in
set_option maxHeartbeats 8000000 in
theorem rgcd_z (v u : Value) (l m : List Int) (S M M2 : Nat) (w : World) (hv : HzV 0 w v l) (hu : HzV 0 w u m) (hs : ∀ i, qsz (cz l i) ≤ S) (ht : ∀ i, qsz (cz m i) ≤ S) (hn : l.length ≤ 1000) (hm : m.length ≤ 1000) (hM : (S + 1) * 2 ^ (pl (cz l) + pl (cz m)) ≤ M) (hB : M + (pl (cz l) + pl (cz m) + 2) * (M + 1) + M + 1 ≤ M2) (hB2 : 2 + (2 * (pl (cz l) + pl (cz m)) + 4) * (2 * M2 + 4) ≤ 274877906944) :
  Calls Tryz.prog 45 #[v, u] w (Gives w fun r w' => IsZP 0 w' r (zgc (cz l) (cz m))) := by
 have HV := Lib.hid hv; have HU := Lib.hid hu
 obtain ⟨A0, c0, rfl⟩ := hv.len
 obtain ⟨A1, c1, rfl⟩ := hu.len
 clear hv hu
 have hc1 := pl_le (cz_sup l)
 have hc2 := pl_le (cz_sup m)
 have hSM : S + 1 ≤ M := by
  have h : 0 < 2 ^ (pl (cz l) + pl (cz m)) := Nat.pow_pos (by decide)
  have := Nat.le_mul_of_pos_right (S + 1) h; omega
 have hM2b : 4 * M2 + 10 ≤ 274877906944 := by
  have : 2 * (2 * M2 + 4) ≤ (2 * (pl (cz l) + pl (cz m)) + 4) * (2 * M2 + 4) := Nat.mul_le_mul_right _ (by omega)
  omega
 have hMM : M ≤ M2 := by omega
 have hcn : sz (cn (cz l)) ≤ S ∧ sz (cn (cz m)) ≤ S := ⟨cn_sz hs _, cn_sz ht _⟩
 have hst := GzSt.start (Fin_.cz l) (Fin_.cz m) (ZI.cz l) (ZI.cz m) hs ht
 have hP1 := fun W (x : Ext w W) => primitive_rz _ l W (HV.out.ext x) (fun i => by have := hs i; omega) (by omega)
 have hP2 := fun W (x : Ext w W) => primitive_rz _ m W (HU.out.ext x) (fun i => by have := ht i; omega) (by omega)
 have hC1 := content_rz _ l w HV.out (fun i => by have := hs i; omega) (by omega)
 have hC2 := fun W (x : Ext w W) => content_rz _ m W (HU.out.ext x) (fun i => by have := ht i; omega) (by omega)
 have hz := (show (∀ A, GzSt (cz l) (cz m) (pl (cz l) + pl (cz m)) S A pz → psc ((Nat.gcd (cn (cz l)) (cn (cz m)) : Nat) : Rat) A = zgc (cz l) (cz m)) from
  fun A h => (zgc_eq (h.end_ (Fin_.cz l) (Fin_.cz m) (ZI.cz l) (ZI.cz m) rfl)).symm)
 have hpl : pl (cz l) + pl (cz m) ≤ 2000 := by omega
 obtain ⟨F, hF⟩ : ∃ F, F = cz l := ⟨_, rfl⟩
 obtain ⟨G, hG⟩ : ∃ G, G = cz m := ⟨_, rfl⟩
 rw [← hF] at hcn hC1
 rw [← hG] at hcn
 rw [← hF, ← hG] at hM hB hB2 hst hz hpl ⊢
 simp only [← hF] at hP1
 simp only [← hG] at hP2 hC2
 have HC := Lib.hid (And.intro hC1 (And.intro hC2 (And.intro hP1 hP2)))
 have HX := Lib.hid (And.intro hM (And.intro hB (And.intro hz (And.intro hcn (And.intro hSM (And.intro hB2 (And.intro hM2b hMM)))))))
 have HSt := Lib.hid (And.intro hst hpl)
 clear hs ht hn hm hM hB hB2 hM2b hMM hc1 hc2 hSM hcn hst hP1 hP2 hC1 hC2 hz hF hG hpl HV HU
 go_enter Tryz.func45, Tryz.ntmps45
 go_wp2_with fail
 refine Calls.mono HC.out.1 ?_
 rintro e w1 ⟨r1, rfl, hr1, hx⟩
 go_wp2_with fail
 refine Calls.mono (HC.out.2.1 w1 hx) ?_
 rintro e w2 ⟨r2, rfl, hr2, hx2⟩
 have H12 := Lib.hid (And.intro ((hr1.kd hx2.kd).has (by have h1 := HX.out.2.2.2.1.1; have h2 := HX.out.2.2.2.2.1; have h3 := HX.out.2.2.2.2.2.2; simp only [Int.natAbs_natCast]; omega)) (hr2.has (by have h1 := HX.out.2.2.2.1.2; have h2 := HX.out.2.2.2.2.1; have h3 := HX.out.2.2.2.2.2.2; simp only [Int.natAbs_natCast]; omega)))
 replace hx := hx.trans hx2
 clear hr1 hr2 hx2
 go_wp2_with fail
 refine Calls.mono (gcd_r _ _ (cn F : Nat) (cn G : Nat) _ H12.out.1 H12.out.2 (by have h1 := HX.out.2.2.2.1.1; have h2 := HX.out.2.2.2.2.1; have h3 := HX.out.2.2.2.2.2.2; simp only [Int.natAbs_natCast]; omega) (by have h1 := HX.out.2.2.2.1.2; have h2 := HX.out.2.2.2.2.1; have h3 := HX.out.2.2.2.2.2.2; simp only [Int.natAbs_natCast]; omega)) ?_
 rintro e w3 ⟨r3, rfl, hr3, hx3⟩
 obtain ⟨b5, A5, n5, c5, rfl⟩ := hr3.cells
 obtain ⟨cc, hcc⟩ : ∃ cc : Nat, cc = Nat.gcd (cn F) (cn G) := ⟨_, rfl⟩
 replace hr3 : IsZ w3 (.agg #[.bool b5, .slice A5 n5 c5]) (cc : Nat) := by rw [hcc]; exact hr3
 obtain ⟨W4, eW4, e4, x4⟩ := Box.made w3 28 #[.bool b5, .slice A5 n5 c5] (by simp [isDig])
 have ec := BoxZ.mk e4 (hr3.kd x4.kd)
 replace hx := (hx.trans hx3).trans x4
 have HCC := Lib.hid hcc
 clear hx3 x4 hr3 e4 H12 hcc
 go_wp2_with fail
 rw [← eW4]
 clear eW4
 generalize w3.heap.size = gc at *
 refine Calls.mono (HC.out.2.2.1 W4 hx) ?_
 rintro e w5 ⟨r5, rfl, hr5, hx5⟩
 have ec5 := ec.ext hx5
 replace hx := hx.trans hx5
 have H5 := Lib.hid (hr5.base_le (Nat.zero_le _)); clear hr5 hx5
 go_wp2_with fail
 refine Calls.mono (HC.out.2.2.2 w5 hx) ?_
 rintro e w6 ⟨r6, rfl, hr6, hx6⟩
 replace ec5 := ec5.ext hx6
 replace hx := hx.trans hx6
 have h5 := H5.out.ext hx6
 have h6 := hr6.base_le (Nat.zero_le _)
 clear hr6 hx6 H5
 go_wp2
 go_loopw [6, 7] (fun fv gv wr => ∃ A B, IsZP 0 wr fv A ∧ IsZP 0 wr gv B ∧ GzSt F G (pl F + pl G) S A B ∧ BoxZ wr gc 28 (cc : Nat) ∧ Ext w wr) (fun _ gv _ => lenV gv)
 case atStart => exact ⟨_, _, h5, h6, HSt.out.1, ec5, hx⟩
 case round =>
  clear h5 h6 ec5 hx ec
  obtain ⟨A, B, hA, hB, hst, ec, hx⟩ := hrel
  obtain ⟨A2, c2, rfl, -⟩ := hA.shape
  obtain ⟨A3, c3, rfl, -⟩ := hB.shape
  have HA := Lib.hid (And.intro hA hB); clear hA hB
  have HS := Lib.hid hst; clear hst
  by_cases h0 : 0 < pl B
  ·have hbn : B ≠ pz := fun e => by rw [e, pl_pz] at h0; omega
   have hroom := HS.out.room rfl
   have hpl := HS.out.deg
   have HR := Lib.hid (show (∀ i, qsz (A i) ≤ M) ∧ (∀ i, qsz (B i) ≤ M) ∧ M + (pl A + 2) * (M + 1) + M + 1 ≤ M2 ∧ B ≠ pz ∧ 2 + (pl A + pl B + 4) * (2 * M2 + 4) ≤ 274877906944 ∧ pl A ≤ 1000000 ∧ pl B ≤ 1000000 from by
    refine ⟨fun i => Nat.le_trans (hroom.1 i) HX.out.1, fun i => Nat.le_trans (hroom.2.1 i) HX.out.1, ?_, hbn, ?_, by have := HSt.out.2; omega, by have := HSt.out.2; omega⟩
    ·have h1 := HX.out.2.1
     have h2 : (pl A + 2) * (M + 1) ≤ (pl F + pl G + 2) * (M + 1) := Nat.mul_le_mul_right _ (by omega)
     omega
    ·have h1 := HX.out.2.2.2.2.2.1
     have h2 : (pl A + pl B + 4) * (2 * M2 + 4) ≤ (2 * (pl F + pl G) + 4) * (2 * M2 + 4) := Nat.mul_le_mul_right _ (by omega)
     omega)
   have hst2 := HS.out.step hbn (R := psR A B (pl A + 1 - pl B)) rfl
   have HS2 := Lib.hid (And.intro hst2.1 (And.intro hst2.2 hroom.2.2)); clear hst2 hbn hroom hpl
   go_wp2_with fail
   refine Calls.mono (rpdiv_p _ _ A B M M2 _ HA.out.1 HA.out.2 HR.out.1 HR.out.2.1 HR.out.2.2.2.1 HR.out.2.2.2.2.2.1 HR.out.2.2.2.2.2.2 HR.out.2.2.1 HR.out.2.2.2.2.1) ?_
   rintro e w7 ⟨r7, rfl, ⟨qv, rv, rfl, hq, hr⟩, hx7⟩
   have hrr := hr.base_le (b := 0) (Nat.zero_le _)
   have hB7 := HA.out.2.ext hx7
   have ec7 := ec.ext hx7
   replace hx := hx.trans hx7
   have H7 := Lib.hid (And.intro hrr hB7); clear hr hrr hB7 hq hx7 ec
   go_wp2_with fail
   refine Calls.mono (rprim _ _ _ H7.out.1 (fun i => by
    have h1 := HS2.out.2.2 i
    have h2 := HX.out.1
    have h3 : (S + 1) * 2 ^ (pl F + pl G - (pl A + pl B) + (pl A + 1 - pl B)) ≤ (S + 1) * 2 ^ (pl F + pl G) * 2 := by
     have e1 : (S + 1) * 2 ^ (pl F + pl G) * 2 = (S + 1) * 2 ^ (pl F + pl G + 1) := by rw [Nat.pow_succ, Nat.mul_assoc]
     rw [e1]
     refine Nat.mul_le_mul_left _ (Nat.pow_le_pow_right (by decide) ?_)
     have := HS.out.deg
     omega
    have h4 := HX.out.2.2.2.2.2.2
    omega) (by have := psR_top HS.out.fA HS.out.fB HR.out.2.2.2.1; have := HR.out.2.2.2.2.2.2; omega)) ?_
   rintro e w8 ⟨r8, rfl, hr8, hx8⟩
   have hB8 := H7.out.2.ext hx8
   have hp8 := hr8.base_le (b := 0) (Nat.zero_le _)
   have ec8 := ec7.ext hx8
   replace hx := hx.trans hx8
   obtain ⟨A4, c4, rfl, -⟩ := hr8.shape
   have H8 := Lib.hid (And.intro hB8 hp8); clear hB8 hp8 hr8 hx8 ec7 H7
   go_wp2
   go_roundw
   case rel => exact ⟨_, _, H8.out.1, H8.out.2, HS2.out.1, ec8, hx⟩
   case measure => exact HS2.out.2.1
  ·have hbz : B = pz := (pl_zero HS.out.fB).1 (by omega)
   have hroom := HS.out.room rfl
   subst hbz
   have hz := HX.out.2.2.1 A HS.out
   have HZ := Lib.hid (And.intro hz (And.intro hroom.1 (show pl A ≤ 2000 by have := HS.out.deg; have := HSt.out.2; omega))); have h0 : pl pz = 0 := pl_pz
   rw [h0]
   clear hz hroom
   obtain ⟨b, Bv, bn, bc, e8, hb8⟩ := ec
   have Hb := Lib.hid hb8; clear hb8
   obtain ⟨ce80, ce81⟩ := e8.cells2
   have fe8 := e8.frozen
   go_wp2_with fail
   have hcs : sz cc ≤ S := by
    rw [HCC.out]
    have h1 := HX.out.2.2.2.1
    by_cases e : cn F = 0
    ·rw [e, Nat.gcd_zero_left]; exact h1.2
    ·exact Nat.le_trans (sz_mono (Nat.gcd_le_left _ (Nat.pos_of_ne_zero e))) h1.1
   have Hcs := Lib.hid hcs; clear hcs
   refine Calls.mono (rscale _ _ A (cc : Nat) M _ HA.out.1 (Hb.out.has (by have h1 := Hcs.out; have h3 := HX.out.2.2.2.2.1; have h4 := HX.out.2.2.2.2.2.2; simp only [Int.natAbs_natCast]; omega)) (fun i => Nat.le_trans (HZ.out.2.1 i) HX.out.1) (by rw [qsz_cast]; have h1 := Hcs.out; have h3 := HX.out.2.2.2.2.1; have h4 := HX.out.2.2.2.2.2.2; simp only [Int.natAbs_natCast]; omega) (by have := HZ.out.2.2; omega)) ?_
   rintro e w9 ⟨r9, rfl, hr9, hx9⟩
   have h9 : IsZP 0 w9 r9 (zgc F G) := by
    rw [← HZ.out.1, ← HCC.out]; exact hr9
   have H9 := Lib.hid h9; clear h9 hr9
   go_wp2
   go_ret
   exact Gives.mk H9.out (hx.trans hx9)
end Go.Proofs.YtfacbpnegkjcgaaGreatDoor
namespace Go.Proofs.YtfacbpnegkjcgaaGreatDoor
open Go.RowKit Go.Hp
def SqOutR (base : Nat) (F : Nat → Rat) (r : Value) (w : World) : Prop := ∃ a u us K, r = .tuple #[a, u] ∧ IsZ w a (pcn F) ∧ SqK (pp F) K ∧ Fac base 76 w u us (yl (y0 (pp F)) (yc (pp F)) K)
theorem rgcd_p (v u : Value) (F G : Nat → Rat) (S M M2 : Nat) (w : World) (hv : IsZP 0 w v F) (hu : IsZP 0 w u G) (hs : ∀ i, qsz (F i) ≤ S) (ht : ∀ i, qsz (G i) ≤ S) (hn : pl F ≤ 1000) (hm : pl G ≤ 1000) (hM : (S + 1) * 2 ^ (pl F + pl G) ≤ M) (hB : M + (pl F + pl G + 2) * (M + 1) + M + 1 ≤ M2) (hB2 : 2 + (2 * (pl F + pl G) + 4) * (2 * M2 + 4) ≤ 274877906944) :
  Calls Tryz.prog 45 #[v, u] w (Gives w fun r w' => IsZP 0 w' r (zgc F G)) := by
 have hSM : S + 1 ≤ M := by
  have h : 0 < 2 ^ (pl F + pl G) := Nat.pow_pos (by decide)
  have := Nat.le_mul_of_pos_right (S + 1) h; omega
 have hM2b : 4 * M2 + 10 ≤ 274877906944 := by
  have : 2 * (2 * M2 + 4) ≤ (2 * (pl F + pl G) + 4) * (2 * M2 + 4) := Nat.mul_le_mul_right _ (by omega)
  omega
 obtain ⟨l, h1, h2, -, rfl⟩ := hv.hz (fun i => by have := hs i; omega)
 obtain ⟨m, k1, k2, -, rfl⟩ := hu.hz (fun i => by have := ht i; omega)
 exact rgcd_z v u l m S M M2 w h1 k1 hs ht (by omega) (by omega) hM hB hB2
theorem rdivide_p (v u : Value) (F G : Nat → Rat) (w : World) (hv : IsZP 0 w v F) (hu : IsZP 0 w u G) (hs : ∀ i, qsz (F i) ≤ 36000) (ht : ∀ i, qsz (G i) ≤ 36000) (hn : pl F ≤ 17) (hm : pl G ≤ 17) (h0 : G ≠ pz) (hd : Zdv F G) :
  Calls Tryz.prog 32 #[v, u] w (Gives w fun r w' => ∃ q, r = .tuple #[q, .bool true] ∧ IsZP 0 w' q (pq F G)) := by
 obtain ⟨l, h1, h2, -, rfl⟩ := hv.hz (fun i => by have := hs i; omega)
 obtain ⟨m, k1, k2, -, rfl⟩ := hu.hz (fun i => by have := ht i; omega)
 have e1 : (l.length + 2) * (36000 + 1) ≤ 19 * 36001 := Nat.mul_le_mul_right _ (by omega)
 have e2 : (l.length + m.length + 4) * (2 * 756021 + 4) ≤ 38 * (2 * 756021 + 4) := Nat.mul_le_mul_right _ (by omega)
 refine Gives.imp (rdivide_z v u l m 36000 36000 756021 w h1 k1 hs ht (by omega) (by omega) h0 (by omega) (by omega)) fun r w' hr => ?_
 obtain ⟨q, b, rfl, -, hb, hq⟩ := hr
 have hbt := hb.2 hd
 subst hbt
 exact ⟨q, rfl, hq rfl⟩
theorem degree_p (v : Value) (F : Nat → Rat) (w : World) (hv : IsZP 0 w v F) (hs : ∀ i, qsz (F i) ≤ 1099511627776) (hn : pl F ≤ 1099511627776) : Calls Tryz.prog 25 #[v] w (Gives w fun r _ => r = .int .i64 ((pl F : Int) - 1)) := by
 obtain ⟨l, h1, h2, -, rfl⟩ := hv.hz hs
 exact degree_rz v l w h1 (by omega)
set_option maxRecDepth 20000 in
set_option maxHeartbeats 8000000 in
theorem rsqf_z (v : Value) (l : List Int) (S n M M2 : Nat) (w : World) (hv : HzV 0 w v l) (hs : ∀ i, qsz (cz l i) ≤ S) (hd : ∀ i, qsz (pd (pp (cz l)) i) ≤ S) (hS : S ≤ 5) (hl : l.length ≤ 1000) (hp : pl (cz l) ≤ n) (hn : n ≤ 11) (h0 : cz l ≠ pz)
  (hM : (S + 1) * 2 ^ (n + (n - 1)) ≤ M) (hB : M + (n + (n - 1) + 2) * (M + 1) + M + 1 ≤ M2) (hB2 : 2 + (2 * (n + (n - 1)) + 4) * (2 * M2 + 4) ≤ 274877906944) :
  Calls Tryz.prog 53 #[v] w (Gives w (SqOutR w.heap.size (cz l))) := by
 have HV := Lib.hid hv
 obtain ⟨A, c, rfl⟩ := hv.len
 clear hv
 have hg := Pos1.pp (ZI.cz l) (Fin_.cz l) h0
 have hpg : pl (pp (cz l)) = pl (cz l) := pp_pl (ZI.cz l) (Fin_.cz l)
 have hsg : ∀ i, qsz (pp (cz l) i) ≤ S := pp_qsz (ZI.cz l) (Fin_.cz l) hs
 have hpr := fun W (x : Ext w W) => primitive_rz _ l W (HV.out.ext x) (fun i => by have := hs i; omega) (by omega)
 have hl1 := fun W (x : Ext w W) => lead_rz _ l W (HV.out.ext x) (by omega)
 have hl2 : ∀ W u, IsZP 0 W u (pp (cz l)) → Calls Tryz.prog 65 #[u] W (Gives W fun r w' => IsZ w' r (ld (pp (cz l))).num) := fun W u hu => by
  obtain ⟨m, g1, g2, -, g4⟩ := hu.hz (fun i => by have := hsg i; omega)
  rw [← g4]
  exact lead_rz _ m W g1 (by omega)
 have hex : ∀ W u z, IsZ W u (ld (cz l)).num → IsZ W z (ld (pp (cz l))).num → Calls Tryz.prog 77 #[u, z] W (Gives W fun r w' => IsZ w' r (pcn (cz l))) := fun W u z hu hz => by
  obtain ⟨q1, q2, q3⟩ := pcn_quot (ZI.cz l) (Fin_.cz l) h0
  have b1 : sz (cz l (pl (cz l) - 1)).num.natAbs ≤ S := Nat.le_trans (qz_num (hs (pl (cz l) - 1))) (by omega)
  have b2 : sz (pp (cz l) (pl (pp (cz l)) - 1)).num.natAbs ≤ S := Nat.le_trans (qz_num (hsg (pl (pp (cz l)) - 1))) (by omega)
  rw [← q3]
  exact exact_r u z _ _ W (hu.has (by show sz (cz l (pl (cz l) - 1)).num.natAbs ≤ _; omega)) (hz.has (by show sz (pp (cz l) (pl (pp (cz l)) - 1)).num.natAbs ≤ _; omega)) q1 (by show sz (cz l (pl (cz l) - 1)).num.natAbs ≤ _; omega) (by show sz (pp (cz l) (pl (pp (cz l)) - 1)).num.natAbs ≤ _; omega)
 have hde : ∀ W u, IsZP 0 W u (pp (cz l)) → Calls Tryz.prog 43 #[u] W (Gives W fun r w' => IsZP 0 w' r (pd (pp (cz l)))) := fun W u hu => by
  obtain ⟨m, g1, g2, -, g4⟩ := hu.hz (fun i => by have := hsg i; omega)
  rw [← g4]
  exact Gives.imp (derivative_rz _ m S W g1 (by rw [g4]; exact hsg) (by omega) (by omega)) fun _ _ h => h.base_le (Nat.zero_le _)
 have hpd : pl (pd (pp (cz l))) ≤ n - 1 := by rw [pl_pd hg.f]; omega
 have hg1 : ∀ W u z, IsZP 0 W u (pp (cz l)) → IsZP 0 W z (pd (pp (cz l))) → Calls Tryz.prog 45 #[u, z] W (Gives W fun r w' => IsZP 0 w' r (yc (pp (cz l)))) := fun W u z hu hz => by
  have e : 2 ^ (pl (pp (cz l)) + pl (pd (pp (cz l)))) ≤ 2 ^ (n + (n - 1)) := Nat.pow_le_pow_right (by decide) (by omega)
  have e2 : (S + 1) * 2 ^ (pl (pp (cz l)) + pl (pd (pp (cz l)))) ≤ (S + 1) * 2 ^ (n + (n - 1)) := Nat.mul_le_mul_left _ e
  have e3 : (pl (pp (cz l)) + pl (pd (pp (cz l))) + 2) * (M + 1) ≤ (n + (n - 1) + 2) * (M + 1) := Nat.mul_le_mul_right _ (by omega)
  have e4 : (2 * (pl (pp (cz l)) + pl (pd (pp (cz l)))) + 4) * (2 * M2 + 4) ≤ (2 * (n + (n - 1)) + 4) * (2 * M2 + 4) := Nat.mul_le_mul_right _ (by omega)
  exact rgcd_p u z _ _ S M M2 W hu hz hsg hd (by omega) (by omega) (by omega) (by omega) (by omega)
 have hroom := yw_room hg (n := n) (by omega) (by omega) hsg hS
 obtain ⟨hC, hW, eg, dC, -⟩ := yc_pos hg
 have h00 : pl (yw (y0 (pp (cz l))) (yc (pp (cz l))) 0).2 = pl (yc (pp (cz l))) := rfl
 have hd1 : ∀ W u z, IsZP 0 W u (pp (cz l)) → IsZP 0 W z (yc (pp (cz l))) → Calls Tryz.prog 32 #[u, z] W (Gives W fun r w' => ∃ q, r = .tuple #[q, .bool true] ∧ IsZP 0 w' q (y0 (pp (cz l)))) := fun W u z hu hz =>
  rdivide_p u z _ _ W hu hz (fun i => by have := hsg i; omega) (hroom 0).2.1 (by omega) (by have := (hroom 0).2.2; omega) hC.n dC
 have hG2 : ∀ k W a b, IsZP 0 W a (yw (y0 (pp (cz l))) (yc (pp (cz l))) k).1 → IsZP 0 W b (yw (y0 (pp (cz l))) (yc (pp (cz l))) k).2 → Calls Tryz.prog 45 #[a, b] W (Gives W fun r w' => IsZP 0 w' r (yw (y0 (pp (cz l))) (yc (pp (cz l))) (k + 1)).1) := fun k W a b ha hb => by
  obtain ⟨r1, r2, r3⟩ := hroom k
  have e : 2 ^ (pl (yw (y0 (pp (cz l))) (yc (pp (cz l))) k).1 + pl (yw (y0 (pp (cz l))) (yc (pp (cz l))) k).2) ≤ 2 ^ 12 := Nat.pow_le_pow_right (by decide) (by omega)
  have e3 : (pl (yw (y0 (pp (cz l))) (yc (pp (cz l))) k).1 + pl (yw (y0 (pp (cz l))) (yc (pp (cz l))) k).2 + 2) * (147460096 + 1) ≤ 14 * (147460096 + 1) := Nat.mul_le_mul_right _ (by omega)
  have e4 : (2 * (pl (yw (y0 (pp (cz l))) (yc (pp (cz l))) k).1 + pl (yw (y0 (pp (cz l))) (yc (pp (cz l))) k).2) + 4) * (2 * 2359361551 + 4) ≤ 28 * (2 * 2359361551 + 4) := Nat.mul_le_mul_right _ (by omega)
  exact rgcd_p a b _ _ 36000 147460096 2359361551 W ha hb r1 r2 (by omega) (by omega) (by omega) (by omega) (by omega)
 have hD2 : ∀ k W a b, IsZP 0 W a (yw (y0 (pp (cz l))) (yc (pp (cz l))) k).1 → IsZP 0 W b (yw (y0 (pp (cz l))) (yc (pp (cz l))) (k + 1)).1 → Calls Tryz.prog 32 #[a, b] W (Gives W fun r w' => ∃ q, r = .tuple #[q, .bool true] ∧ IsZP 0 w' q (ya (y0 (pp (cz l))) (yc (pp (cz l))) k)) := fun k W a b ha hb => by
  obtain ⟨r1, r2, r3⟩ := hroom k
  obtain ⟨s1, s2, s3⟩ := hroom (k + 1)
  obtain ⟨-, -, -, dv, -⟩ := yw_eq hW hC k
  exact rdivide_p a b (yw (y0 (pp (cz l))) (yc (pp (cz l))) k).1 (yw (y0 (pp (cz l))) (yc (pp (cz l))) (k + 1)).1 W ha hb r1 s1 (by omega) (by omega) (yw_pos hW hC (k + 1)).1.n dv
 have hD3 : ∀ k W a b, IsZP 0 W a (yw (y0 (pp (cz l))) (yc (pp (cz l))) k).2 → IsZP 0 W b (yw (y0 (pp (cz l))) (yc (pp (cz l))) (k + 1)).1 → Calls Tryz.prog 32 #[a, b] W (Gives W fun r w' => ∃ q, r = .tuple #[q, .bool true] ∧ IsZP 0 w' q (yw (y0 (pp (cz l))) (yc (pp (cz l))) (k + 1)).2) := fun k W a b ha hb => by
  obtain ⟨r1, r2, r3⟩ := hroom k
  obtain ⟨s1, s2, s3⟩ := hroom (k + 1)
  obtain ⟨-, -, -, -, dv⟩ := yw_eq hW hC k
  exact rdivide_p a b (yw (y0 (pp (cz l))) (yc (pp (cz l))) k).2 (yw (y0 (pp (cz l))) (yc (pp (cz l))) (k + 1)).1 W ha hb r2 s1 (by omega) (by omega) (yw_pos hW hC (k + 1)).1.n dv
 have hE1 : ∀ k W a, IsZP 0 W a (yw (y0 (pp (cz l))) (yc (pp (cz l))) k).1 → Calls Tryz.prog 25 #[a] W (Gives W fun r _ => r = .int .i64 ((pl (yw (y0 (pp (cz l))) (yc (pp (cz l))) k).1 : Int) - 1)) := fun k W a ha =>
  degree_p a _ W ha (fun i => by have := (hroom k).1 i; omega) (by have := (hroom k).2.2; omega)
 have hE2 : ∀ k W a, IsZP 0 W a (ya (y0 (pp (cz l))) (yc (pp (cz l))) k) → Calls Tryz.prog 25 #[a] W (Gives W fun r _ => r = .int .i64 ((pl (ya (y0 (pp (cz l))) (yc (pp (cz l))) k) : Int) - 1)) := fun k W a ha => by
  obtain ⟨pa, ea, -⟩ := yw_eq hW hC k
  have dA : Zdv (pp (cz l)) (ya (y0 (pp (cz l))) (yc (pp (cz l))) k) := zdv_trans (zdv_trans ⟨yc (pp (cz l)), hC.z, hC.f, by rw [cv_comm]; exact eg⟩ (yw_zdv hW hC k).1) ⟨_, (yw_pos hW hC (k + 1)).1.z, (yw_pos hW hC (k + 1)).1.f, by rw [cv_comm]; exact ea⟩
  have hla := Dv.le pa.f hg.f hg.n (zdv_dv dA)
  exact degree_p a _ W ha (fun i => by have := zdv_qsz hg.z hg.f hg.n pa.z pa.f dA (n := n) (by omega) (by omega) hsg hS i; omega) (by omega)
 have hlow := fun k (hk : ∀ j, j ≤ k → 1 < pl (yw (y0 (pp (cz l))) (yc (pp (cz l))) j).1) => yw_low hW hC k hk
 have hyc : pl (yc (pp (cz l))) ≤ 17 := by have := (hroom 0).2.2; omega
 have hlw : ∀ k, pl (yw (y0 (pp (cz l))) (yc (pp (cz l))) k).1 ≤ 17 := fun k => by have := (hroom k).2.2; omega
 have hla : ∀ k, pl (ya (y0 (pp (cz l))) (yc (pp (cz l))) k) ≤ 17 := fun k => by
  obtain ⟨pa, ea, -⟩ := yw_eq hW hC k
  have h3 := pl_cv pa.f (yw_pos hW hC (k + 1)).1.f pa.n (yw_pos hW hC (k + 1)).1.n
  rw [← ea] at h3
  have := hlw k; have := (yw_pos hW hC (k + 1)).1.pos
  omega
 obtain ⟨F, hF⟩ : ∃ F, F = cz l := ⟨_, rfl⟩
 obtain ⟨g, hgg⟩ : ∃ g, g = pp F := ⟨_, rfl⟩
 have hpf := pl_pos (Fin_.cz l) h0
 simp only [← hF] at hpr hl1 hl2 hex hde hg1 hd1 hG2 hD2 hD3 hE1 hE2 hlow hyc hg hpf hp hlw hla ⊢
 simp only [← hgg] at hpr hl2 hex hde hg1 hd1 hG2 hD2 hD3 hE1 hE2 hlow hyc hg hlw hla
 have HC := Lib.hid (And.intro hpr (And.intro hl1 (And.intro hl2 (And.intro hex (And.intro hde (And.intro hg1 hd1))))))
 have HD := Lib.hid (And.intro hG2 (And.intro hD2 (And.intro hD3 (And.intro hE1 hE2))))
 have HP := Lib.hid hg
 have HL := Lib.hid (And.intro hlow (And.intro hyc (And.intro hlw hla)))
 have HGG := Lib.hid hgg
 clear hpr hl1 hl2 hex hde hg1 hd1 hG2 hD2 hD3 hE1 hE2 hlow hyc hlw hla hroom hC hW eg dC hg hpd hpg hsg hs hd hS hM hB hB2 h0 HV hF hgg hl h00
 go_enter Tryz.func53, Tryz.ntmps53
 have et := Box.new w 28 #[.bool false, .slice none 0 0] (by simp [isDig])
 have hx := (Ext.refl w).alloc (.cells #[.bool false, .slice none 0 0] 28)
 go_upto_region 1 with (fail)
 generalize w.alloc (.cells #[.bool false, .slice none 0 0] 28) = w0 at *
 go_wp2_with fail
 refine Calls.mono (HC.out.1 _ hx) ?_
 rintro e w1 ⟨r1, rfl, hr1, hx1⟩
 obtain ⟨A1, c1, rfl, -⟩ := hr1.shape
 have Hr := Lib.hid (hr1.base_le (b := w.heap.size + 1) et.lt)
 replace et := et.ext hx1
 replace hx := hx.trans hx1
 clear hx1 hr1
 go_wp2_with fail
 refine Calls.mono (HC.out.2.1 _ hx) ?_
 rintro e w2 ⟨r2, rfl, hr2, hx2⟩
 have Hr2 := Lib.hid (And.intro (Hr.out.ext hx2) hr2)
 replace et := et.ext hx2
 replace hx := hx.trans hx2
 clear hx2 hr2 Hr
 go_wp2_with fail
 refine Calls.mono (HC.out.2.2.1 _ _ (Hr2.out.1.base_le (Nat.zero_le _))) ?_
 rintro e w3 ⟨r3, rfl, hr3, hx3⟩
 have Hr3 := Lib.hid (And.intro (Hr2.out.1.ext hx3) (And.intro (Hr2.out.2.kd hx3.kd) hr3))
 replace et := et.ext hx3
 replace hx := hx.trans hx3
 clear hx3 hr3 Hr2
 go_wp2_with fail
 refine Calls.mono (HC.out.2.2.2.1 _ _ _ Hr3.out.2.1 Hr3.out.2.2) ?_
 rintro e w4 ⟨r4, rfl, hr4, hx4⟩
 obtain ⟨b7, A7, n7, c7, rfl⟩ := hr4.cells
 obtain ⟨W6, eW6, eq, x6⟩ := Box.made w4 28 #[.bool b7, .slice A7 n7 c7] (by simp [isDig])
 have Hg4 := Lib.hid (And.intro ((Hr3.out.1.ext (hx4.trans x6)).base_le (b := 0) (Nat.zero_le _)) (hr4.kd x6.kd))
 have hgQ : w.heap.size < w4.heap.size := (et.ext hx4).lt
 replace et := et.ext (hx4.trans x6)
 replace hx := hx.trans (hx4.trans x6)
 clear hr4 hx4 x6 Hr3
 go_upto_region 4 with (fail)
 rw [← eW6]
 clear eW6
 generalize w4.heap.size = gQ at *
 go_wp2_with fail
 refine Calls.mono (HC.out.2.2.2.2.1 _ _ Hg4.out.1) ?_
 rintro e w7 ⟨r7, rfl, hr7, hx7⟩
 have Hr7 := Lib.hid (And.intro (Hg4.out.1.ext hx7) (And.intro hr7 (Hg4.out.2.kd hx7.kd)))
 replace eq := eq.ext hx7
 replace et := et.ext hx7
 replace hx := hx.trans hx7
 clear hx7 hr7 Hg4
 go_wp2_with fail
 refine Calls.mono (HC.out.2.2.2.2.2.1 _ _ _ Hr7.out.1 Hr7.out.2.1) ?_
 rintro e w8 ⟨r8, rfl, hr8, hx8⟩
 have Hr8 := Lib.hid (And.intro (Hr7.out.1.ext hx8) (And.intro hr8 (Hr7.out.2.2.kd hx8.kd)))
 replace eq := eq.ext hx8
 replace et := et.ext hx8
 replace hx := hx.trans hx8
 clear hx8 hr8 Hr7
 go_wp2_with fail
 refine Calls.mono (HC.out.2.2.2.2.2.2 _ _ _ Hr8.out.1 Hr8.out.2.1) ?_
 rintro e w9 ⟨r9, rfl, ⟨q9, rfl, hq9⟩, hx9⟩
 replace eq := eq.ext hx9
 replace et := et.ext hx9
 replace hx := hx.trans hx9
 have Hs := Lib.hid (And.intro hq9 (And.intro (Hr8.out.2.1.ext hx9) (Hr8.out.2.2.kd hx9.kd)))
 clear hx9 hq9 Hr8
 have hbq : gQ < w9.heap.size := eq.lt
 go_wp2
 go_loopw [4, 6, 7, 8] (fun sv lv rv ev wr => ∃ k us, IsZP 0 wr sv (yw (y0 g) (yc g) k).1 ∧ Fac w9.heap.size 76 wr lv us (yl (y0 g) (yc g) k) ∧ IsZP 0 wr rv (yw (y0 g) (yc g) k).2 ∧ ev = .int .i64 ((k : Int) + 1) ∧ (∀ j, j < k → 1 < pl (yw (y0 g) (yc g) j).1) ∧ Ext w9 wr ∧
   Box wr gQ 28 #[.bool b7, .slice A7 n7 c7] ∧ Box wr w.heap.size 28 #[.bool false, .slice none 0 0] ∧ IsZ wr (.agg #[.bool b7, .slice A7 n7 c7]) (pcn F) ∧ Ext w wr) (fun sv _ rv _ _ => lenV rv + lenV sv)
 case atStart => exact ⟨0, [], Hs.out.1, Fac.nil _ _ _, Hs.out.2.1, by go_num, fun j hj => by omega, Ext.refl _, eq, et, Hs.out.2.2, hx⟩
 case round =>
  clear eq et hx Hs
  obtain ⟨k, us, hsim, hFac, hrep, rfl, hK, hsz, eq, et, hrz, hx⟩ := hrel
  obtain ⟨L, d, rfl⟩ := hFac.shape
  obtain ⟨A2, c2, rfl, -⟩ := hrep.shape
  obtain ⟨A3, c3, rfl, -⟩ := hsim.shape
  have HK := Lib.hid hK; clear hK
  have hpk := HL.out.2.2.1 k
  have hpa := HL.out.2.2.2 k
  go_wp2_with fail
  refine Calls.mono (HD.out.2.2.2.1 k _ _ hsim) ?_
  rintro e w3 ⟨r3, rfl, rfl, hx3⟩
  have Hf := Lib.hid (And.intro (hFac.ext hx3) (And.intro (hrep.ext hx3) (And.intro (hsim.ext hx3) (hrz.kd hx3.kd)))); clear hFac hrep hsim hrz
  replace eq := eq.ext hx3
  replace et := et.ext hx3
  replace hx := hx.trans hx3
  replace hsz := hsz.trans hx3
  clear hx3
  by_cases h1 : 1 < pl (yw (y0 g) (yc g) k).1
  ·have hk17 : k ≤ 17 := by
    have := HL.out.1 k fun j hj => by
     rcases Nat.lt_or_ge j k with a | a
     ·exact HK.out j a
     ·obtain rfl : j = k := by omega
      exact h1
    have := HL.out.2.1
    omega
   have hlk : (yl (y0 g) (yc g) k).length ≤ k := yl_len _ _ k
   go_wp2_with fail
   refine Calls.mono (HD.out.1 k _ _ _ Hf.out.2.2.1 Hf.out.2.1) ?_
   rintro e w4 ⟨r4, rfl, hr4, hx4⟩
   obtain ⟨A6, c6, rfl, -⟩ := hr4.shape
   have Hf4 := Lib.hid (And.intro (Hf.out.1.ext hx4) (And.intro (Hf.out.2.1.ext hx4) (And.intro (Hf.out.2.2.1.ext hx4) (And.intro (Hf.out.2.2.2.kd hx4.kd) hr4))))
   replace eq := eq.ext hx4
   replace et := et.ext hx4
   replace hx := hx.trans hx4
   replace hsz := hsz.trans hx4
   clear hx4 hr4 Hf
   go_wp2_with fail
   refine Calls.mono (HD.out.2.1 k _ _ _ Hf4.out.2.2.1 Hf4.out.2.2.2.2) ?_
   rintro e w5 ⟨r5, rfl, ⟨q5, rfl, hq5⟩, hx5⟩
   obtain ⟨A7, c7, rfl, -⟩ := hq5.shape
   have Hf5 := Lib.hid (And.intro (Hf4.out.1.ext hx5) (And.intro (Hf4.out.2.1.ext hx5) (And.intro (Hf4.out.2.2.2.2.ext hx5) (And.intro (Hf4.out.2.2.2.1.kd hx5.kd) hq5))))
   replace eq := eq.ext hx5
   replace et := et.ext hx5
   replace hx := hx.trans hx5
   replace hsz := hsz.trans hx5
   clear hx5 Hf4 hq5
   go_wp2_with fail
   refine Calls.mono (HD.out.2.2.2.2 k _ _ Hf5.out.2.2.2.2) ?_
   rintro e w6 ⟨r6, rfl, rfl, hx6⟩
   have hFac := Hf5.out.1.ext hx6
   have hrep := Hf5.out.2.1.ext hx6
   have hm := Hf5.out.2.2.1.ext hx6
   have HZr := Lib.hid (Hf5.out.2.2.2.1.kd hx6.kd)
   have hq5 := Hf5.out.2.2.2.2.ext hx6
   replace eq := eq.ext hx6
   replace et := et.ext hx6
   replace hx := hx.trans hx6
   replace hsz := hsz.trans hx6
   clear hx6 Hf5
   by_cases h2 : 1 < pl (ya (y0 g) (yc g) k)
   ·have Hm := Lib.hid (And.intro hFac (And.intro hrep (And.intro hm hq5))); clear hFac hrep hm hq5
    have hbl := Hm.out.1.out.blk_ge
    have Hbl := Lib.hid hbl; clear hbl
    go_wp2_with (at_builtin; refine wpList_append_run rfl _ _ 69 rfl (.slice L (yl (y0 g) (yc g) k).length d) (.slice (some ⟨w6.heap.size, 0, none⟩) 1 1) rfl rfl (append_fac w6 _ w9.heap.size _ _ _ (k + 1) _ us _ _ _ _ Hm.out.1 Hm.out.2.2.2 (by first | rfl | (push_cast; rfl) | omega) rfl (by omega) hsz.size) ?_)
    intro v' w7 hF6 U hN
    have xa := (Ext.refl w6).alloc (.cells #[.slice A7 (pl (ya (y0 g) (yc g) k)) c7, .int .i64 ((k : Int) + 1)] 76)
    have hFac : Fac w9.heap.size 76 w7 v' (us ++ [(.slice A7 (pl (ya (y0 g) (yc g) k)) c7, k + 1)]) (yl (y0 g) (yc g) (k + 1)) := by
     rw [yl, if_pos h2]; exact hF6
    have hrep := (Hm.out.2.1.ext xa).updB U hN
    have hm := (Hm.out.2.2.1.ext xa).updB U hN
    have HZ6 := Lib.hid ((HZr.out.kd xa.kd).kd U.kd)
    replace eq := (eq.ext xa).upd U (fun hg => by have := (Hbl.out _ hg).1; omega)
    replace et := (et.ext xa).upd U (fun hg => by have := (Hbl.out _ hg).1; omega)
    replace hx := U.from_ (hx.trans xa) (fun g' hg => by have := (Hbl.out _ hg).1; have := hx.size; omega)
    replace hsz := U.from_ (hsz.trans xa) (fun g' hg => (Hbl.out _ hg).1)
    clear hF6 U hN xa Hm Hbl HZr
    have HZr := Lib.hid HZ6.out; clear HZ6
    have Hm := Lib.hid (And.intro hm (And.intro hrep hFac)); clear hm hrep hFac
    go_wp2_with fail
    refine Calls.mono (HD.out.2.2.1 k _ _ _ Hm.out.2.1 Hm.out.1) ?_
    rintro e w8 ⟨r8, rfl, ⟨q8, rfl, hq8⟩, hx8⟩
    obtain ⟨A8, c8, rfl, -⟩ := hq8.shape
    replace eq := eq.ext hx8
    replace et := et.ext hx8
    replace hx := hx.trans hx8
    have hF8 := Hm.out.2.2.ext hx8
    have hm8 := Hm.out.1.ext hx8
    have Hq := Lib.hid (And.intro hq8 (And.intro hm8 hF8))
    have HZ8 := Lib.hid (HZr.out.kd hx8.kd)
    replace hsz := hsz.trans hx8
    clear hx8 hq8 hm8 hF8 Hm
    go_wp2
    go_roundw
    case rel => exact ⟨k + 1, _, Hq.out.2.1, Hq.out.2.2, Hq.out.1, by go_num, fun j hj => by
     rcases Nat.lt_or_ge j k with a | a
     ·exact HK.out j a
     ·obtain rfl : j = k := by omega
      exact h1, hsz, eq, et, HZ8.out, hx⟩
    case measure =>
     have := yw_meas HP.out h1
     simp only [lenV]
     omega
   ·have hFac : Fac w9.heap.size 76 w6 (.slice L (yl (y0 g) (yc g) k).length d) us (yl (y0 g) (yc g) (k + 1)) := by
     rw [yl, if_neg h2, List.append_nil]; exact hFac
    have Hm := Lib.hid (And.intro hm (And.intro hrep hFac)); clear hm hrep hFac
    go_wp2_with fail
    refine Calls.mono (HD.out.2.2.1 k _ _ _ Hm.out.2.1 Hm.out.1) ?_
    rintro e w8 ⟨r8, rfl, ⟨q8, rfl, hq8⟩, hx8⟩
    obtain ⟨A8, c8, rfl, -⟩ := hq8.shape
    replace eq := eq.ext hx8
    replace et := et.ext hx8
    replace hx := hx.trans hx8
    have hF8 := Hm.out.2.2.ext hx8
    have hm8 := Hm.out.1.ext hx8
    have Hq := Lib.hid (And.intro hq8 (And.intro hm8 hF8))
    have HZ8 := Lib.hid (HZr.out.kd hx8.kd)
    replace hsz := hsz.trans hx8
    clear hx8 hq8 hm8 hF8 Hm
    go_wp2
    go_roundw
    case rel => exact ⟨k + 1, _, Hq.out.2.1, Hq.out.2.2, Hq.out.1, by go_num, fun j hj => by
     rcases Nat.lt_or_ge j k with a | a
     ·exact HK.out j a
     ·obtain rfl : j = k := by omega
      exact h1, hsz, eq, et, HZ8.out, hx⟩
    case measure =>
     have := yw_meas HP.out h1
     simp only [lenV]
     omega
  ·have hSK : SqK g k := ⟨by omega, HK.out⟩
   have HS := Lib.hid hSK; clear hSK
   obtain ⟨ceq0, ceq1⟩ := eq.cells2
   have feq := eq.frozen
   obtain ⟨cet0, cet1⟩ := et.cells2
   have fet := et.frozen
   go_wp2
   obtain ⟨W9, eW, et', U⟩ := et.put2 (.bool b7) (.slice A7 n7 c7) rfl rfl
   rw [← eW]
   have hF9 := Hf.out.1.upd2 (fun p hp => (yl_pos1 HP.out k p hp).2.1) et (by omega) U
   have hr9 := Hf.out.2.2.2.kd U.kd
   replace hx := U.from_ hx (by simp <;> omega)
   clear eW et cet0 cet1 fet
   have et := et'
   obtain ⟨cet0, cet1⟩ := et.cells2
   have fet := et.frozen
   refine bodyPost_ret (v := .tuple #[.agg #[.bool b7, .slice A7 n7 c7], .slice L (yl (y0 g) (yc g) k).length d]) (by simp [results, Tryz.results53, go_sem, cet0, cet1]) rfl ?_
   have hgg := HGG.out
   subst hgg
   exact Gives.mk ⟨_, _, us, k, rfl, hr9, HS.out, hF9.base_le (by omega)⟩ hx
end Go.Proofs.YtfacbpnegkjcgaaGreatDoor
