/- Lemmas: The walk of qpoly.Xgcd. The walks of the reference's polynomials: Gcd. The walk of the reference's Xgcd. The walk of the statement QpolyBezout. -/
import Derived.Test.YtedoifjbgokmcaaGreatQa1
import Derived.Test.YtedoifjbgokmcaaGreatQa2
import Derived.Test.YtedoifjbgokmcaaGreatQa3
import Derived.Test.YtedoifjbgokmcaaGreatQa4
import Derived.Test.YtedoifjbgokmcaaGreatQa5
set_option linter.unusedVariables false
set_option linter.unusedSimpArgs false
namespace Go.Proofs.YtedoifjbgokmcaaGreat
open Go.RowKit Go.Hp
set_option maxRecDepth 20000 in
set_option maxHeartbeats 8000000 in
theorem xgcd_p (v u : Value) (l m : List Rat) (w : World) (hv : HsV 0 w v l) (hu : HsV 0 w u m) (cF : CD 22 (co l)) (cG : CD 22 (co m)) (lF : l.length ≤ 7) (lG : m.length ≤ 7) :
    Calls Tryz.prog 31 #[v, u] w (Gives w fun r w' => ∃ dv uv vv D U V, r = .tuple #[dv, uv, vv] ∧ XgVal (co l) (co m) D U V ∧ XgSz (co l) (co m) D U V ∧ IsP 0 w' dv D ∧ IsP 0 w' uv U ∧ IsP 0 w' vv V) := by
  have hN1 := normal_p _ l w hv (by omega)
  have hN2 := fun w' (e : Ext w w') => normal_p _ m w' (hu.ext e) (by omega)
  have pF := Nat.le_trans (pl_le (co_sup l)) lF
  have pG := Nat.le_trans (pl_le (co_sup m)) lG
  have fF := Fin_.co l; have fG := Fin_.co m
  obtain ⟨A, c, rfl⟩ := hv.len
  obtain ⟨E, d, rfl⟩ := hu.len
  clear hv hu lF lG
  obtain ⟨F0, hF0⟩ : ∃ F0, F0 = co l := ⟨_, rfl⟩
  obtain ⟨G0, hG0⟩ : ∃ G0, G0 = co m := ⟨_, rfl⟩
  rw [← hF0] at cF hN1 pF fF
  rw [← hG0] at cG hN2 pG fG
  rw [← hF0, ← hG0]
  clear hF0 hG0
  have HN := Lib.hid (And.intro hN1 hN2)
  have HC := Lib.hid (And.intro cF (And.intro cG (And.intro fF fG))); clear cF cG fF fG hN1 hN2
  go_enter Tryz.func31, Tryz.ntmps31
  go_wp2_with fail
  refine Calls.mono HN.out.1 ?_
  rintro e w1 ⟨r1, rfl, hr1, hx1⟩
  have Hr1 := Lib.hid hr1; clear hr1
  go_wp2_with fail
  refine Calls.mono (HN.out.2 w1 hx1) ?_
  rintro e w2 ⟨r2, rfl, hr2, hx2⟩
  have hsz1 := hx1.size
  obtain ⟨A1, c1, e1, _, _⟩ := (Hr1.out).shape
  obtain ⟨A2, c2, e2, _, _⟩ := hr2.shape
  subst e1 e2
  have Hr := Lib.hid (And.intro (Hr1.out.ext hx2) (hr2.base_le hsz1))
  have Hx := Lib.hid (hx1.trans hx2)
  clear Hr1 hr2 hx1 hx2 HN hsz1
  by_cases hg0 : pl G0 = 0
  · have hz : G0 = pz := (pl_zero HC.out.2.2.2).1 hg0
    have bg : ((pl G0 : Int) == 0) = true := by rw [hg0]; rfl
    have Hz := Lib.hid (And.intro hz hg0); clear hz hg0
    by_cases hf0 : pl F0 = 0
    · have hzf : F0 = pz := (pl_zero HC.out.2.2.1).1 hf0
      have bf : ((pl F0 : Int) == 0) = true := by rw [hf0]; rfl
      have Hzf := Lib.hid hzf; clear hzf hf0
      go_wp2
      go_ret3
      have hl := XgVal.low HC.out.2.2.1 HC.out.1 pF
      rw [← Hz.out.1] at hl
      have e1 : mn F0 = pz := by rw [Hzf.out, mn_pz]
      have e2 : cs (1 / ld F0) pz = pz := by
        rw [Hzf.out]
        funext n
        cases n with
        | zero => show 1 / (0 : Rat) = 0; decide +kernel
        | succ n => rfl
      have hl2 := hl
      rw [Hz.out.1, e1, e2] at hl2
      rw [Hz.out.1]
      exact Gives.mk ⟨_, _, _, _, _, _, rfl, hl2.1, hl2.2, IsP.nil _ _, IsP.nil _ _, IsP.nil _ _⟩ Hx.out
    · have bf : ((pl F0 : Int) == 0) = false := by simpa using hf0
      have hzf : F0 ≠ pz := fun e => hf0 (by rw [e, pl_pz])
      have hp := pl_pos (F := F0) HC.out.2.2.1 hzf
      have hld := ld_ne (F := F0) HC.out.2.2.1 hzf
      have hqz := inv_qsz (F := F0) HC.out.1
      obtain ⟨A, c, lv, e, k1, k2, hA, k3, k4, k5⟩ := IsP.form (show IsP 0 w2 (.slice A1 (pl F0) c1) F0 from (Hr.out.1.base_le (Nat.zero_le _)))
      obtain ⟨g, o, b, B1, n1, d1, b', B1', n1', d1', hAe, _, q0, q1, q2, q3, hq⟩ := hA.at_ (j := pl F0 - 1) (by omega)
      rw [← co_lt, k5] at hq
      injection e with e5 e6 e7
      subst e5
      subst e7
      subst hAe
      obtain ⟨c0, hc0⟩ : ∃ c0, c0 = ((1 : Int) : Rat) / ld F0 := ⟨_, rfl⟩
      have Hc0 := Lib.hid (And.intro hc0 (And.intro hld (And.intro hqz hzf)))
      have Hq := Lib.hid (hq.has (q := F0 (pl F0 - 1)) (by have := HC.out.1.elem (pl F0 - 1); omega))
      have hp1 : pl F0 ≤ 7 := pF
      clear hc0 hld hqz hzf hq hA k3 k4 k5 e6 hf0
      go_wp2_with fail
      go_cut [7] (fun pv wx => ∃ gc, pv = .pointer (some ⟨gc, 0, none⟩) ∧ BoxQ wx gc 40 c0 ∧ Ext w2 wx)
      case first =>
        refine wp_region_late (k := 12) (ℓ := 10) (nl := 1) (D := [29, 30, 31, 32, 33, 34, 35, 36, 28, 37, 38, 7]) (T := [[], [], [], [2], [2, 3], [1, 2, 3, 4], [1, 2, 3, 4, 5], [0, 1, 2, 3, 4, 5, 6], [0, 1, 2, 3, 4, 5, 6, 7], [0, 1, 2, 3, 4, 5, 6, 7, 8], [0, 1, 2, 3, 4, 5, 6, 7, 8], [], [0, 1, 2, 3, 4, 5, 6, 7, 8, 9, 11], [0, 1, 2, 3, 4, 5, 6, 7, 8, 9, 10, 11, 12]]) (EK := [0]) (EV := [?e1x0]) (VL := [(fun γ => γ 0), (kv ?v1x1), (kv ?v1x2), (kv ?v1x3), (kv ?v1x4), (kv ?v1x5), (kv ?v1x6), (fun γ => γ 7), (fun γ => γ 7), (fun γ => γ 9), (kv ?v1x10), (fun γ => γ 11)]) (FL := fun γ w' => [IsQ w' (γ 0) ((1 : Int) : Rat), True, True, True, True, True, True, TupQ w' (γ 7) c0, True, IsQ w' (γ 9) c0, True, NewAt w' (γ 11) w2.heap.size #[.bool false, .slice none 0 0, .bool false, .slice none 0 0] 40]) _ rfl ?hE1 (by kernel_rfl) (by kernel_rfl) (by kernel_rfl) (by kernel_rfl) (by kernel_rfl) (by rfl) (by kernel_rfl) ?hloc1 ?hmono1 ?hstep1 ?htail1 ?hlate1
        case hE1 => refine ⟨?_, trivial⟩ <;> (simp only [List.getElem?_toArray, List.getElem?_cons_succ, List.getElem?_cons_zero]; rfl)
        case hstep1 =>
          refine ⟨⟨⟨⟨⟨⟨⟨⟨⟨⟨⟨⟨trivial, ?_⟩, ?_⟩, ?_⟩, ?_⟩, ?_⟩, ?_⟩, ?_⟩, ?_⟩, ?_⟩, ?_⟩, ?_⟩, ?_⟩
          · intro γ w' he hf; clear hf; refine ⟨trivial, ?_⟩; intro R hR
            go_simp
            refine Calls.mono (show Calls _ _ _ w' (Gives w' fun r w'' => IsQ w'' (r) ((1 : Int) : Rat)) from of_q 1 w' (by omega) (by omega)) ?_
            rintro e w2 ⟨v, rfl, hv, hx⟩
            exact ⟨v, rfl, hR v w2 hx rfl hv⟩
          · intro γ w' he hf; clear hf; refine ⟨trivial, ?_⟩; intro R hR
            have hc := he.cells
            go_simp
            (try go_ints); (try (rw [if_neg (by omega)])); (try (rw [if_pos (by omega)])); (try go_simp); (try go_ints)
            refine hR _ _ (Ext.refl _) ?_ trivial
            rfl
          · intro γ w' he hf; clear hf; refine ⟨trivial, ?_⟩; intro R hR
            have hc := he.cells
            go_simp
            (try go_ints); (try (rw [if_neg (by omega)])); (try (rw [if_pos (by omega)])); (try go_simp); (try go_ints)
            refine hR _ _ (Ext.refl _) ?_ trivial
            rfl
          · intro γ w' he hf; clear hf; refine ⟨trivial, ?_⟩; intro R hR
            have hc := he.cells
            go_simp
            (try go_ints); (try (rw [if_neg (by omega)])); (try (rw [if_pos (by omega)])); (try go_simp); (try go_ints)
            refine hR _ _ (Ext.refl _) ?_ trivial
            rfl
          · intro γ w' he hf; clear hf; refine ⟨trivial, ?_⟩; intro R hR
            have hc := he.cells
            go_simp
            (try go_ints); (try (rw [if_neg (by omega)])); (try (rw [if_pos (by omega)])); (try go_simp); (try go_ints)
            refine hR _ _ (Ext.refl _) ?_ trivial
            rfl
          · intro γ w' he hf; clear hf; refine ⟨trivial, ?_⟩; intro R hR
            have hc := he.cells
            go_simp
            (try go_ints); (try (rw [if_neg (by omega)])); (try (rw [if_pos (by omega)])); (try go_simp); (try go_ints)
            refine hR _ _ (Ext.refl _) ?_ trivial
            rfl
          · intro γ w' he hf; clear hf; refine ⟨trivial, ?_⟩; intro R hR
            have hc := he.cells
            have cq0 := he.cell q0
            have cq1 := he.cell q1
            have cq2 := he.cell q2
            have cq3 := he.cell q3
            go_simp
            (try go_ints); (try (rw [if_neg (by omega)])); (try (rw [if_pos (by omega)])); (try go_simp); (try go_ints)
            refine hR _ _ (Ext.refl _) ?_ trivial
            rfl
          · intro γ w' he hf; have f0 : IsQ w' (γ 0) ((1 : Int) : Rat) := hf 0 (by decide); clear hf; refine ⟨trivial, ?_⟩; intro R hR
            go_simp
            refine Calls.mono (show Calls _ _ _ w' (Gives w' fun r w'' => TupQ w'' (r) c0) from Hc0.out.1 ▸ quo_q _ _ _ _ w' (f0.has (by decide)) (Hq.out.ext he) Hc0.out.2.1) ?_
            rintro e w2 ⟨v, rfl, hv, hx⟩
            exact ⟨v, rfl, hR v w2 hx rfl hv⟩
          · intro γ w' he hf; have f0 : IsQ w' (γ 0) ((1 : Int) : Rat) := hf 0 (by decide); have f7 : TupQ w' (γ 7) c0 := hf 7 (by decide); clear hf; refine ⟨trivial, ?_⟩; intro R hR
            have hc := he.cells
            go_simp
            (try go_ints); (try (rw [if_neg (by omega)])); (try (rw [if_pos (by omega)])); (try go_simp); (try go_ints)
            refine hR _ _ (Ext.refl _) ?_ trivial
            rfl
          · intro γ w' he hf; have f0 : IsQ w' (γ 0) ((1 : Int) : Rat) := hf 0 (by decide); have f7 : TupQ w' (γ 7) c0 := hf 7 (by decide); clear hf; refine ⟨trivial, ?_⟩; intro R hR
            obtain ⟨a, e, ha⟩ := f7
            go_simp
            exact hR _ _ (Ext.refl _) rfl ha
          · intro γ w' he hf; have f0 : IsQ w' (γ 0) ((1 : Int) : Rat) := hf 0 (by decide); have f7 : TupQ w' (γ 7) c0 := hf 7 (by decide); clear hf; refine ⟨trivial, ?_⟩; intro R hR
            obtain ⟨a, e, ha⟩ := f7
            have hc := he.cells
            go_simp
            (try go_ints); (try (rw [if_neg (by omega)])); (try (rw [if_pos (by omega)])); (try go_simp); (try go_ints)
            refine hR _ _ (Ext.refl _) ?_ trivial
            rfl
          · intro γ w' he hf; clear hf; refine ⟨trivial, ?_⟩; intro R hR
            go_simp
            exact hR _ _ ((Ext.refl _).alloc _) rfl (NewAt.mk (Nat.le_trans (by simp) he.size) (by simp [isDig]))
        case hloc1 =>
          exact ⟨⟨⟨⟨⟨⟨⟨⟨⟨⟨⟨⟨trivial, (fun γ γ' h => ⟨h 0 rfl, fun w' => (congrArg (fun a => IsQ w' (a) ((1 : Int) : Rat)) (h 0 rfl))⟩)⟩, (fun γ γ' h => ⟨rfl, fun _ => rfl⟩)⟩, (fun γ γ' h => ⟨rfl, fun _ => rfl⟩)⟩, (fun γ γ' h => ⟨rfl, fun _ => rfl⟩)⟩, (fun γ γ' h => ⟨rfl, fun _ => rfl⟩)⟩, (fun γ γ' h => ⟨rfl, fun _ => rfl⟩)⟩, (fun γ γ' h => ⟨rfl, fun _ => rfl⟩)⟩, (fun γ γ' h => ⟨h 7 rfl, fun w' => (congrArg (fun a => TupQ w' (a) c0) (h 7 rfl))⟩)⟩, (fun γ γ' h => ⟨(congrArg (fun a => a) (h 7 rfl)), fun _ => rfl⟩)⟩, (fun γ γ' h => ⟨h 9 rfl, fun w' => (congrArg (fun a => IsQ w' (a) c0) (h 9 rfl))⟩)⟩, (fun γ γ' h => ⟨rfl, fun _ => rfl⟩)⟩, (fun γ γ' h => ⟨h 11 rfl, fun w' => (congrArg (fun a => NewAt w' (a) w2.heap.size #[.bool false, .slice none 0 0, .bool false, .slice none 0 0] 40) (h 11 rfl))⟩)⟩
        case hmono1 =>
          exact ⟨⟨⟨⟨⟨⟨⟨⟨⟨⟨⟨⟨trivial, (fun γ wA w' e h => (show IsQ wA (γ 0) ((1 : Int) : Rat) from h).ext e)⟩, (fun γ wA w' e h => h)⟩, (fun γ wA w' e h => h)⟩, (fun γ wA w' e h => h)⟩, (fun γ wA w' e h => h)⟩, (fun γ wA w' e h => h)⟩, (fun γ wA w' e h => h)⟩, (fun γ wA w' e h => (show TupQ wA (γ 7) c0 from h).ext e)⟩, (fun γ wA w' e h => h)⟩, (fun γ w w' e h => IsQ.ext h e)⟩, (fun γ wA w' e h => h)⟩, (fun γ wA w' e h => (show NewAt wA (γ 11) w2.heap.size #[.bool false, .slice none 0 0, .bool false, .slice none 0 0] 40 from h).ext e)⟩
        case hlate1 =>
          intro γ w8 hx8 hF
          have p0 : IsQ w8 (γ 0) ((1 : Int) : Rat) := (Each.get hF 0 (by decide)).resolve_left (by decide)
          have p7 : TupQ w8 (γ 7) c0 := (Each.get hF 7 (by decide)).resolve_left (by decide)
          have p9 : IsQ w8 (γ 9) c0 := (Each.get hF 9 (by decide)).resolve_left (by decide)
          have p11 : NewAt w8 (γ 11) w2.heap.size #[.bool false, .slice none 0 0, .bool false, .slice none 0 0] 40 := (Each.get hF 11 (by decide)).resolve_left (by decide)
          clear hF
          simp only [fillAll, gV, kv, List.getD_cons_zero, List.getD_cons_succ, Act.put, List.setIfInBounds_toArray, List.set_cons_zero, List.set_cons_succ, List.toList_toArray, List.drop_succ_cons, List.drop_zero, List.drop_nil, Nat.zero_add, Nat.reduceAdd, lateP, Array.getD_eq_getD_getElem?, List.getElem?_toArray, List.getElem?_cons_succ, List.getElem?_cons_zero, Option.getD_some]
          generalize γ 0 = g0 at *
          generalize γ 7 = g7 at *
          generalize γ 9 = g9 at *
          generalize γ 11 = g11 at *
          clear γ
          obtain ⟨a7, rfl, -⟩ := p7
          obtain ⟨gc, rfl, hgc, ec⟩ := p11
          obtain ⟨b5, A5, n5, c5, b6, A6, n6, c6, rfl⟩ := p9.cells
          clear q0 q1 q2 q3 p0
          obtain ⟨cec0, cec1, cec2, cec3⟩ := ec.cells4
          have fec := ec.frozen
          go_wp2
          refine ⟨?_, trivial⟩
          go_wp2
          skip
          obtain ⟨W9, eW, ec', U⟩ := ec.put4 (.bool b5) (.slice A5 n5 c5) (.bool b6) (.slice A6 n6 c6) rfl rfl rfl rfl
          rw [← eW]
          clear eW ec
          replace p9 := p9.kd U.kd
          replace hx8 := U.from_ hx8 (by simp <;> omega)
          have ec := ec'
          clear U ec'
          go_meet
          case rel => exact ⟨gc, rfl, BoxQ.mk ec p9, hx8⟩
        intro γ w8 hx8 hF
        have p0 : IsQ w8 (γ 0) ((1 : Int) : Rat) := Each.get hF 0 (by decide)
        have p7 : TupQ w8 (γ 7) c0 := Each.get hF 7 (by decide)
        have p9 : IsQ w8 (γ 9) c0 := Each.get hF 9 (by decide)
        have p11 : NewAt w8 (γ 11) w2.heap.size #[.bool false, .slice none 0 0, .bool false, .slice none 0 0] 40 := Each.get hF 11 (by decide)
        clear hF
        simp only [fillAll, gV, kv, List.getD_cons_zero, List.getD_cons_succ, Act.put, List.setIfInBounds_toArray, List.set_cons_zero, List.set_cons_succ, List.toList_toArray, List.drop_succ_cons, List.drop_zero, List.drop_nil, Nat.zero_add, Nat.reduceAdd]
        generalize γ 0 = g0 at *
        generalize γ 7 = g7 at *
        generalize γ 9 = g9 at *
        generalize γ 11 = g11 at *
        clear γ
        obtain ⟨a7, rfl, -⟩ := p7
        obtain ⟨gc, rfl, hgc, ec⟩ := p11
        obtain ⟨b5, A5, n5, c5, b6, A6, n6, c6, rfl⟩ := p9.cells
        clear q0 q1 q2 q3 p0
        obtain ⟨cec0, cec1, cec2, cec3⟩ := ec.cells4
        have fec := ec.frozen
        go_wp2
        skip
        obtain ⟨W9, eW, ec', U⟩ := ec.put4 (.bool b5) (.slice A5 n5 c5) (.bool b6) (.slice A6 n6 c6) rfl rfl rfl rfl
        rw [← eW]
        clear eW ec
        replace p9 := p9.kd U.kd
        replace hx8 := U.from_ hx8 (by simp <;> omega)
        have ec := ec'
        clear U ec'
        go_meet
        case rel => exact ⟨gc, rfl, BoxQ.mk ec p9, hx8⟩
      case rest =>
        clear q0 q1 q2 q3 Hq
        obtain ⟨gc, rfl, ⟨b5, A5, n5, c5, b6, A6, n6, c6, ec, hq⟩, hx⟩ := hcut
        have Hq := Lib.hid hq; clear hq
        obtain ⟨cec0, cec1, cec2, cec3⟩ := ec.cells4
        have fec := ec.frozen
        have hszc := hx.size
        go_wp2_with fail
        refine wp_region_par (k := 5) (D := [39, 40, 41, 42, 4]) (T := [[], [0], [], [2], [0, 1], [0, 1, 2, 3, 4], [0, 1, 2, 3, 4, 5]]) (EK := [0, 7]) (EV := [?e2x0, ?e2x1]) (VL := [(kv ?v2x0), (fun γ => γ 1), (kv ?v2x2), (fun γ => γ 3), (fun γ => γ 1)]) (FL := fun γ w' => [True, IsP w2.heap.size w' (γ 1) (mn F0), True, QsV w2.heap.size w' (γ 3) [c0], True]) ?hE2 (by kernel_rfl) (by kernel_rfl) (by rfl) (by kernel_rfl) ?hloc2 ?hmono2 ?hstep2 ?htail2
        case hE2 => refine ⟨?_, ?_, trivial⟩ <;> (simp only [List.getElem?_toArray, List.getElem?_cons_succ, List.getElem?_cons_zero]; rfl)
        case hstep2 =>
          refine ⟨⟨⟨⟨⟨trivial, ?_⟩, ?_⟩, ?_⟩, ?_⟩, ?_⟩
          · intro γ w' he hf; clear hf; refine ⟨trivial, ?_⟩; intro R hR
            have hc := he.cells
            go_simp
            (try go_ints); (try (rw [if_neg (by omega)])); (try (rw [if_pos (by omega)])); (try go_simp); (try go_ints)
            refine hR _ _ (Ext.refl _) ?_ trivial
            rfl
          · intro γ w' he hf; clear hf; refine ⟨trivial, ?_⟩; intro R hR
            go_simp
            refine Calls.mono (show Calls _ _ _ w' (Gives w' fun r w'' => IsP w2.heap.size w'' (r) (mn F0)) from Gives.imp (monic_p _ F0 22 w' ((Hr.out.1.ext (hx.trans he)).base_le (Nat.zero_le _)) HC.out.1 (by decide) (by omega)) fun _ _ h => h.base_le (Nat.le_trans hszc he.size)) ?_
            rintro e w2 ⟨v, rfl, hv, hx⟩
            exact ⟨v, rfl, hR v w2 hx rfl hv⟩
          · intro γ w' he hf; clear hf; refine ⟨trivial, ?_⟩; intro R hR
            have hc := he.cells
            have cq0 := he.cell cec0
            have cq1 := he.cell cec1
            have cq2 := he.cell cec2
            have cq3 := he.cell cec3
            go_simp
            (try go_ints); (try (rw [if_neg (by omega)])); (try (rw [if_pos (by omega)])); (try go_simp); (try go_ints)
            refine hR _ _ (Ext.refl _) ?_ trivial
            rfl
          · intro γ w' he hf; clear hf; refine ⟨trivial, ?_⟩; intro R hR
            go_simp
            exact hR _ _ ((Ext.refl _).alloc _) rfl (OwnQ.row (NewQ.own (NewQ.mk (Hq.out.ext he) (Nat.le_trans hszc he.size) 40)))
          · intro γ w' he hf; have f1 : IsP w2.heap.size w' (γ 1) (mn F0) := hf 1 (by decide); clear hf; refine ⟨trivial, ?_⟩; intro R hR
            have hc := he.cells
            go_simp
            (try go_ints); (try (rw [if_neg (by omega)])); (try (rw [if_pos (by omega)])); (try go_simp); (try go_ints)
            refine hR _ _ (Ext.refl _) ?_ trivial
            rfl
        case hloc2 =>
          exact ⟨⟨⟨⟨⟨trivial, (fun γ γ' h => ⟨rfl, fun _ => rfl⟩)⟩, (fun γ γ' h => ⟨h 1 rfl, fun w' => (congrArg (fun a => IsP w2.heap.size w' (a) (mn F0)) (h 1 rfl))⟩)⟩, (fun γ γ' h => ⟨rfl, fun _ => rfl⟩)⟩, (fun γ γ' h => ⟨h 3 rfl, fun w' => (congrArg (fun a => QsV w2.heap.size w' (a) [c0]) (h 3 rfl))⟩)⟩, (fun γ γ' h => ⟨(congrArg (fun a => a) (h 1 rfl)), fun _ => rfl⟩)⟩
        case hmono2 =>
          exact ⟨⟨⟨⟨⟨trivial, (fun γ wA w' e h => h)⟩, (fun γ wA w' e h => (show IsP w2.heap.size wA (γ 1) (mn F0) from h).ext e)⟩, (fun γ wA w' e h => h)⟩, (fun γ w w' e h => QsV.ext h e)⟩, (fun γ wA w' e h => h)⟩
        intro γ w3 hx3 hF
        have p1 : IsP w2.heap.size w3 (γ 1) (mn F0) := Each.get hF 1 (by decide)
        have p3 : QsV w2.heap.size w3 (γ 3) [c0] := Each.get hF 3 (by decide)
        clear hF
        simp only [fillAll, gV, kv, List.getD_cons_zero, List.getD_cons_succ, Act.put, List.setIfInBounds_toArray, List.set_cons_zero, List.set_cons_succ, List.toList_toArray, List.drop_succ_cons, List.drop_zero, List.drop_nil, Nat.zero_add, Nat.reduceAdd]
        generalize γ 1 = g1 at *
        generalize γ 3 = g3 at *
        clear γ
        clear cec0 cec1 cec2 cec3 fec ec
        have Hp := Lib.hid (And.intro p1 p3); clear p1 p3
        go_wp2
        go_ret3
        have hl := XgVal.low HC.out.2.2.1 HC.out.1 pF
        have hsz2 := Hx.out.size
        have e1 : c0 = 1 / ld F0 := Hc0.out.1
        have hne : c0 ≠ 0 := by rw [e1]; exact inv_ne Hc0.out.2.1
        have hu1 := IsP.single Hp.out.2 hne
        rw [e1] at hu1
        rw [Hz.out.1]
        exact Gives.mk ⟨_, _, _, _, _, _, rfl, hl.1, hl.2, Hp.out.1.base_le (Nat.zero_le _), hu1.base_le (Nat.zero_le _), IsP.nil _ _⟩ ((Hx.out.trans hx).trans hx3)
  have bg : ((pl G0 : Int) == 0) = false := by simpa using hg0
  have hz : G0 ≠ pz := fun e => hg0 (by rw [e, pl_pz])
  have Hst := Lib.hid (XgSt.start HC.out.2.2.1 HC.out.2.2.2 HC.out.1 HC.out.2.1 pF pG)
  have Hz := Lib.hid hz; clear hz hg0
  go_wp2_with fail
  refine Calls.mono (of_q 1 _ (by omega) (by omega)) ?_
  rintro e w3 ⟨r3, rfl, hr3, hx3⟩
  obtain ⟨b5, A5, n5, c5, b6, A6, n6, c6, rfl⟩ := hr3.cells
  have hu := IsP.single (a := ((1 : Int) : Rat)) (OwnQ.row (NewQ.own (NewQ.mk hr3 (base := 0) (Nat.zero_le _) 40))) (by decide)
  rw [show cs ((1 : Int) : Rat) pz = pone from rfl] at hu
  have Hu := Lib.hid hu; clear hr3 hu
  go_wp2
  have hxa : Ext w2 (w3.alloc (.cells #[.bool b5, .slice A5 n5 c5, .bool b6, .slice A6 n6 c6] 40)) := hx3.alloc _
  clear hx3
  go_loopw [5, 9, 10, 11] (fun uv rv sv nv wr => ∃ (j : Nat) (RR S U N : Nat → Rat), XgSt F0 G0 j RR S U N ∧ (IsP 0 wr uv U ∧ IsP 0 wr rv RR ∧ IsP 0 wr sv S ∧ IsP 0 wr nv N) ∧ Ext w2 wr) (fun _ _ sv _ _ => slen sv)
  case atStart => exact ⟨0, F0, G0, pone, pz, Hst.out, ⟨Hu.out.ext ((Ext.refl _).alloc _), (Hr.out.1.ext (hxa.alloc _)).base_le (Nat.zero_le _), (Hr.out.2.ext (hxa.alloc _)).base_le (Nat.zero_le _), IsP.empty _ _ _ _ (by omega)⟩, hxa.alloc _⟩
  case round =>
    clear Hu hxa Hst
    obtain ⟨j, RR, S, U, N, hst, ⟨hu, hr, hs, hn⟩, hx⟩ := hrel
    obtain ⟨AS, cS, eS, _, _⟩ := hs.shape
    subst eS
    have Hs := Lib.hid (And.intro hst (And.intro hu (And.intro hr (And.intro hs hn)))); clear hst hu hr hs hn
    by_cases h0 : pl S = 0
    · have hz : S = pz := (pl_zero Hs.out.1.1.2.1).1 h0
      have hn0 : ¬ (0 < ((pl S : Nat) : Int)) := by omega
      have hend := Hs.out.1.end_ hz HC.out.2.2.1 HC.out.2.2.2 Hz.out HC.out.1 HC.out.2.1 pF
      have hval := XgVal.high Hs.out.1 hz HC.out.2.2.1 HC.out.2.2.2 Hz.out HC.out.1 HC.out.2.1 pF pG
      obtain ⟨d4, cR, cD, cU, cU1, lU, pR, lR, q0', cQ, lQ, cU2, lU2, cX, lX, cV, hX⟩ := hend
      have hRf : Fin_ RR := Hs.out.1.1.1
      have hp := pl_pos (F := RR) hRf d4
      have hld := ld_ne (F := RR) hRf d4
      have hqz := inv_qsz (F := RR) cR
      obtain ⟨A, c, lv, e, k1, k2, hA, k3, k4, k5⟩ := IsP.form (show IsP 0 wr u9 RR from Hs.out.2.2.1)
      obtain ⟨g, o, b, B1, n1, d1, b', B1', n1', d1', hAe, _, q0, q1, q2, q3, hq⟩ := hA.at_ (j := pl RR - 1) (by omega)
      rw [← co_lt, k5] at hq
      subst e
      subst hAe
      obtain ⟨c0, hc0⟩ : ∃ c0, c0 = ((1 : Int) : Rat) / ld RR := ⟨_, rfl⟩
      have Hc0 := Lib.hid (And.intro hc0 (And.intro hld (And.intro hqz d4)))
      have Hq := Lib.hid (hq.has (q := RR (pl RR - 1)) (by have := cR.elem (pl RR - 1); omega))
      have HE := Lib.hid (And.intro hval (And.intro (And.intro cR (And.intro cD (And.intro cU cU1))) (And.intro (And.intro q0' (And.intro cQ lQ)) (And.intro (And.intro cU2 lU2) (And.intro cX lX)))))
      have hlR : pl RR ≤ 7 := lR
      have hlU : pl U ≤ 7 := lU
      clear hc0 hld hqz d4 hq hA k3 k4 k5 cR cD cU cU1 q0' cQ lQ cU2 lU2 cX lX cV hX hval hz hRf h0
      go_wp2_with fail
      go_cut [14] (fun pv wx => ∃ gc, pv = .pointer (some ⟨gc, 0, none⟩) ∧ BoxQ wx gc 40 c0 ∧ Ext wr wx)
      case first =>
        refine wp_region_late (k := 12) (ℓ := 10) (nl := 1) (D := [66, 67, 68, 69, 70, 71, 72, 73, 65, 74, 75, 14]) (T := [[], [], [], [2], [2, 3], [1, 2, 3, 4], [1, 2, 3, 4, 5], [0, 1, 2, 3, 4, 5, 6], [0, 1, 2, 3, 4, 5, 6, 7], [0, 1, 2, 3, 4, 5, 6, 7, 8], [0, 1, 2, 3, 4, 5, 6, 7, 8], [], [0, 1, 2, 3, 4, 5, 6, 7, 8, 9, 11], [0, 1, 2, 3, 4, 5, 6, 7, 8, 9, 10, 11, 12]]) (EK := [9]) (EV := [?e3x0]) (VL := [(fun γ => γ 0), (kv ?v3x1), (kv ?v3x2), (kv ?v3x3), (kv ?v3x4), (kv ?v3x5), (kv ?v3x6), (fun γ => γ 7), (fun γ => γ 7), (fun γ => γ 9), (kv ?v3x10), (fun γ => γ 11)]) (FL := fun γ w' => [IsQ w' (γ 0) ((1 : Int) : Rat), True, True, True, True, True, True, TupQ w' (γ 7) c0, True, IsQ w' (γ 9) c0, True, NewAt w' (γ 11) wr.heap.size #[.bool false, .slice none 0 0, .bool false, .slice none 0 0] 40]) _ rfl ?hE3 (by kernel_rfl) (by kernel_rfl) (by kernel_rfl) (by kernel_rfl) (by kernel_rfl) (by rfl) (by kernel_rfl) ?hloc3 ?hmono3 ?hstep3 ?htail3 ?hlate3
        case hE3 => refine ⟨?_, trivial⟩ <;> (simp only [List.getElem?_toArray, List.getElem?_cons_succ, List.getElem?_cons_zero]; rfl)
        case hstep3 =>
          refine ⟨⟨⟨⟨⟨⟨⟨⟨⟨⟨⟨⟨trivial, ?_⟩, ?_⟩, ?_⟩, ?_⟩, ?_⟩, ?_⟩, ?_⟩, ?_⟩, ?_⟩, ?_⟩, ?_⟩, ?_⟩
          · intro γ w' he hf; clear hf; refine ⟨trivial, ?_⟩; intro R hR
            go_simp
            refine Calls.mono (show Calls _ _ _ w' (Gives w' fun r w'' => IsQ w'' (r) ((1 : Int) : Rat)) from of_q 1 w' (by omega) (by omega)) ?_
            rintro e w2 ⟨v, rfl, hv, hx⟩
            exact ⟨v, rfl, hR v w2 hx rfl hv⟩
          · intro γ w' he hf; clear hf; refine ⟨trivial, ?_⟩; intro R hR
            have hc := he.cells
            go_simp
            (try go_ints); (try (rw [if_neg (by omega)])); (try (rw [if_pos (by omega)])); (try go_simp); (try go_ints)
            refine hR _ _ (Ext.refl _) ?_ trivial
            rfl
          · intro γ w' he hf; clear hf; refine ⟨trivial, ?_⟩; intro R hR
            have hc := he.cells
            go_simp
            (try go_ints); (try (rw [if_neg (by omega)])); (try (rw [if_pos (by omega)])); (try go_simp); (try go_ints)
            refine hR _ _ (Ext.refl _) ?_ trivial
            rfl
          · intro γ w' he hf; clear hf; refine ⟨trivial, ?_⟩; intro R hR
            have hc := he.cells
            go_simp
            (try go_ints); (try (rw [if_neg (by omega)])); (try (rw [if_pos (by omega)])); (try go_simp); (try go_ints)
            refine hR _ _ (Ext.refl _) ?_ trivial
            rfl
          · intro γ w' he hf; clear hf; refine ⟨trivial, ?_⟩; intro R hR
            have hc := he.cells
            go_simp
            (try go_ints); (try (rw [if_neg (by omega)])); (try (rw [if_pos (by omega)])); (try go_simp); (try go_ints)
            refine hR _ _ (Ext.refl _) ?_ trivial
            rfl
          · intro γ w' he hf; clear hf; refine ⟨trivial, ?_⟩; intro R hR
            have hc := he.cells
            go_simp
            (try go_ints); (try (rw [if_neg (by omega)])); (try (rw [if_pos (by omega)])); (try go_simp); (try go_ints)
            refine hR _ _ (Ext.refl _) ?_ trivial
            rfl
          · intro γ w' he hf; clear hf; refine ⟨trivial, ?_⟩; intro R hR
            have hc := he.cells
            have cq0 := he.cell q0
            have cq1 := he.cell q1
            have cq2 := he.cell q2
            have cq3 := he.cell q3
            go_simp
            (try go_ints); (try (rw [if_neg (by omega)])); (try (rw [if_pos (by omega)])); (try go_simp); (try go_ints)
            refine hR _ _ (Ext.refl _) ?_ trivial
            rfl
          · intro γ w' he hf; have f0 : IsQ w' (γ 0) ((1 : Int) : Rat) := hf 0 (by decide); clear hf; refine ⟨trivial, ?_⟩; intro R hR
            go_simp
            refine Calls.mono (show Calls _ _ _ w' (Gives w' fun r w'' => TupQ w'' (r) c0) from Hc0.out.1 ▸ quo_q _ _ _ _ w' (f0.has (by decide)) (Hq.out.ext he) Hc0.out.2.1) ?_
            rintro e w2 ⟨v, rfl, hv, hx⟩
            exact ⟨v, rfl, hR v w2 hx rfl hv⟩
          · intro γ w' he hf; have f0 : IsQ w' (γ 0) ((1 : Int) : Rat) := hf 0 (by decide); have f7 : TupQ w' (γ 7) c0 := hf 7 (by decide); clear hf; refine ⟨trivial, ?_⟩; intro R hR
            have hc := he.cells
            go_simp
            (try go_ints); (try (rw [if_neg (by omega)])); (try (rw [if_pos (by omega)])); (try go_simp); (try go_ints)
            refine hR _ _ (Ext.refl _) ?_ trivial
            rfl
          · intro γ w' he hf; have f0 : IsQ w' (γ 0) ((1 : Int) : Rat) := hf 0 (by decide); have f7 : TupQ w' (γ 7) c0 := hf 7 (by decide); clear hf; refine ⟨trivial, ?_⟩; intro R hR
            obtain ⟨a, e, ha⟩ := f7
            go_simp
            exact hR _ _ (Ext.refl _) rfl ha
          · intro γ w' he hf; have f0 : IsQ w' (γ 0) ((1 : Int) : Rat) := hf 0 (by decide); have f7 : TupQ w' (γ 7) c0 := hf 7 (by decide); clear hf; refine ⟨trivial, ?_⟩; intro R hR
            obtain ⟨a, e, ha⟩ := f7
            have hc := he.cells
            go_simp
            (try go_ints); (try (rw [if_neg (by omega)])); (try (rw [if_pos (by omega)])); (try go_simp); (try go_ints)
            refine hR _ _ (Ext.refl _) ?_ trivial
            rfl
          · intro γ w' he hf; clear hf; refine ⟨trivial, ?_⟩; intro R hR
            go_simp
            exact hR _ _ ((Ext.refl _).alloc _) rfl (NewAt.mk (Nat.le_trans (by simp) he.size) (by simp [isDig]))
        case hloc3 =>
          exact ⟨⟨⟨⟨⟨⟨⟨⟨⟨⟨⟨⟨trivial, (fun γ γ' h => ⟨h 0 rfl, fun w' => (congrArg (fun a => IsQ w' (a) ((1 : Int) : Rat)) (h 0 rfl))⟩)⟩, (fun γ γ' h => ⟨rfl, fun _ => rfl⟩)⟩, (fun γ γ' h => ⟨rfl, fun _ => rfl⟩)⟩, (fun γ γ' h => ⟨rfl, fun _ => rfl⟩)⟩, (fun γ γ' h => ⟨rfl, fun _ => rfl⟩)⟩, (fun γ γ' h => ⟨rfl, fun _ => rfl⟩)⟩, (fun γ γ' h => ⟨rfl, fun _ => rfl⟩)⟩, (fun γ γ' h => ⟨h 7 rfl, fun w' => (congrArg (fun a => TupQ w' (a) c0) (h 7 rfl))⟩)⟩, (fun γ γ' h => ⟨(congrArg (fun a => a) (h 7 rfl)), fun _ => rfl⟩)⟩, (fun γ γ' h => ⟨h 9 rfl, fun w' => (congrArg (fun a => IsQ w' (a) c0) (h 9 rfl))⟩)⟩, (fun γ γ' h => ⟨rfl, fun _ => rfl⟩)⟩, (fun γ γ' h => ⟨h 11 rfl, fun w' => (congrArg (fun a => NewAt w' (a) wr.heap.size #[.bool false, .slice none 0 0, .bool false, .slice none 0 0] 40) (h 11 rfl))⟩)⟩
        case hmono3 =>
          exact ⟨⟨⟨⟨⟨⟨⟨⟨⟨⟨⟨⟨trivial, (fun γ wA w' e h => (show IsQ wA (γ 0) ((1 : Int) : Rat) from h).ext e)⟩, (fun γ wA w' e h => h)⟩, (fun γ wA w' e h => h)⟩, (fun γ wA w' e h => h)⟩, (fun γ wA w' e h => h)⟩, (fun γ wA w' e h => h)⟩, (fun γ wA w' e h => h)⟩, (fun γ wA w' e h => (show TupQ wA (γ 7) c0 from h).ext e)⟩, (fun γ wA w' e h => h)⟩, (fun γ w w' e h => IsQ.ext h e)⟩, (fun γ wA w' e h => h)⟩, (fun γ wA w' e h => (show NewAt wA (γ 11) wr.heap.size #[.bool false, .slice none 0 0, .bool false, .slice none 0 0] 40 from h).ext e)⟩
        case hlate3 =>
          intro γ w8 hx8 hF
          have p0 : IsQ w8 (γ 0) ((1 : Int) : Rat) := (Each.get hF 0 (by decide)).resolve_left (by decide)
          have p7 : TupQ w8 (γ 7) c0 := (Each.get hF 7 (by decide)).resolve_left (by decide)
          have p9 : IsQ w8 (γ 9) c0 := (Each.get hF 9 (by decide)).resolve_left (by decide)
          have p11 : NewAt w8 (γ 11) wr.heap.size #[.bool false, .slice none 0 0, .bool false, .slice none 0 0] 40 := (Each.get hF 11 (by decide)).resolve_left (by decide)
          clear hF
          simp only [fillAll, gV, kv, List.getD_cons_zero, List.getD_cons_succ, Act.put, List.setIfInBounds_toArray, List.set_cons_zero, List.set_cons_succ, List.toList_toArray, List.drop_succ_cons, List.drop_zero, List.drop_nil, Nat.zero_add, Nat.reduceAdd, lateP, Array.getD_eq_getD_getElem?, List.getElem?_toArray, List.getElem?_cons_succ, List.getElem?_cons_zero, Option.getD_some]
          generalize γ 0 = g0 at *
          generalize γ 7 = g7 at *
          generalize γ 9 = g9 at *
          generalize γ 11 = g11 at *
          clear γ
          obtain ⟨a7, rfl, -⟩ := p7
          obtain ⟨gc, rfl, hgc, ec⟩ := p11
          obtain ⟨b5, A5, n5, c5, b6, A6, n6, c6, rfl⟩ := p9.cells
          clear q0 q1 q2 q3 p0
          obtain ⟨cec0, cec1, cec2, cec3⟩ := ec.cells4
          have fec := ec.frozen
          go_wp2
          refine ⟨?_, trivial⟩
          go_wp2
          skip
          obtain ⟨W9, eW, ec', U⟩ := ec.put4 (.bool b5) (.slice A5 n5 c5) (.bool b6) (.slice A6 n6 c6) rfl rfl rfl rfl
          rw [← eW]
          clear eW ec
          replace p9 := p9.kd U.kd
          replace hx8 := U.from_ hx8 (by simp <;> omega)
          have ec := ec'
          clear U ec'
          go_meet
          case rel => exact ⟨gc, rfl, BoxQ.mk ec p9, hx8⟩
        intro γ w8 hx8 hF
        have p0 : IsQ w8 (γ 0) ((1 : Int) : Rat) := Each.get hF 0 (by decide)
        have p7 : TupQ w8 (γ 7) c0 := Each.get hF 7 (by decide)
        have p9 : IsQ w8 (γ 9) c0 := Each.get hF 9 (by decide)
        have p11 : NewAt w8 (γ 11) wr.heap.size #[.bool false, .slice none 0 0, .bool false, .slice none 0 0] 40 := Each.get hF 11 (by decide)
        clear hF
        simp only [fillAll, gV, kv, List.getD_cons_zero, List.getD_cons_succ, Act.put, List.setIfInBounds_toArray, List.set_cons_zero, List.set_cons_succ, List.toList_toArray, List.drop_succ_cons, List.drop_zero, List.drop_nil, Nat.zero_add, Nat.reduceAdd]
        generalize γ 0 = g0 at *
        generalize γ 7 = g7 at *
        generalize γ 9 = g9 at *
        generalize γ 11 = g11 at *
        clear γ
        obtain ⟨a7, rfl, -⟩ := p7
        obtain ⟨gc, rfl, hgc, ec⟩ := p11
        obtain ⟨b5, A5, n5, c5, b6, A6, n6, c6, rfl⟩ := p9.cells
        clear q0 q1 q2 q3 p0
        obtain ⟨cec0, cec1, cec2, cec3⟩ := ec.cells4
        have fec := ec.frozen
        go_wp2
        skip
        obtain ⟨W9, eW, ec', U⟩ := ec.put4 (.bool b5) (.slice A5 n5 c5) (.bool b6) (.slice A6 n6 c6) rfl rfl rfl rfl
        rw [← eW]
        clear eW ec
        replace p9 := p9.kd U.kd
        replace hx8 := U.from_ hx8 (by simp <;> omega)
        have ec := ec'
        clear U ec'
        go_meet
        case rel => exact ⟨gc, rfl, BoxQ.mk ec p9, hx8⟩
      case rest =>
        clear q0 q1 q2 q3 Hq
        obtain ⟨gc, rfl, ⟨b5, A5, n5, c5, b6, A6, n6, c6, ec, hq⟩, hxc⟩ := hcut
        have e1 : c0 = 1 / ld RR := Hc0.out.1
        have Hq := Lib.hid (hq.has (by have := Hc0.out.2.2.1; rw [e1]; omega)); clear hq e1
        obtain ⟨cec0, cec1, cec2, cec3⟩ := ec.cells4
        have fec := ec.frozen
        go_wp2_with fail
        refine wp_region_par (k := 5) (D := [76, 77, 78, 79, 80]) (T := [[], [], [0, 1], [], [], [0, 1, 2, 3, 4], [0, 1, 2, 3, 4, 5], [0, 1, 2, 3, 4, 5, 6]]) (EK := [9, 14, 5]) (EV := [?e4x0, ?e4x1, ?e4x2]) (VL := [(kv ?v4x0), (kv ?v4x1), (fun γ => γ 2), (kv ?v4x3), (kv ?v4x4)]) (FL := fun γ w' => [True, True, IsP 0 w' (γ 2) (psc c0 RR), True, True]) ?hE4 (by kernel_rfl) (by kernel_rfl) (by rfl) (by kernel_rfl) ?hloc4 ?hmono4 ?hstep4 ?htail4
        case hE4 => refine ⟨?_, ?_, ?_, trivial⟩ <;> (simp only [List.getElem?_toArray, List.getElem?_cons_succ, List.getElem?_cons_zero]; rfl)
        case hstep4 =>
          refine ⟨⟨⟨⟨⟨trivial, ?_⟩, ?_⟩, ?_⟩, ?_⟩, ?_⟩
          · intro γ w' he hf; clear hf; refine ⟨trivial, ?_⟩; intro R hR
            have hc := he.cells
            go_simp
            (try go_ints); (try (rw [if_neg (by omega)])); (try (rw [if_pos (by omega)])); (try go_simp); (try go_ints)
            refine hR _ _ (Ext.refl _) ?_ trivial
            rfl
          · intro γ w' he hf; clear hf; refine ⟨trivial, ?_⟩; intro R hR
            have hc := he.cells
            have cq0 := he.cell cec0
            have cq1 := he.cell cec1
            have cq2 := he.cell cec2
            have cq3 := he.cell cec3
            go_simp
            (try go_ints); (try (rw [if_neg (by omega)])); (try (rw [if_pos (by omega)])); (try go_simp); (try go_ints)
            refine hR _ _ (Ext.refl _) ?_ trivial
            rfl
          · intro γ w' he hf; clear hf; refine ⟨trivial, ?_⟩; intro R hR
            go_simp
            refine Calls.mono (show Calls _ _ _ w' (Gives w' fun r w'' => IsP 0 w'' (r) (psc c0 RR)) from Gives.imp (scale_pP _ _ RR c0 w' (Hs.out.2.2.1.ext (hxc.trans he)) (Hq.out.ext he) (fun i => by have := HE.out.2.1.1.elem i; omega) (by omega)) fun _ _ h => h.base_le (Nat.zero_le _)) ?_
            rintro e w2 ⟨v, rfl, hv, hx⟩
            exact ⟨v, rfl, hR v w2 hx rfl hv⟩
          · intro γ w' he hf; clear hf; refine ⟨trivial, ?_⟩; intro R hR
            have hc := he.cells
            go_simp
            (try go_ints); (try (rw [if_neg (by omega)])); (try (rw [if_pos (by omega)])); (try go_simp); (try go_ints)
            refine hR _ _ (Ext.refl _) ?_ trivial
            rfl
          · intro γ w' he hf; clear hf; refine ⟨trivial, ?_⟩; intro R hR
            have hc := he.cells
            have cq0 := he.cell cec0
            have cq1 := he.cell cec1
            have cq2 := he.cell cec2
            have cq3 := he.cell cec3
            go_simp
            (try go_ints); (try (rw [if_neg (by omega)])); (try (rw [if_pos (by omega)])); (try go_simp); (try go_ints)
            refine hR _ _ (Ext.refl _) ?_ trivial
            rfl
        case hloc4 =>
          exact ⟨⟨⟨⟨⟨trivial, (fun γ γ' h => ⟨rfl, fun _ => rfl⟩)⟩, (fun γ γ' h => ⟨rfl, fun _ => rfl⟩)⟩, (fun γ γ' h => ⟨h 2 rfl, fun w' => (congrArg (fun a => IsP 0 w' (a) (psc c0 RR)) (h 2 rfl))⟩)⟩, (fun γ γ' h => ⟨rfl, fun _ => rfl⟩)⟩, (fun γ γ' h => ⟨rfl, fun _ => rfl⟩)⟩
        case hmono4 =>
          exact ⟨⟨⟨⟨⟨trivial, (fun γ wA w' e h => h)⟩, (fun γ wA w' e h => h)⟩, (fun γ wA w' e h => (show IsP 0 wA (γ 2) (psc c0 RR) from h).ext e)⟩, (fun γ wA w' e h => h)⟩, (fun γ wA w' e h => h)⟩
        intro γ w5 hx5 hF
        have p2 : IsP 0 w5 (γ 2) (psc c0 RR) := Each.get hF 2 (by decide)
        clear hF
        simp only [fillAll, gV, kv, List.getD_cons_zero, List.getD_cons_succ, Act.put, List.setIfInBounds_toArray, List.set_cons_zero, List.set_cons_succ, List.toList_toArray, List.drop_succ_cons, List.drop_zero, List.drop_nil, Nat.zero_add, Nat.reduceAdd]
        generalize γ 2 = g2 at *
        clear γ
        clear cec0 cec1 cec2 cec3 fec ec
        have Hp := Lib.hid p2; clear p2
        go_wp2_with fail
        refine Calls.mono (scale_pP _ _ U c0 _ (Hs.out.2.1.ext (hxc.trans hx5)) (Hq.out.ext hx5) (fun i => by have := HE.out.2.1.2.2.1.elem i; omega) (by omega)) ?_
        rintro e w6 ⟨r6, rfl, hr6, hx6⟩
        have hD : psc c0 RR = mn RR := by rw [Hc0.out.1]; rfl
        have hU : psc c0 U = psc (1 / ld RR) U := by rw [Hc0.out.1]; rfl
        rw [hU] at hr6
        have hpd := Hp.out.ext hx6
        rw [hD] at hpd
        replace hx := ((hx.trans hxc).trans hx5).trans hx6
        have Hd := Lib.hid (And.intro hpd (hr6.base_le (Nat.zero_le _)))
        have hplD : pl (mn RR) ≤ 7 := by rw [mn_pl Hs.out.1.1.1]; exact hlR
        have hplU : pl (psc (1 / ld RR) U) ≤ 7 := Nat.le_trans (pl_le ((pl_sup Hs.out.1.1.2.2.1).psc _)) hlU
        have hmne : mn RR ≠ pz := mn_ne Hs.out.1.1.1 Hc0.out.2.2.2
        have Hmne := Lib.hid hmne
        clear hmne hD hU Hp Hq hpd hr6 hxc hx5 hx6
        go_wp2_with fail
        refine Calls.mono (divide_p _ _ G0 (mn RR) 22 14621052 _ ((Hr.out.2.ext hx).base_le (Nat.zero_le _)) Hd.out.1 Hmne.out HC.out.2.1 HE.out.2.1.2.1 (by omega) (by
          have : (pl G0 + 2) * (14621052 + 1) ≤ 9 * (14621052 + 1) := Nat.mul_le_mul_right _ (by omega)
          omega)) ?_
        rintro e w7 ⟨r7, rfl, ⟨qv, rv, rfl, hqv, hrv⟩, hx7⟩
        have Hper := Lib.hid (hqv.base_le (Nat.zero_le _)); clear hqv hrv
        have Hd' := Lib.hid (And.intro (Hd.out.1.ext hx7) (Hd.out.2.ext hx7))
        replace hx := hx.trans hx7
        clear Hd hx7
        go_wp2_with fail
        refine Calls.mono (divide_p _ _ (psc (1 / ld RR) U) (pq G0 (mn RR)) 83529177 1052715993 _ Hd'.out.2 Hper.out HE.out.2.2.1.1 HE.out.2.1.2.2.2 HE.out.2.2.1.2.1 (by omega) (by
          have : (pl (psc (1 / ld RR) U) + 2) * (1052715993 + 1) ≤ 9 * (1052715993 + 1) := Nat.mul_le_mul_right _ (by omega)
          omega)) ?_
        rintro e w8 ⟨r8, rfl, ⟨qv2, uv2, rfl, hqv, huv⟩, hx8⟩
        have Hu2 := Lib.hid (huv.base_le (Nat.zero_le _)); clear hqv huv
        have Hd := Lib.hid (Hd'.out.1.ext hx8)
        replace hx := hx.trans hx8
        clear Hd' Hper hx8
        have HS := Lib.hid HE.out.1.2
        go_wp2_with fail
        refine Calls.mono (mul_pP _ _ (pr (psc (1 / ld RR) U) (pq G0 (mn RR))) F0 8505257129 22 _ Hu2.out ((Hr.out.1.ext hx).base_le (Nat.zero_le _)) HS.out.1 (fun i => HC.out.1.elem i) (by have := HS.out.2.1; omega) (by omega) (by decide) (by decide) (by
          have : (pl (pr (psc (1 / ld RR) U) (pq G0 (mn RR))) + 1) * (8505257129 + 22 + 1) ≤ 8 * (8505257129 + 22 + 1) := Nat.mul_le_mul_right _ (by have := HS.out.2.1; omega)
          omega)) ?_
        rintro e w9 ⟨r9, rfl, hr9, hx9⟩
        have Hm := Lib.hid (hr9.base_le (Nat.zero_le _)); clear hr9
        have Hd' := Lib.hid (And.intro (Hd.out.ext hx9) (Hu2.out.ext hx9))
        replace hx := hx.trans hx9
        clear Hd Hu2 hx9
        go_wp2_with fail
        refine Calls.mono (sub_pP _ _ (mn RR) (cv (pr (psc (1 / ld RR) U) (pq G0 (mn RR))) F0) _ Hd'.out.1 Hm.out (fun i => by have := HE.out.2.1.2.1.elem i; omega) (fun i => by have := HS.out.2.2.2.2.1 i; omega) (by omega) (by
          have := pl_le ((pl_sup HS.out.2.2.2.2.2.2.2.1).cv (pl_sup HC.out.2.2.1)); have := HS.out.2.1; omega)) ?_
        rintro e w10 ⟨r10, rfl, hr10, hx10⟩
        have Hx10 := Lib.hid (hr10.base_le (Nat.zero_le _)); clear hr10
        have Hd := Lib.hid (And.intro (Hd'.out.1.ext hx10) (Hd'.out.2.ext hx10))
        replace hx := hx.trans hx10
        clear Hd' Hm hx10
        go_wp2_with fail
        refine Calls.mono (divide_p _ _ (psb (mn RR) (cv (pr (psc (1 / ld RR) U) (pq G0 (mn RR))) F0)) G0 8519878205 22 _ Hx10.out ((Hr.out.2.ext hx).base_le (Nat.zero_le _)) Hz.out HE.out.2.2.2.2.1 HC.out.2.1 (by have := HE.out.2.2.2.2.2; omega) (by
          have : (pl (psb (mn RR) (cv (pr (psc (1 / ld RR) U) (pq G0 (mn RR))) F0)) + 2) * (22 + 1) ≤ 16 * (22 + 1) := Nat.mul_le_mul_right _ (by have := HE.out.2.2.2.2.2; omega)
          omega)) ?_
        rintro e w11 ⟨r11, rfl, ⟨vv, sv2, rfl, hvv, hsv⟩, hx11⟩
        have Hv := Lib.hid hvv; clear hvv hsv
        have Hd' := Lib.hid (And.intro (Hd.out.1.ext hx11) (Hd.out.2.ext hx11))
        have hszv := (Hx.out.trans hx).size
        clear Hd
        go_wp2
        go_ret3
        exact Gives.mk ⟨_, _, _, _, _, _, rfl, HE.out.1.1, HE.out.1.2, Hd'.out.1, Hd'.out.2, Hv.out.base_le (Nat.zero_le _)⟩ ((Hx.out.trans hx).trans hx11)
    · have hz : S ≠ pz := fun e => h0 (by rw [e, pl_pz])
      have hroom := Hs.out.1.room hz
      have hstep := Hs.out.1.step hz
      have hpos : 0 < pl S := by omega
      have hlR : pl RR ≤ 7 := Hs.out.1.2.2.2.2.1
      have hlt : pl (pr RR S) < pl S := by
        have := pl_le (pr_sup Hs.out.1.1.1 Hs.out.1.1.2.1 hz)
        omega
      have HR := Lib.hid (And.intro hroom (And.intro hstep (And.intro hz hlt))); clear hroom hstep hz hlt
      go_wp2_with fail
      refine Calls.mono (divide_p _ _ RR S (xgb j) (xgb (j + 1)) _ Hs.out.2.2.1 Hs.out.2.2.2.1 HR.out.2.2.1 Hs.out.1.2.2.2.1.1 Hs.out.1.2.2.2.1.2.1 (by omega) (by have := HR.out.1.2.2.2.2.2.2.2.2.1; omega)) ?_
      rintro e w4 ⟨r4, rfl, ⟨qv, tv, rfl, hqv, htv⟩, hx4⟩
      obtain ⟨AT, cT, eT, _, _⟩ := htv.shape
      subst eT
      have Hq := Lib.hid (And.intro (hqv.base_le (Nat.zero_le _)) (htv.base_le (Nat.zero_le _))); clear hqv htv
      have Hs2 := Lib.hid (And.intro (Hs.out.2.1.ext hx4) (And.intro (Hs.out.2.2.2.1.ext hx4) (Hs.out.2.2.2.2.ext hx4)))
      replace hx := hx.trans hx4
      clear hx4
      go_wp2_with fail
      refine Calls.mono (mul_pP _ _ (pq RR S) N 73105268 76218651 _ Hq.out.1 Hs2.out.2.2 HR.out.1.2.2.2.2.2.2.2.1 (fun i => by have := Hs.out.1.2.2.2.1.2.2.2.elem i; have := HR.out.1.2.2.2.2.1; omega) (by have := pl_le HR.out.1.2.2.2.2.2.1; omega) (by have := HR.out.1.2.2.2.2.2.2.1; omega) (by decide) (by decide) (by
        have : (pl (pq RR S) + 1) * (73105268 + 76218651 + 1) ≤ 9 * (73105268 + 76218651 + 1) := Nat.mul_le_mul_right _ (by have := pl_le HR.out.1.2.2.2.2.2.1; omega)
        omega)) ?_
      rintro e w5 ⟨r5, rfl, hr5, hx5⟩
      have Hm := Lib.hid (hr5.base_le (Nat.zero_le _)); clear hr5
      have Hs3 := Lib.hid (And.intro (Hs2.out.1.ext hx5) (And.intro (Hs2.out.2.1.ext hx5) (And.intro (Hs2.out.2.2.ext hx5) (Hq.out.2.ext hx5))))
      replace hx := hx.trans hx5
      clear hx5 Hs2 Hq
      go_wp2_with fail
      refine Calls.mono (sub_pP _ _ U (cv (pq RR S) N) _ Hs3.out.1 Hm.out (fun i => by have := Hs.out.1.2.2.2.1.2.2.1.elem i; have := HR.out.1.2.2.2.1; omega) (fun i => by have := HR.out.1.2.2.2.2.2.2.2.2.2.1 i; omega) (by have := HR.out.1.2.2.2.2.2.2.2.2.2.2; omega) (by
        have := pl_le (HR.out.1.2.2.2.2.2.1.cv (pl_sup Hs.out.1.1.2.2.2)); have := HR.out.1.2.2.2.2.2.2.1; omega)) ?_
      rintro e w6 ⟨r6, rfl, hr6, hx6⟩
      have Hn := Lib.hid (hr6.base_le (Nat.zero_le _)); clear hr6
      have Hs4 := Lib.hid (And.intro (Hs3.out.2.1.ext hx6) (And.intro (Hs3.out.2.2.1.ext hx6) (Hs3.out.2.2.2.ext hx6)))
      replace hx := hx.trans hx6
      clear hx6 Hs3 Hm
      go_wp2
      go_roundw
      case rel => exact ⟨j + 1, S, pr RR S, N, psb U (cv (pq RR S) N), HR.out.2.1, ⟨Hs4.out.2.1, Hs4.out.1, Hs4.out.2.2, Hn.out⟩, hx⟩
      case measure => have := HR.out.2.2.2; simpa [slen] using this
end Go.Proofs.YtedoifjbgokmcaaGreat
namespace Go.Proofs.YtedoifjbgokmcaaGreat
open Go.RowKit Go.Hp
set_option maxRecDepth 20000 in
set_option maxHeartbeats 4000000 in
theorem gcd_rp (v u : Value) (l m : List Rat) (w : World) (hv : HsV 0 w v l) (hu : HsV 0 w u m) (cF : CD 22 (co l)) (cG : CD 22 (co m)) (lF : l.length ≤ 7) (lG : m.length ≤ 7) :
    Calls Tryz.prog 34 #[v, u] w (Gives w fun r w' => ∃ D, IsG (co l) (co m) D ∧ IsP 0 w' r D) := by
  have HV := Lib.hid hv; have HU := Lib.hid hu
  obtain ⟨A, c, rfl⟩ := hv.len
  obtain ⟨E, d, rfl⟩ := hu.len
  clear hv hu
  have hst := GcSt.startM (Fin_.co l) (Fin_.co m) cF cG (Nat.le_trans (pl_le (co_sup l)) lF) (Nat.le_trans (pl_le (co_sup m)) lG)
  have Hst := Lib.hid (And.intro hst (And.intro (mn_mn (Fin_.co l)) (And.intro cF cG))); clear hst cF cG
  go_enter Tryz.func34, Tryz.ntmps34
  go_wp2_with fail
  refine Calls.mono (monic_rp _ l 22 _ HV.out (fun i => Hst.out.2.2.1.elem i) (by decide) (by omega)) ?_
  rintro e w1 ⟨r1, rfl, hr1, hx1⟩
  have Hr1 := Lib.hid hr1; clear hr1
  go_wp2_with fail
  refine Calls.mono (monic_rp _ m 22 _ (HU.out.ext hx1) (fun i => Hst.out.2.2.2.elem i) (by decide) (by omega)) ?_
  rintro e w2 ⟨r2, rfl, hr2, hx2⟩
  have Hr := Lib.hid (And.intro ((Hr1.out.ext hx2).base_le (Nat.zero_le _)) (hr2.base_le (Nat.zero_le _)))
  have Hx := Lib.hid (hx1.trans hx2)
  clear Hr1 hr2 hx1 hx2
  go_wp2
  go_loopw [5, 6] (fun fv gv wr => ∃ (j : Nat) (F G : Nat → Rat), GcSt (co l) (co m) j F G ∧ mn F = F ∧ mn G = G ∧ IsP 0 wr fv F ∧ IsP 0 wr gv G ∧ Ext w wr) (fun _ gv _ => slen gv)
  case atStart => exact ⟨0, _, _, Hst.out.1, mn_mn (Fin_.co l), mn_mn (Fin_.co m), Hr.out.1, Hr.out.2, Hx.out⟩
  case round =>
    clear Hr Hx Hst
    obtain ⟨j, F, G, hst, m1, m2, hf, hg, hx⟩ := hrel
    have hgf := hg.fin
    obtain ⟨A2, c2, e2, _, _⟩ := hg.shape
    subst e2
    have Hfg := Lib.hid (And.intro hst (And.intro hf hg)); clear hst hf hg
    have Hm := Lib.hid (And.intro m1 m2); clear m1 m2
    by_cases h0 : pl G = 0
    · have hz : G = pz := (pl_zero hgf).1 h0
      have hI := Hfg.out.1.end_ hz
      rw [Hm.out.1] at hI
      have hn0 : ¬ (0 < ((pl G : Nat) : Int)) := by omega
      have HI := Lib.hid (And.intro hI h0); clear hI hz h0 hgf
      go_wp2
      go_ret
      exact Gives.mk ⟨_, HI.out.1, Hfg.out.2.1⟩ hx
    · have hz : G ≠ pz := fun e => h0 (by rw [e, pl_pz])
      have hroom := Hfg.out.1.room hz
      have hstep := Hfg.out.1.step hz
      have hp2 : 2 * (gcb 44 j + 1) ≤ (pl F + 2) * (gcb 44 j + 1) := Nat.mul_le_mul_right _ (by omega)
      have hpF : pl F ≤ 7 := Hfg.out.1.2.2.2.2.2.1
      have hpG : pl G ≤ 7 := by have := Hfg.out.1.2.2.2.2.2.2; omega
      have hpos : 0 < pl G := by omega
      have hprf := pr_fin Hfg.out.1.1 hgf (F := F) (G := G)
      have hmnp := mn_pl hprf
      have hlt : pl (mn (pr F G)) < pl G := by
        rw [hmnp]
        have := pl_le (pr_sup Hfg.out.1.1 hgf hz)
        omega
      have HR := Lib.hid (And.intro hroom (And.intro hstep (And.intro hz (And.intro hp2 (And.intro hlt (mn_mn hprf)))))); clear hroom hstep hz hp2 hgf hmnp hlt hprf
      go_wp2_with fail
      refine Calls.mono (divide_rP _ _ F G (gcb 44 j) (gcb 44 j) _ Hfg.out.2.1 Hfg.out.2.2 HR.out.2.2.1 Hfg.out.1.2.2.2.1 Hfg.out.1.2.2.2.2.1 (by omega) (by omega) (by have := HR.out.1.2.1; omega)) ?_
      rintro e w3 ⟨r3, rfl, ⟨a, b, rfl, ha, hb⟩, hx3⟩
      have Hb := Lib.hid (hb.base_le (Nat.zero_le _)); clear ha hb
      have Hg := Lib.hid (Hfg.out.2.2.ext hx3)
      replace hx := hx.trans hx3
      clear hx3
      go_wp2_with fail
      refine Calls.mono (monic_rP _ (pr F G) (9 * gcb 44 j + 8) _ Hb.out (fun i => HR.out.1.2.2.2.elem i) (by have := HR.out.1.2.1; have := HR.out.2.2.2.1; omega) (by have := HR.out.1.2.2.1; omega)) ?_
      rintro e w4 ⟨r4, rfl, hr4, hx4⟩
      obtain ⟨A4, c4, e4, _, _⟩ := hr4.shape
      subst e4
      have Hr4 := Lib.hid (hr4.base_le (Nat.zero_le _)); clear hr4
      have Hg' := Lib.hid (Hg.out.ext hx4)
      replace hx := hx.trans hx4
      clear hx4
      go_wp2
      go_roundw
      case rel => exact ⟨j + 1, G, _, HR.out.2.1, Hm.out.2, HR.out.2.2.2.2.2, Hg'.out, Hr4.out, hx⟩
      case measure => have := HR.out.2.2.2.2.1; simpa [slen] using this
end Go.Proofs.YtedoifjbgokmcaaGreat
namespace Go.Proofs.YtedoifjbgokmcaaGreat
open Go.RowKit Go.Hp
theorem lead_rP (v : Value) (F : Nat → Rat) (w : World) (hv : IsP 0 w v F) (hs : ∀ i, qsz (F i) ≤ 274877906944) (hn : pl F ≤ 274877906944) : Calls Tryz.prog 69 #[v] w (Gives w fun r w' => IsQ w' r (ld F)) := by
  obtain ⟨l, h1, h2, h3, rfl⟩ := hv.hs hs
  exact lead_rp v l w h1 (by omega)
set_option maxRecDepth 20000 in
set_option maxHeartbeats 8000000 in
theorem xgcd_rp (v u : Value) (l m : List Rat) (w : World) (hv : HsV 0 w v l) (hu : HsV 0 w u m) (cF : CD 22 (co l)) (cG : CD 22 (co m)) (lF : l.length ≤ 7) (lG : m.length ≤ 7) :
    Calls Tryz.prog 32 #[v, u] w (Gives w fun r w' => ∃ dv uv vv D U V, r = .tuple #[dv, uv, vv] ∧ XgVal (co l) (co m) D U V ∧ IsP 0 w' dv D ∧ IsP 0 w' uv U ∧ IsP 0 w' vv V) := by
  have hN1 := normal_rp _ l w hv (by omega)
  have hN2 := fun w' (e : Ext w w') => normal_rp _ m w' (hu.ext e) (by omega)
  have pF := Nat.le_trans (pl_le (co_sup l)) lF
  have pG := Nat.le_trans (pl_le (co_sup m)) lG
  have fF := Fin_.co l; have fG := Fin_.co m
  obtain ⟨A, c, rfl⟩ := hv.len
  obtain ⟨E, d, rfl⟩ := hu.len
  clear hv hu lF lG
  obtain ⟨F0, hF0⟩ : ∃ F0, F0 = co l := ⟨_, rfl⟩
  obtain ⟨G0, hG0⟩ : ∃ G0, G0 = co m := ⟨_, rfl⟩
  rw [← hF0] at cF hN1 pF fF
  rw [← hG0] at cG hN2 pG fG
  rw [← hF0, ← hG0]
  clear hF0 hG0
  have HN := Lib.hid (And.intro hN1 hN2)
  have HC := Lib.hid (And.intro cF (And.intro cG (And.intro fF fG))); clear cF cG fF fG hN1 hN2
  have E1 := Lib.hid (show qsz (((1 : Int) : Rat)) = 1 by decide)
  go_enter Tryz.func32, Tryz.ntmps32
  go_wp2_with fail
  refine Calls.mono HN.out.1 ?_
  rintro e w1 ⟨r1, rfl, hr1, hx1⟩
  have Hr1 := Lib.hid hr1; clear hr1
  go_wp2_with fail
  refine Calls.mono (HN.out.2 w1 hx1) ?_
  rintro e w2 ⟨r2, rfl, hr2, hx2⟩
  obtain ⟨A1, c1, e1, _, _⟩ := (Hr1.out).shape
  obtain ⟨A2, c2, e2, _, _⟩ := hr2.shape
  subst e1 e2
  have Hr := Lib.hid (And.intro ((Hr1.out.ext hx2).base_le (Nat.zero_le _)) (hr2.base_le (Nat.zero_le _)))
  have Hx := Lib.hid (hx1.trans hx2)
  clear Hr1 hr2 hx1 hx2 HN
  by_cases hg0 : pl G0 = 0
  · have hz : G0 = pz := (pl_zero HC.out.2.2.2).1 hg0
    have bg : ((pl G0 : Int) == 0) = true := by rw [hg0]; rfl
    have Hz := Lib.hid hz; clear hz hg0
    by_cases hf0 : pl F0 = 0
    · have hzf : F0 = pz := (pl_zero HC.out.2.2.1).1 hf0
      have bf : ((pl F0 : Int) == 0) = true := by rw [hf0]; rfl
      have Hzf := Lib.hid hzf; clear hzf hf0
      go_wp2
      go_ret3
      have hl := (XgVal.low HC.out.2.2.1 HC.out.1 pF).1
      have e1 : mn F0 = pz := by rw [Hzf.out, mn_pz]
      have e2 : cs (1 / ld F0) pz = pz := by
        rw [Hzf.out]
        funext n
        cases n with
        | zero => show 1 / (0 : Rat) = 0; decide +kernel
        | succ n => rfl
      rw [e1, e2] at hl
      rw [Hz.out]
      exact Gives.mk ⟨_, _, _, _, _, _, rfl, hl, IsP.nil _ _, IsP.nil _ _, IsP.nil _ _⟩ Hx.out
    · have bf : ((pl F0 : Int) == 0) = false := by simpa using hf0
      have hzf : F0 ≠ pz := fun e => hf0 (by rw [e, pl_pz])
      have Hzf := Lib.hid (And.intro hzf (ld_ne HC.out.2.2.1 hzf)); clear hzf hf0
      go_wp2_with fail
      refine Calls.mono (monic_rP _ F0 22 _ Hr.out.1 (fun i => HC.out.1.elem i) (by decide) (by omega)) ?_
      rintro e w3 ⟨r3, rfl, hr3, hx3⟩
      have Hm := Lib.hid (hr3.base_le (Nat.zero_le _)); clear hr3
      go_wp2_with fail
      refine Calls.mono (of_rq 1 _ (by omega) (by omega)) ?_
      rintro e w4 ⟨r4, rfl, hr4, hx4⟩
      have H1 := Lib.hid hr4; clear hr4
      have hx := hx3.trans hx4
      have Hm := Lib.hid (Hm.out.ext hx4)
      clear hx3 hx4
      go_wp2_with fail
      refine Calls.mono (lead_rP _ F0 _ (Hr.out.1.ext hx) (fun i => by have := HC.out.1.elem i; omega) (by omega)) ?_
      rintro e w5 ⟨r5, rfl, hr5, hx5⟩
      have H5 := Lib.hid hr5; clear hr5
      have Hm := Lib.hid (Hm.out.ext hx5)
      have H1 := Lib.hid (H1.out.ext hx5)
      replace hx := hx.trans hx5
      clear hx5
      go_wp2_with fail
      refine Calls.mono (ratio_rq _ _ _ _ _ (H1.out.has (by rw [E1.out]; decide)) (H5.out.has (by have : qsz (ld F0) ≤ 22 := HC.out.1.elem _; omega))) ?_
      rintro e w6 ⟨r6, rfl, hr6, hx6⟩
      obtain ⟨b5, A5, n5, c5, b6, A6, n6, c6, rfl⟩ := hr6.cells
      have hu1 := IsP.single (base := 0) (OwnQ.row (NewQ.own (NewQ.mk hr6 (base := 0) (Nat.zero_le _) 40))) (inv_ne Hzf.out.2)
      rw [show cs (((1 : Int) : Rat) / ld F0) pz = cs (1 / ld F0) pz from rfl] at hu1
      have Hu := Lib.hid hu1
      have Hm := Lib.hid ((Hm.out.ext hx6).ext ((Ext.refl _).alloc (.cells #[.bool b5, .slice A5 n5 c5, .bool b6, .slice A6 n6 c6] 40)))
      replace hx := hx.trans hx6
      clear hx6 hr6 hu1 H1 H5
      go_wp2
      go_ret3
      have hl := (XgVal.low HC.out.2.2.1 HC.out.1 pF).1
      rw [Hz.out]
      exact Gives.mk ⟨_, _, _, _, _, _, rfl, hl, Hm.out, Hu.out, IsP.nil _ _⟩ ((Hx.out.trans hx).alloc _)
  have bg : ((pl G0 : Int) == 0) = false := by simpa using hg0
  have hz : G0 ≠ pz := fun e => hg0 (by rw [e, pl_pz])
  have Hst := Lib.hid (XgSt.start HC.out.2.2.1 HC.out.2.2.2 HC.out.1 HC.out.2.1 pF pG)
  have Hz := Lib.hid hz; clear hz hg0
  go_wp2_with fail
  refine Calls.mono (of_rq 1 _ (by omega) (by omega)) ?_
  rintro e w3 ⟨r3, rfl, hr3, hx3⟩
  obtain ⟨b5, A5, n5, c5, b6, A6, n6, c6, rfl⟩ := hr3.cells
  have hu := IsP.single (a := ((1 : Int) : Rat)) (OwnQ.row (NewQ.own (NewQ.mk hr3 (base := 0) (Nat.zero_le _) 40))) (by decide)
  rw [show cs ((1 : Int) : Rat) pz = pone from rfl] at hu
  have Hu := Lib.hid hu; clear hr3 hu
  go_wp2
  have hxa : Ext w2 (w3.alloc (.cells #[.bool b5, .slice A5 n5 c5, .bool b6, .slice A6 n6 c6] 40)) := hx3.alloc _
  clear hx3
  go_loopw [9, 10, 11, 12] (fun rv sv uv nv wr => ∃ (j : Nat) (RR S U N : Nat → Rat), XgSt F0 G0 j RR S U N ∧ (IsP 0 wr uv U ∧ IsP 0 wr rv RR ∧ IsP 0 wr sv S ∧ IsP 0 wr nv N) ∧ Ext w2 wr) (fun _ sv _ _ _ => slen sv)
  case atStart => exact ⟨0, F0, G0, pone, pz, Hst.out, ⟨Hu.out.ext ((Ext.refl _).alloc _), Hr.out.1.ext (hxa.alloc _), Hr.out.2.ext (hxa.alloc _), IsP.empty _ _ _ _ (by omega)⟩, hxa.alloc _⟩
  case round =>
    clear Hu hxa Hst
    obtain ⟨j, RR, S, U, N, hst, ⟨hu, hr, hs, hn⟩, hx⟩ := hrel
    obtain ⟨AS, cS, eS, _, _⟩ := hs.shape
    subst eS
    have Hs := Lib.hid (And.intro hst (And.intro hu (And.intro hr (And.intro hs hn)))); clear hst hu hr hs hn
    by_cases h0 : pl S = 0
    · have hz : S = pz := (pl_zero Hs.out.1.1.2.1).1 h0
      have hn0 : ¬ (0 < ((pl S : Nat) : Int)) := by omega
      have hend := Hs.out.1.end_ hz HC.out.2.2.1 HC.out.2.2.2 Hz.out HC.out.1 HC.out.2.1 pF
      have hval := XgVal.high Hs.out.1 hz HC.out.2.2.1 HC.out.2.2.2 Hz.out HC.out.1 HC.out.2.1 pF pG
      obtain ⟨d4, cR, cD, cU, cU1, lU, pR, lR, q0', cQ, lQ, cU2, lU2, cX, lX, cV, hX⟩ := hend
      have hqz := inv_qsz cR
      have HE := Lib.hid (And.intro hval (And.intro (And.intro cR (And.intro cD (And.intro cU cU1))) (And.intro (And.intro q0' (And.intro cQ lQ)) (And.intro (And.intro cU2 lU2) (And.intro cX lX)))))
      have Hd4 := Lib.hid (And.intro d4 hqz)
      have hlR : pl RR ≤ 7 := lR
      have hlU : pl U ≤ 7 := lU
      have HS := Lib.hid hval.2
      clear d4 cR cD cU cU1 q0' cQ lQ cU2 lU2 cX lX cV hX hval hz h0 hqz
      go_wp2_with fail
      refine Calls.mono (of_rq 1 _ (by omega) (by omega)) ?_
      rintro e w4 ⟨r4, rfl, hr4, hx4⟩
      have H1 := Lib.hid hr4; clear hr4
      go_wp2_with fail
      refine Calls.mono (lead_rP _ RR _ (Hs.out.2.2.1.ext hx4) (fun i => by have := HE.out.2.1.1.elem i; omega) (by omega)) ?_
      rintro e w5 ⟨r5, rfl, hr5, hx5⟩
      have H5 := Lib.hid hr5; clear hr5
      have H1 := Lib.hid (H1.out.ext hx5)
      have hxc := hx4.trans hx5
      clear hx4 hx5
      go_wp2_with fail
      refine Calls.mono (ratio_rq _ _ _ _ _ (H1.out.has (by rw [E1.out]; decide)) (H5.out.has (by have : qsz (ld RR) ≤ 7310526 := HE.out.2.1.1.elem _; omega))) ?_
      rintro e w6 ⟨r6, rfl, hr6, hx6⟩
      obtain ⟨b5, A5, n5, c5, b6, A6, n6, c6, rfl⟩ := hr6.cells
      replace hxc := hxc.trans hx6
      go_upto_region 13 with (fail)
      obtain ⟨W9, eW9, e9, x9⟩ := Box.made w6 40 #[.bool b5, .slice A5 n5 c5, .bool b6, .slice A6 n6 c6] (by simp [isDig])
      rw [← eW9]
      clear eW9
      have Hc := Lib.hid ((hr6.ext x9).has (q := ((1 : Int) : Rat) / ld RR) (show qsz (1 / ld RR) ≤ _ by have := Hd4.out.2; omega))
      replace hxc := hxc.trans x9
      generalize w6.heap.size = gc at *
      clear x9 hr6 hx6 H1 H5
      obtain ⟨ce90, ce91, ce92, ce93⟩ := e9.cells4
      have fe9 := e9.frozen
      go_wp2_with fail
      refine Calls.mono (scale_rP _ _ RR (((1 : Int) : Rat) / ld RR) 7310526 _ (Hs.out.2.2.1.ext hxc) Hc.out (fun i => HE.out.2.1.1.elem i) (show 7310526 + qsz (1 / ld RR) ≤ _ by have := Hd4.out.2; omega) (by omega)) ?_
      rintro e w10 ⟨r10, rfl, hr10, hx10⟩
      rw [show psc (((1 : Int) : Rat) / ld RR) RR = mn RR from rfl] at hr10
      have Hd := Lib.hid (hr10.base_le (Nat.zero_le _)); clear hr10
      have e9' := e9.ext hx10
      replace hx := (hx.trans hxc).trans hx10
      have Hc' := Lib.hid (Hc.out.ext hx10)
      have Hu := Lib.hid ((Hs.out.2.1.ext hxc).ext hx10)
      have hplD : pl (mn RR) ≤ 7 := by rw [mn_pl Hs.out.1.1.1]; exact hlR
      have hplU : pl (psc (1 / ld RR) U) ≤ 7 := Nat.le_trans (pl_le ((pl_sup Hs.out.1.1.2.2.1).psc _)) hlU
      have Hmne := Lib.hid (mn_ne Hs.out.1.1.1 Hd4.out.1)
      clear e9 ce90 ce91 ce92 ce93 fe9 hxc hx10 Hc
      obtain ⟨ce9'0, ce9'1, ce9'2, ce9'3⟩ := e9'.cells4
      have fe9' := e9'.frozen
      go_wp2_with fail
      refine Calls.mono (divide_rP _ _ G0 (mn RR) 22 14621052 _ (Hr.out.2.ext hx) Hd.out Hmne.out HC.out.2.1 HE.out.2.1.2.1 (by omega) (by omega) (by
        have : (pl G0 + 2) * (14621052 + 1) ≤ 9 * (14621052 + 1) := Nat.mul_le_mul_right _ (by omega)
        omega)) ?_
      rintro e w11 ⟨r11, rfl, ⟨qv, rv, rfl, hqv, hrv⟩, hx11⟩
      have Hper := Lib.hid (hqv.base_le (Nat.zero_le _)); clear hqv hrv
      have Hd' := Lib.hid (Hd.out.ext hx11)
      have Hu' := Lib.hid (Hu.out.ext hx11)
      have Hc := Lib.hid (Hc'.out.ext hx11)
      have e9 := e9'.ext hx11
      replace hx := hx.trans hx11
      clear Hd Hu Hc' e9' ce9'0 ce9'1 ce9'2 ce9'3 fe9' hx11
      obtain ⟨ce90, ce91, ce92, ce93⟩ := e9.cells4
      have fe9 := e9.frozen
      go_wp2_with fail
      refine Calls.mono (scale_rP _ _ U (((1 : Int) : Rat) / ld RR) 76218651 _ Hu'.out Hc.out (fun i => HE.out.2.1.2.2.1.elem i) (show 76218651 + qsz (1 / ld RR) ≤ _ by have := Hd4.out.2; omega) (by omega)) ?_
      rintro e w12 ⟨r12, rfl, hr12, hx12⟩
      rw [show psc (((1 : Int) : Rat) / ld RR) U = psc (1 / ld RR) U from rfl] at hr12
      have Hu1 := Lib.hid (hr12.base_le (Nat.zero_le _)); clear hr12
      have Hd := Lib.hid (Hd'.out.ext hx12)
      have Hper' := Lib.hid (Hper.out.ext hx12)
      replace hx := hx.trans hx12
      clear Hd' Hu' Hc Hper e9 ce90 ce91 ce92 ce93 fe9 hx12
      go_wp2_with fail
      refine Calls.mono (divide_rP _ _ (psc (1 / ld RR) U) (pq G0 (mn RR)) 83529177 1052715993 _ Hu1.out Hper'.out HE.out.2.2.1.1 HE.out.2.1.2.2.2 HE.out.2.2.1.2.1 (by omega) (by have := HE.out.2.2.1.2.2; omega) (by
        have : (pl (psc (1 / ld RR) U) + 2) * (1052715993 + 1) ≤ 9 * (1052715993 + 1) := Nat.mul_le_mul_right _ (by omega)
        omega)) ?_
      rintro e w13 ⟨r13, rfl, ⟨qv2, uv2, rfl, hqv, huv⟩, hx13⟩
      have Hu2 := Lib.hid (huv.base_le (Nat.zero_le _)); clear hqv huv
      have Hd' := Lib.hid (Hd.out.ext hx13)
      replace hx := hx.trans hx13
      clear Hd Hper' Hu1 hx13
      go_wp2_with fail
      refine Calls.mono (mul_rP _ _ (pr (psc (1 / ld RR) U) (pq G0 (mn RR))) F0 8505257129 22 _ Hu2.out (Hr.out.1.ext hx) HS.out.1 (fun i => HC.out.1.elem i) (by have := HS.out.2.1; omega) (by omega) (by decide) (by decide) (by
        have : (pl (pr (psc (1 / ld RR) U) (pq G0 (mn RR))) + pl F0) * (8505257129 + 22 + 1) ≤ 14 * (8505257129 + 22 + 1) := Nat.mul_le_mul_right _ (by have := HS.out.2.1; omega)
        omega)) ?_
      rintro e w14 ⟨r14, rfl, hr14, hx14⟩
      have Hm := Lib.hid (hr14.base_le (Nat.zero_le _)); clear hr14
      have Hd := Lib.hid (And.intro (Hd'.out.ext hx14) (Hu2.out.ext hx14))
      replace hx := hx.trans hx14
      clear Hd' Hu2 hx14
      go_wp2_with fail
      refine Calls.mono (sub_rP _ _ (mn RR) (cv (pr (psc (1 / ld RR) U) (pq G0 (mn RR))) F0) 14621052 8505257152 _ Hd.out.1 Hm.out (fun i => HE.out.2.1.2.1.elem i) HS.out.2.2.2.2.1 (by decide) (by omega) (by
        have := pl_le ((pl_sup HS.out.2.2.2.2.2.2.2.1).cv (pl_sup HC.out.2.2.1)); have := HS.out.2.1; omega)) ?_
      rintro e w15 ⟨r15, rfl, hr15, hx15⟩
      have Hx15 := Lib.hid (hr15.base_le (Nat.zero_le _)); clear hr15
      have Hd' := Lib.hid (And.intro (Hd.out.1.ext hx15) (Hd.out.2.ext hx15))
      replace hx := hx.trans hx15
      clear Hd Hm hx15
      go_wp2_with fail
      refine Calls.mono (divide_rP _ _ (psb (mn RR) (cv (pr (psc (1 / ld RR) U) (pq G0 (mn RR))) F0)) G0 8519878205 22 _ Hx15.out (Hr.out.2.ext hx) Hz.out HE.out.2.2.2.2.1 HC.out.2.1 (by have := HE.out.2.2.2.2.2; omega) (by omega) (by
        have : (pl (psb (mn RR) (cv (pr (psc (1 / ld RR) U) (pq G0 (mn RR))) F0)) + 2) * (22 + 1) ≤ 16 * (22 + 1) := Nat.mul_le_mul_right _ (by have := HE.out.2.2.2.2.2; omega)
        omega)) ?_
      rintro e w16 ⟨r16, rfl, ⟨vv, sv2, rfl, hvv, hsv⟩, hx16⟩
      have Hv := Lib.hid hvv; clear hvv hsv
      have Hd := Lib.hid (And.intro (Hd'.out.1.ext hx16) (Hd'.out.2.ext hx16))
      clear Hd'
      go_wp2
      go_ret3
      exact Gives.mk ⟨_, _, _, _, _, _, rfl, HE.out.1.1, Hd.out.1, Hd.out.2, Hv.out.base_le (Nat.zero_le _)⟩ ((Hx.out.trans hx).trans hx16)
    · have hz : S ≠ pz := fun e => h0 (by rw [e, pl_pz])
      have hroom := Hs.out.1.room hz
      have hstep := Hs.out.1.step hz
      have hpos : 0 < pl S := by omega
      have hlR : pl RR ≤ 7 := Hs.out.1.2.2.2.2.1
      have hlS : pl S ≤ 7 := by have := Hs.out.1.2.2.2.2.2.1; omega
      have hlt : pl (pr RR S) < pl S := by
        have := pl_le (pr_sup Hs.out.1.1.1 Hs.out.1.1.2.1 hz)
        omega
      have HR := Lib.hid (And.intro hroom (And.intro hstep (And.intro hz hlt))); clear hroom hstep hz hlt
      go_wp2_with fail
      refine Calls.mono (divide_rP _ _ RR S (xgb j) (xgb (j + 1)) _ Hs.out.2.2.1 Hs.out.2.2.2.1 HR.out.2.2.1 Hs.out.1.2.2.2.1.1 Hs.out.1.2.2.2.1.2.1 (by omega) (by omega) (by have := HR.out.1.2.2.2.2.2.2.2.2.1; omega)) ?_
      rintro e w4 ⟨r4, rfl, ⟨qv, tv, rfl, hqv, htv⟩, hx4⟩
      obtain ⟨AT, cT, eT, _, _⟩ := htv.shape
      subst eT
      have Hq := Lib.hid (And.intro (hqv.base_le (Nat.zero_le _)) (htv.base_le (Nat.zero_le _))); clear hqv htv
      have Hs2 := Lib.hid (And.intro (Hs.out.2.1.ext hx4) (And.intro (Hs.out.2.2.2.1.ext hx4) (Hs.out.2.2.2.2.ext hx4)))
      replace hx := hx.trans hx4
      clear hx4
      go_wp2_with fail
      refine Calls.mono (mul_rP _ _ (pq RR S) N 73105268 76218651 _ Hq.out.1 Hs2.out.2.2 HR.out.1.2.2.2.2.2.2.2.1 (fun i => by have := Hs.out.1.2.2.2.1.2.2.2.elem i; have := HR.out.1.2.2.2.2.1; omega) (by have := pl_le HR.out.1.2.2.2.2.2.1; omega) (by have := HR.out.1.2.2.2.2.2.2.1; omega) (by decide) (by decide) (by
        have : (pl (pq RR S) + pl N) * (73105268 + 76218651 + 1) ≤ 16 * (73105268 + 76218651 + 1) := Nat.mul_le_mul_right _ (by have := pl_le HR.out.1.2.2.2.2.2.1; have := HR.out.1.2.2.2.2.2.2.1; omega)
        omega)) ?_
      rintro e w5 ⟨r5, rfl, hr5, hx5⟩
      have Hm := Lib.hid (hr5.base_le (Nat.zero_le _)); clear hr5
      have Hs3 := Lib.hid (And.intro (Hs2.out.1.ext hx5) (And.intro (Hs2.out.2.1.ext hx5) (And.intro (Hs2.out.2.2.ext hx5) (Hq.out.2.ext hx5))))
      replace hx := hx.trans hx5
      clear hx5 Hs2 Hq
      go_wp2_with fail
      refine Calls.mono (sub_rP _ _ U (cv (pq RR S) N) 76218651 661060805 _ Hs3.out.1 Hm.out (fun i => by have := Hs.out.1.2.2.2.1.2.2.1.elem i; have := HR.out.1.2.2.2.1; omega) HR.out.1.2.2.2.2.2.2.2.2.2.1 (by decide) (by have := HR.out.1.2.2.2.2.2.2.2.2.2.2; omega) (by
        have := pl_le (HR.out.1.2.2.2.2.2.1.cv (pl_sup Hs.out.1.1.2.2.2)); have := HR.out.1.2.2.2.2.2.2.1; omega)) ?_
      rintro e w6 ⟨r6, rfl, hr6, hx6⟩
      have Hn := Lib.hid (hr6.base_le (Nat.zero_le _)); clear hr6
      have Hs4 := Lib.hid (And.intro (Hs3.out.2.1.ext hx6) (And.intro (Hs3.out.2.2.1.ext hx6) (Hs3.out.2.2.2.ext hx6)))
      replace hx := hx.trans hx6
      clear hx6 Hs3 Hm
      go_wp2
      go_roundw
      case rel => exact ⟨j + 1, S, pr RR S, N, psb U (cv (pq RR S) N), HR.out.2.1, ⟨Hs4.out.2.1, Hs4.out.1, Hs4.out.2.2, Hn.out⟩, hx⟩
      case measure => have := HR.out.2.2.2; simpa [slen] using this
end Go.Proofs.YtedoifjbgokmcaaGreat
namespace Go.Proofs.YtedoifjbgokmcaaGreat
open Go.RowKit Go.Hp
set_option maxRecDepth 20000 in
set_option maxHeartbeats 16000000 in
theorem bezout_law (v0 v1 : Value) (l0 l1 : List Raw) (w : World) (h0 : PolyV w v0 l0) (h1 : PolyV w v1 l1) :
    Calls Tryz.prog 5 #[v0, v1] w (Gives w fun r _ => r = .bool true) := by
  have H0 := Lib.hid h0; have H1 := Lib.hid h1
  obtain ⟨A0, c0, rfl, k1, k2⟩ := h0.len
  obtain ⟨A1, c1, rfl, k3, k4⟩ := h1.len
  clear h0 h1
  go_enter Tryz.func5, Tryz.ntmps5
  go_wp2_with fail
  refine Calls.mono (awake_b _) ?_
  rintro e w1 ⟨r, rfl, rfl, hx⟩
  go_wp2_with fail
  refine Calls.mono (long_b 7 w1.heap.size 2 [(_, l0), (_, l1)] _ (by decide) (by simp) (by simp) (listsV_two w1 _ (H0.out.ext hx) (H1.out.ext hx) rfl)) ?_
  rintro e w2 ⟨rfl, b, rfl, hb⟩
  replace hx := hx.alloc (.cells #[.slice A0 l0.length c0, .slice A1 l1.length c1] 22)
  have Hb := Lib.hid hb; clear hb
  cases b with
  | true =>
    go_wp2
    go_ret
    exact Gives.mk rfl hx
  | false =>
    generalize w1.alloc (.cells #[.slice A0 l0.length c0, .slice A1 l1.length c1] 22) = wb at hx ⊢
    obtain ⟨hl0, hs0⟩ := Hb.out (by trivial) (.slice A0 l0.length c0, l0) (by simp)
    obtain ⟨hl1, hs1⟩ := Hb.out (by trivial) (.slice A1 l1.length c1, l1) (by simp)
    simp only at hl0 hs0 hl1 hs1
    have P0 := Lib.hid (H0.out.has hs0); have P1 := Lib.hid (H1.out.has hs1)
    have hc0 := small_cd H0.out hs0 (n := 7) hl0; have hc1 := small_cd H1.out hs1 (n := 7) hl1
    have HC := Lib.hid (And.intro (And.intro (hc0.mono (t := 22) (by decide)) (hc1.mono (t := 22) (by decide))) (And.intro (small_qsz H0.out hs0) (small_qsz H1.out hs1)))
    have hll0 : (l0.map ratOf).length = l0.length := by simp
    have hll1 : (l1.map ratOf).length = l1.length := by simp
    obtain ⟨m0, hm0⟩ : ∃ m0, m0 = l0.map ratOf := ⟨_, rfl⟩
    obtain ⟨m1, hm1⟩ : ∃ m1, m1 = l1.map ratOf := ⟨_, rfl⟩
    rw [← hm0] at P0 HC hll0
    rw [← hm1] at P1 HC hll1
    rw [← hll0] at hl0 k1 P0 ⊢
    rw [← hll1] at hl1 k3 P1 ⊢
    clear hs0 hs1 hm0 hm1 hll0 hll1 Hb H0 H1 hc0 hc1
    have hp0 := pl_le (co_sup m0)
    have hp1 := pl_le (co_sup m1)
    go_wp2_with fail
    refine Calls.mono (xgcd_p _ _ m0 m1 _ (P0.out.ext hx) (P1.out.ext hx) HC.out.1.1 HC.out.1.2 hl0 hl1) ?_
    rintro e w3 ⟨r3, rfl, ⟨dv, uv, vv, D, U, V, rfl, hval, hsz, hd, hu, hv⟩, hx3⟩
    have HV := Lib.hid (And.intro hval hsz)
    have Ha := Lib.hid (And.intro hd (And.intro hu hv)); clear hval hsz hd hu hv
    replace hx := hx.trans hx3
    clear hx3
    go_wp2_with fail
    refine Calls.mono (xgcd_rp _ _ m0 m1 _ (P0.out.ext hx) (P1.out.ext hx) HC.out.1.1 HC.out.1.2 hl0 hl1) ?_
    rintro e w4 ⟨r4, rfl, ⟨dv', uv', vv', D', U', V', rfl, hval, hd, hu, hv⟩, hx4⟩
    obtain ⟨rfl, rfl, rfl⟩ := XgVal.uniq (Fin_.co m1) HV.out.1 hval
    have Hs := Lib.hid (And.intro hd (And.intro hu hv)); clear hval hd hu hv
    have Ha' := Lib.hid (And.intro (Ha.out.1.ext hx4) (And.intro (Ha.out.2.1.ext hx4) (Ha.out.2.2.ext hx4)))
    replace hx := hx.trans hx4
    clear hx4 Ha
    obtain ⟨lu, g1, g2, g3, g4⟩ := Ha'.out.2.1.hs (fun i => by have := HV.out.2.1 i; omega)
    obtain ⟨lv, g5, g6, g7, g8⟩ := Ha'.out.2.2.hs (fun i => by have := HV.out.2.2.2.1 i; omega)
    have hlu : lu.length ≤ 7 := by rw [g2]; exact HV.out.2.2.1
    have hlv : lv.length ≤ 15 := by rw [g6]; exact HV.out.2.2.2.2.1
    have HL := Lib.hid (And.intro (And.intro g1 g4) (And.intro g5 g8)); clear g1 g2 g3 g4 g5 g6 g7 g8
    go_wp2_with fail
    refine Calls.mono (mul_rp _ _ lu m0 8505257129 2 _ HL.out.1.1 (P0.out.ext hx) (fun i => by rw [HL.out.1.2]; exact HV.out.2.1 i) HC.out.2.1 (by
      have : (lu.length + m0.length) * (8505257129 + 2 + 1) ≤ 14 * (8505257129 + 2 + 1) := Nat.mul_le_mul_right _ (by omega)
      omega) (by omega) (by omega)) ?_
    rintro e w5 ⟨r5, rfl, h5, hx5⟩
    rw [HL.out.1.2] at h5
    have H5 := Lib.hid (h5.base_le (Nat.zero_le _)); clear h5
    have Ha := Lib.hid (And.intro (Ha'.out.1.ext hx5) (And.intro (Ha'.out.2.1.ext hx5) (Ha'.out.2.2.ext hx5)))
    have Hs' := Lib.hid (And.intro (Hs.out.1.ext hx5) (And.intro (Hs.out.2.1.ext hx5) (Hs.out.2.2.ext hx5)))
    have HL2 := Lib.hid (And.intro (HL.out.2.1.ext hx5) HL.out.2.2)
    replace hx := hx.trans hx5
    clear hx5 Ha' Hs HL
    go_wp2_with fail
    refine Calls.mono (mul_rp _ _ lv m1 8519878572 2 _ HL2.out.1 (P1.out.ext hx) (fun i => by rw [HL2.out.2]; exact HV.out.2.2.2.1 i) HC.out.2.2 (by
      have : (lv.length + m1.length) * (8519878572 + 2 + 1) ≤ 22 * (8519878572 + 2 + 1) := Nat.mul_le_mul_right _ (by omega)
      omega) (by omega) (by omega)) ?_
    rintro e w6 ⟨r6, rfl, h6, hx6⟩
    rw [HL2.out.2] at h6
    have H6 := Lib.hid (h6.base_le (Nat.zero_le _)); clear h6
    have H5' := Lib.hid (H5.out.ext hx6)
    have Ha' := Lib.hid (And.intro (Ha.out.1.ext hx6) (And.intro (Ha.out.2.1.ext hx6) (Ha.out.2.2.ext hx6)))
    have Hs := Lib.hid (And.intro (Hs'.out.1.ext hx6) (And.intro (Hs'.out.2.1.ext hx6) (Hs'.out.2.2.ext hx6)))
    replace hx := hx.trans hx6
    clear hx6 Ha Hs' H5 HL2
    have HP := Lib.hid (show pl (cv U (co m0)) ≤ 14 ∧ pl (cv V (co m1)) ≤ 22 by
      have h1 := pl_le ((pl_sup HV.out.2.2.2.2.2.2.2.2.1).cv (co_sup m0))
      have h2 := pl_le ((pl_sup HV.out.2.2.2.2.2.2.2.2.2).cv (co_sup m1))
      have h3 := HV.out.2.2.1
      have h4 := HV.out.2.2.2.2.1
      omega)
    go_wp2_with fail
    refine Calls.mono (add_rP _ _ (cv U (co m0)) (cv V (co m1)) 8505257152 8519878205 _ H5'.out H6.out HV.out.2.2.2.2.2.1 HV.out.2.2.2.2.2.2.1 (by decide) (by have := HP.out.1; omega) (by have := HP.out.2; omega)) ?_
    rintro e w7 ⟨r7, rfl, h7, hx7⟩
    rw [HV.out.1.bezout] at h7
    have H7 := Lib.hid (h7.base_le (Nat.zero_le _)); clear h7
    have Ha := Lib.hid (And.intro (Ha'.out.1.ext hx7) (And.intro (Ha'.out.2.1.ext hx7) (Ha'.out.2.2.ext hx7)))
    have Hs' := Lib.hid (And.intro (Hs.out.1.ext hx7) (And.intro (Hs.out.2.1.ext hx7) (Hs.out.2.2.ext hx7)))
    replace hx := hx.trans hx7
    clear hx7 Ha' Hs H5' H6
    go_wp2_with fail
    refine Calls.mono (gcd_p _ _ m0 m1 _ (P0.out.ext hx) (P1.out.ext hx) HC.out.1.1 HC.out.1.2 hl0 hl1) ?_
    rintro e w8 ⟨r8, rfl, ⟨E, hE1, hE2, hE3⟩, hx8⟩
    have HE := Lib.hid (And.intro hE1 (And.intro hE2 hE3)); clear hE1 hE2 hE3
    have hx8' := Lib.hid hx8
    replace hx := hx.trans hx8
    clear hx8
    go_wp2_with fail
    refine Calls.mono (gcd_rp _ _ m0 m1 _ (P0.out.ext hx) (P1.out.ext hx) HC.out.1.1 HC.out.1.2 hl0 hl1) ?_
    rintro e w9 ⟨r9, rfl, ⟨E', hF1, hF2⟩, hx9⟩
    obtain rfl := HE.out.1.uniq hF1
    have HF := Lib.hid hF2; clear hF1 hF2
    have HE' := Lib.hid (HE.out.2.2.ext hx9)
    have Hxx := Lib.hid (hx8'.out.trans hx9)
    replace hx := hx.trans hx9
    clear hx9 hx8'
    go_wp2_with fail
    refine Calls.mono (samerats_p _ _ _ _ _ _ HE'.out HF.out (by have := HE.out.2.1; omega)) ?_
    rintro e w10 ⟨r10, rfl, rfl, hx10⟩
    have Hy := Lib.hid (Hxx.out.trans hx10)
    have Ha' := Lib.hid (And.intro (Ha.out.1.ext Hy.out) (And.intro (Ha.out.2.1.ext Hy.out) (Ha.out.2.2.ext Hy.out)))
    have Hs := Lib.hid (And.intro (Hs'.out.1.ext Hy.out) (And.intro (Hs'.out.2.1.ext Hy.out) (Hs'.out.2.2.ext Hy.out)))
    have H7' := Lib.hid (H7.out.ext Hy.out)
    replace hx := hx.trans hx10
    clear hx10 Hxx Hy Ha Hs' H7 HE HF HE'
    go_wp2_with fail
    refine Calls.mono (samerats_p _ _ _ _ _ _ Ha'.out.1 Hs.out.1 (by have := HV.out.2.2.2.2.2.2.2.1; omega)) ?_
    rintro e w11 ⟨r11, rfl, rfl, hx11⟩
    have Ha := Lib.hid (And.intro (Ha'.out.1.ext hx11) (And.intro (Ha'.out.2.1.ext hx11) (Ha'.out.2.2.ext hx11)))
    have Hs' := Lib.hid (And.intro (Hs.out.2.1.ext hx11) (Hs.out.2.2.ext hx11))
    have H7 := Lib.hid (H7'.out.ext hx11)
    replace hx := hx.trans hx11
    clear hx11 Ha' Hs H7'
    go_wp2_with fail
    refine Calls.mono (samerats_p _ _ _ _ _ _ Ha.out.2.1 Hs'.out.1 (by have := HV.out.2.2.1; omega)) ?_
    rintro e w12 ⟨r12, rfl, rfl, hx12⟩
    have Ha' := Lib.hid (And.intro (Ha.out.1.ext hx12) (Ha.out.2.2.ext hx12))
    have Hs := Lib.hid (Hs'.out.2.ext hx12)
    have H7' := Lib.hid (H7.out.ext hx12)
    replace hx := hx.trans hx12
    clear hx12 Ha Hs' H7
    go_wp2_with fail
    refine Calls.mono (samerats_p _ _ _ _ _ _ Ha'.out.2 Hs.out (by have := HV.out.2.2.2.2.1; omega)) ?_
    rintro e w13 ⟨r13, rfl, rfl, hx13⟩
    have Ha := Lib.hid (Ha'.out.1.ext hx13)
    have H7 := Lib.hid (H7'.out.ext hx13)
    replace hx := hx.trans hx13
    clear hx13 Ha' Hs H7'
    go_wp2_with fail
    refine Calls.mono (samerats_p _ _ _ _ _ _ H7.out Ha.out (by have := HV.out.2.2.2.2.2.2.2.1; omega)) ?_
    rintro e w14 ⟨r14, rfl, rfl, hx14⟩
    replace hx := hx.trans hx14
    clear hx14 H7 Ha
    go_wp2
    go_ret
    exact Gives.mk rfl hx
end Go.Proofs.YtedoifjbgokmcaaGreat
