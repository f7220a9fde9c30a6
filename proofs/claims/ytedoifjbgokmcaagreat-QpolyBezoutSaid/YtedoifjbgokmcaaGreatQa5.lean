/- Lemmas: The walks of the reference's polynomials: Sub, Derivative, Mul. The walk of the reference's division of polynomials. Euclid's algorithm for polynomials: what a round keeps; sizes. Plain. Interpolation: Newton's and Lagrange's way; sizes. Plain. Euclid's algorithm with cofactors: what a round keeps; sizes. Plain. The walks of the reference's polynomials: Lead, Monic, Eval; contracts over polynomials. The walks of qpoly: monic, DivMod. The walks of qpoly: PowerSums. The walks of the reference's polynomials: PowerSums. The walks of qpoly: FromPowerSums. The walks of the reference's polynomials: FromPowerSums. The walks of the statements' helpers: Z, Q, Qs, Frac, SameRats. The walks of the statements' helpers: Frac. The walks of the statements' helpers: awake, long. What an argument reads as: polynomials in any form; the walk of long. The walk of the statement QpolyPowerSums. The walk of the statement QpolyDivides. The walk of the statement QpolyOperations. What Xgcd gives back. Plain. The walks of qpoly: Gcd, Xgcd. -/
import Derived.Test.YtedoifjbgokmcaaGreatQa1
import Derived.Test.YtedoifjbgokmcaaGreatQa2
import Derived.Test.YtedoifjbgokmcaaGreatQa3
import Derived.Test.YtedoifjbgokmcaaGreatQa4
import Derived.ProofKit
import Derived.ChangeSlices
import Derived.Deep.Slices
import Derived.Deep.Cut
import Derived.Deep.DeepCutAuto
set_option linter.unusedVariables false
set_option linter.unusedSimpArgs false
namespace Go.Hp
open Go.RowKit
/-- A box with a fraction. -/
def BoxQ (w : World) (g : Nat) (t : TypeId) (q : Rat) : Prop := ∃ b A n c b' A' n' c', Box w g t #[.bool b, .slice A n c, .bool b', .slice A' n' c'] ∧ IsQ w (.agg #[.bool b, .slice A n c, .bool b', .slice A' n' c']) q
theorem BoxQ.ext {w w' : World} {g : Nat} {t : TypeId} {q : Rat} (h : BoxQ w g t q) (e : Ext w w') : BoxQ w' g t q := by
  obtain ⟨b, A, n, c, b', A', n', c', h1, h2⟩ := h; exact ⟨b, A, n, c, b', A', n', c', h1.ext e, h2.ext e⟩
theorem BoxQ.lt {w : World} {g : Nat} {t : TypeId} {q : Rat} (h : BoxQ w g t q) : g < w.heap.size := by
  obtain ⟨b, A, n, c, b', A', n', c', h1, h2⟩ := h; exact h1.lt
theorem BoxQ.upd {w w' : World} {g : Nat} {t : TypeId} {q : Rat} {G : List Nat} (h : BoxQ w g t q) (U : Upd G w w') (hg : g ∉ G) : BoxQ w' g t q := by
  obtain ⟨b, A, n, c, b', A', n', c', h1, h2⟩ := h; exact ⟨b, A, n, c, b', A', n', c', h1.upd U hg, h2.kd U.kd⟩
theorem BoxQ.mk {w : World} {g : Nat} {t : TypeId} {q : Rat} {b b' : Bool} {A A' : Option Addr} {n c n' c' : Nat} (h : Box w g t #[.bool b, .slice A n c, .bool b', .slice A' n' c']) (k : IsQ w (.agg #[.bool b, .slice A n c, .bool b', .slice A' n' c']) q) : BoxQ w g t q := ⟨_, _, _, _, _, _, _, _, h, k⟩
theorem OwnQ.off {base : Nat} {e : TypeId} {w w' : World} {v : Value} {l : List Rat} {g : Nat} (h : OwnQ base e w v l) (U : Upd [g] w w') (hg : ∀ k ∈ blk v, k < g) : OwnQ base e w' v l :=
  OwnR.upd h U (fun k hk hG => by have := hg k hk; simp at hG; omega) fun _ _ q => q.kd U.kd
theorem smm_qsz {F G : Nat → Rat} {s t : Nat} (hF : ∀ i, qsz (F i) ≤ s) (hG : ∀ i, qsz (G i) ≤ t) (n i : Nat) : qsz (sm i (fun j => F j * G (n - j))) ≤ 1 + i * (s + t + 1) :=
  sm_qsz i fun j _ => by have h1 := qsz_mul (F j) (G (n - j)); have h2 := hF j; have h3 := hG (n - j); omega
theorem mul_le_of {i k c d : Nat} (h : i ≤ k) (e : 1 + k * c ≤ d) : 1 + i * c ≤ d := by
  have : i * c ≤ k * c := Nat.mul_le_mul_right _ h
  omega
end Go.Hp
namespace Go.Proofs.YtedoifjbgokmcaaGreat
open Go.RowKit Go.Hp
theorem sub_rp (v u : Value) (l m : List Rat) (s t : Nat) (w : World) (hv : HsV 0 w v l) (hu : HsV 0 w u m) (hs : ∀ i, qsz (co l i) ≤ s) (ht : ∀ i, qsz (co m i) ≤ t) (hst : s + t + 2 ≤ 274877906944) (hn : l.length ≤ 549755813888) (hm : m.length ≤ 549755813888) :
    Calls Tryz.prog 24 #[v, u] w (Gives w fun r w' => IsP w.heap.size w' r (psb (co l) (co m))) := by
  have HV := Lib.hid hv; have HU := Lib.hid hu
  obtain ⟨A, c, rfl⟩ := hv.len
  obtain ⟨E, d, rfl⟩ := hu.len
  clear hv hu
  have HS := Lib.hid (And.intro hs ht); clear hs ht
  have e1 : qsz ((-1 : Int) : Rat) = 1 := by decide
  have E1 := Lib.hid e1; clear e1
  go_enter Tryz.func24, Tryz.ntmps24
  go_wp2_with fail
  refine Calls.mono (of_rq (-1) _ (by omega) (by omega)) ?_
  rintro e w1 ⟨r1, rfl, hr1, hx1⟩
  have Hr1 := Lib.hid hr1; clear hr1
  go_wp2_with fail
  refine Calls.mono (scale_rp _ _ m _ t _ (HU.out.ext hx1) (Hr1.out.has (by rw [E1.out]; omega)) HS.out.2 (by rw [E1.out]; omega) hm) ?_
  rintro e w2 ⟨r2, rfl, hr2, hx2⟩
  obtain ⟨l2, h2, h3, h4, h5⟩ := hr2.hs (fun i => by have h1 := qsz_mul ((-1 : Int) : Rat) (co m i); rw [E1.out] at h1; have h2 := HS.out.2 i; show qsz (_ * _) ≤ _; omega)
  replace hx1 := hx1.trans hx2
  have H2 := Lib.hid (And.intro h2 (And.intro h3 h5)); clear h2 h3 h4 h5 hr2 hx2
  have hl2 : l2.length ≤ 549755813888 := by rw [H2.out.2.1]; exact Nat.le_trans (pl_le ((co_sup m).psc _)) hm
  go_wp2_with fail
  refine Calls.mono (add_rp _ _ l l2 s (t + 1) _ (HV.out.ext hx1) H2.out.1 HS.out.1 (fun i => by rw [H2.out.2.2]; have h1 := qsz_mul ((-1 : Int) : Rat) (co m i); rw [E1.out] at h1; have h2 := HS.out.2 i; show qsz (_ * _) ≤ _; omega) (by omega) hn hl2) ?_
  rintro e w3 ⟨r3, rfl, hr3, hx3⟩
  have hsz := hx1.size
  have Hr3 := Lib.hid hr3; clear hr3
  go_wp2
  go_ret
  refine Gives.mk ?_ (hx1.trans hx3)
  have := Hr3.out.base_le (b := w.heap.size) (by omega)
  rw [H2.out.2.2] at this
  rw [psb_eq]; exact this
set_option maxRecDepth 20000 in
set_option maxHeartbeats 1000000 in
theorem derivative_rp (v : Value) (l : List Rat) (s : Nat) (w : World) (hv : HsV 0 w v l) (hs : ∀ i, qsz (co l i) ≤ s) (hst : s + 2 ≤ 274877906944) (hn : l.length ≤ 549755813888) :
    Calls Tryz.prog 30 #[v] w (Gives w fun r w' => IsP w.heap.size w' r (pd (co l))) := by
  obtain ⟨A, c, rfl, hl, hc, hA⟩ := hv
  have HA : Hid (HsAt 0 w A l) := Lib.hid hA; clear hA
  have HS := Lib.hid hs; clear hs
  go_enter Tryz.func30, Tryz.ntmps30
  go_wp2
  go_loopw [3, 4] (fun ov iv wr => ∃ (k : Nat), 1 ≤ k ∧ k ≤ max l.length 1 ∧ iv = .int .i64 k ∧ OwnQ w.heap.size 40 wr ov ((List.range (k - 1)).map (pd (co l))) ∧ Ext w wr) (fun _ iv _ => l.length - (intOf iv).toNat)
  case atStart => exact ⟨1, by omega, by omega, by simp, OwnR.nil _ _ _ _ _, Ext.refl _⟩
  case round =>
    obtain ⟨k, hk1, hk, rfl, hown, hx⟩ := hrel
    by_cases hkl : k < l.length
    · obtain ⟨g, o, b, A1, n, c1, b', A1', n', c1', rfl, _, q0, q1, q2, q3, hq⟩ := HA.out.at_ (j := k) hkl
      replace q0 := hx.cell q0
      replace q1 := hx.cell q1
      replace q2 := hx.cell q2
      replace q3 := hx.cell q3
      have Hq := Lib.hid hq; clear hq
      have Hown := Lib.hid hown; clear hown
      go_wp2_with fail
      refine wp_region_par (k := 9) (D := [11, 12, 13, 14, 15, 16, 17, 18, 19]) (T := [[], [], [], [1, 2], [1, 2, 3], [], [5], [1, 2, 3, 4, 5, 6], [1, 2, 3, 4, 5, 6, 7], [0, 1, 2, 3, 4, 5, 6, 7, 8], [0, 1, 2, 3, 4, 5, 6, 7, 8, 9]]) (EK := [3, 0, 4]) (EV := [?e1x0, ?e1x1, ?e1x2]) (VL := [(kv ?v1x0), (kv ?v1x1), (kv ?v1x2), (kv ?v1x3), (kv ?v1x4), (kv ?v1x5), (fun γ => γ 6), (fun γ => γ 7), (fun γ => γ 8)]) (FL := fun γ w' => [True, True, True, True, True, True, IsQ w' (γ 6) ((k : Int) : Rat), IsQ w' (γ 7) (l[k] * ((k : Int) : Rat)), NewQ w' (γ 8) (wr.heap.size) (l[k] * ((k : Int) : Rat)) 40]) ?hE1 (by kernel_rfl) (by kernel_rfl) (by rfl) (by kernel_rfl) ?hloc1 ?hmono1 ?hstep1 ?htail1
      case hE1 => refine ⟨?_, ?_, ?_, trivial⟩ <;> (simp only [List.getElem?_toArray, List.getElem?_cons_succ, List.getElem?_cons_zero]; rfl)
      case hstep1 =>
        refine ⟨⟨⟨⟨⟨⟨⟨⟨⟨trivial, ?_⟩, ?_⟩, ?_⟩, ?_⟩, ?_⟩, ?_⟩, ?_⟩, ?_⟩, ?_⟩
        · intro γ w' he hf; clear hf; refine ⟨trivial, ?_⟩; intro R hR
          have hc := he.cells
          go_simp
          (try go_ints); (try (rw [if_neg (by omega)])); (try (rw [if_pos (by omega)])); (try go_simp); (try go_ints)
          refine hR _ _ (Ext.refl _) ?_ trivial
          rfl
        · intro γ w' he hf; clear hf; refine ⟨trivial, ?_⟩; intro R hR
          have hc := he.cells
          go_simp
          (try go_ints); (try (rw [if_neg (by omega)])); (try (rw [if_pos (by omega)])); (try go_simp); (try go_ints)
          refine hR _ _ (Ext.refl _) ?_ trivial
          rfl
        · intro γ w' he hf; clear hf; refine ⟨trivial, ?_⟩; intro R hR
          have hc := he.cells
          go_simp
          (try go_ints); (try (rw [if_neg (by omega)])); (try (rw [if_pos (by omega)])); (try go_simp); (try go_ints)
          refine hR _ _ (Ext.refl _) ?_ trivial
          rfl
        · intro γ w' he hf; clear hf; refine ⟨trivial, ?_⟩; intro R hR
          have hc := he.cells
          go_simp
          (try go_ints); (try (rw [if_neg (by omega)])); (try (rw [if_pos (by omega)])); (try go_simp); (try go_ints)
          refine hR _ _ (Ext.refl _) ?_ trivial
          rfl
        · intro γ w' he hf; clear hf; refine ⟨trivial, ?_⟩; intro R hR
          have hc := he.cells
          have cq0 := he.cell q0
          have cq1 := he.cell q1
          have cq2 := he.cell q2
          have cq3 := he.cell q3
          go_simp
          (try go_ints); (try (rw [if_neg (by omega)])); (try (rw [if_pos (by omega)])); (try go_simp); (try go_ints)
          refine hR _ _ (Ext.refl _) ?_ trivial
          rfl
        · intro γ w' he hf; clear hf; refine ⟨trivial, ?_⟩; intro R hR
          have hc := he.cells
          go_simp
          (try go_ints); (try (rw [if_neg (by omega)])); (try (rw [if_pos (by omega)])); (try go_simp); (try go_ints)
          refine hR _ _ (Ext.refl _) ?_ trivial
          rfl
        · intro γ w' he hf; clear hf; refine ⟨trivial, ?_⟩; intro R hR
          go_simp
          refine Calls.mono (show Calls _ _ _ w' (Gives w' fun r w'' => IsQ w'' (r) ((k : Int) : Rat)) from of_rq (k : Int) w' (by omega) (by omega)) ?_
          rintro e w2 ⟨v, rfl, hv, hx⟩
          exact ⟨v, rfl, hR v w2 hx rfl hv⟩
        · intro γ w' he hf; have f6 : IsQ w' (γ 6) ((k : Int) : Rat) := hf 6 (by decide); clear hf; refine ⟨trivial, ?_⟩; intro R hR
          go_simp
          refine Calls.mono (show Calls _ _ _ w' (Gives w' fun r w'' => IsQ w'' (r) (l[k] * ((k : Int) : Rat))) from mul_rq _ _ _ _ w' (Hq.out.ext (hx.trans he)) (f6.has (Nat.le_trans (qsz_int (by omega) (by omega)) (by omega)))) ?_
          rintro e w2 ⟨v, rfl, hv, hx⟩
          exact ⟨v, rfl, hR v w2 hx rfl hv⟩
        · intro γ w' he hf; have f6 : IsQ w' (γ 6) ((k : Int) : Rat) := hf 6 (by decide); have f7 : IsQ w' (γ 7) (l[k] * ((k : Int) : Rat)) := hf 7 (by decide); clear hf; refine ⟨trivial, ?_⟩; intro R hR
          refine IsQ.el f7 fun b5 A5 n5 c5 b6 A6 n6 c6 e7 f7' => ?_
          clear f7
          go_simp
          exact hR _ _ ((Ext.refl _).alloc _) rfl (NewQ.mk f7' (Nat.le_trans (by simp) he.size) _)
      case hloc1 =>
        exact ⟨⟨⟨⟨⟨⟨⟨⟨⟨trivial, (fun γ γ' h => ⟨rfl, fun _ => rfl⟩)⟩, (fun γ γ' h => ⟨rfl, fun _ => rfl⟩)⟩, (fun γ γ' h => ⟨rfl, fun _ => rfl⟩)⟩, (fun γ γ' h => ⟨rfl, fun _ => rfl⟩)⟩, (fun γ γ' h => ⟨rfl, fun _ => rfl⟩)⟩, (fun γ γ' h => ⟨rfl, fun _ => rfl⟩)⟩, (fun γ γ' h => ⟨h 6 rfl, fun w' => (congrArg (fun a => IsQ w' (a) ((k : Int) : Rat)) (h 6 rfl))⟩)⟩, (fun γ γ' h => ⟨h 7 rfl, fun w' => (congrArg (fun a => IsQ w' (a) (l[k] * ((k : Int) : Rat))) (h 7 rfl))⟩)⟩, (fun γ γ' h => ⟨h 8 rfl, fun w' => (congrArg (fun a => NewQ w' (a) (wr.heap.size) (l[k] * ((k : Int) : Rat)) 40) (h 8 rfl))⟩)⟩
      case hmono1 =>
        exact ⟨⟨⟨⟨⟨⟨⟨⟨⟨trivial, (fun γ wA w' e h => h)⟩, (fun γ wA w' e h => h)⟩, (fun γ wA w' e h => h)⟩, (fun γ wA w' e h => h)⟩, (fun γ wA w' e h => h)⟩, (fun γ wA w' e h => h)⟩, (fun γ wA w' e h => (show IsQ wA (γ 6) ((k : Int) : Rat) from h).ext e)⟩, (fun γ wA w' e h => (show IsQ wA (γ 7) (l[k] * ((k : Int) : Rat)) from h).ext e)⟩, (fun γ wA w' e h => (show NewQ wA (γ 8) (wr.heap.size) (l[k] * ((k : Int) : Rat)) 40 from h).ext e)⟩
      intro γ w1 hx1 hF
      have p6 : IsQ w1 (γ 6) ((k : Int) : Rat) := Each.get hF 6 (by decide)
      have p7 : IsQ w1 (γ 7) (l[k] * ((k : Int) : Rat)) := Each.get hF 7 (by decide)
      have p8 : NewQ w1 (γ 8) (wr.heap.size) (l[k] * ((k : Int) : Rat)) 40 := Each.get hF 8 (by decide)
      clear hF
      simp only [fillAll, gV, kv, List.getD_cons_zero, List.getD_cons_succ, Act.put, List.setIfInBounds_toArray, List.set_cons_zero, List.set_cons_succ, List.toList_toArray, List.drop_succ_cons, List.drop_zero, List.drop_nil, Nat.zero_add, Nat.reduceAdd]
      generalize γ 6 = g6 at *
      generalize γ 7 = g7 at *
      generalize γ 8 = g8 at *
      clear γ
      have hs := hx.size
      have hs1 := hx1.size
      have hlen : ((List.range (k - 1)).map (pd (co l))).length ≤ 1099511627776 := by rw [List.length_map, List.length_range]; omega
      refine wpList_append_run rfl _ _ 22 rfl u3 g8 rfl rfl (append_nr w1 _ _ w.heap.size _ _ _ _ (Hown.out.ext hx1) p8 hlen (by omega)) ?_
      rintro v' w2 ⟨hown, U⟩
      replace hx := (Hown.out.ext hx1).from_ U (hx.trans hx1) (Nat.le_refl _)
      have Hown' := Lib.hid hown; clear hown U hlen p8 p7 p6
      go_wp2
      go_roundw
      case rel => exact ⟨k + 1, by omega, by omega, by go_num, by
        have := Hown'.out
        have e : l[k] * ((k : Int) : Rat) = pd (co l) (k - 1) := by
          unfold pd
          rw [show k - 1 + 1 = k from by omega, co_lt hkl, Rat.mul_comm]; rfl
        rw [e, ← range_succ_map, show k - 1 + 1 = k + 1 - 1 from by omega] at this
        exact this, hx⟩
      case measure => simp [intOf] <;> omega
    · skip
      have hz : Sup (k - 1) (pd (co l)) := (fun i hi => by unfold pd; rw [co_ge (by omega)]; exact Rat.mul_zero _)
      have hco := co_ofFn hz
      have hh := (OwnQ.row hown).has (fun q hq => by obtain ⟨i, hi, rfl⟩ := List.mem_map.1 hq; have hi := List.mem_range.1 hi; exact (by have h1 := qsz_mul ((i + 1 : Nat) : Rat) (co l (i + 1)); have h2 := HS.out (i + 1); have h3 := qsz_nat (n := i + 1) (by omega); show qsz (((i + 1 : Nat) : Rat) * co l (i + 1)) ≤ _; omega))
      have hln : ((List.range (k - 1)).map (pd (co l))).length ≤ 1099511627776 := by rw [List.length_map, List.length_range]; omega
      obtain ⟨A2, c2, e2⟩ := hh.len
      rw [range_len] at e2
      subst e2
      have HH := Lib.hid (And.intro hh hco); clear hh hco hz hown
      go_wp2_with fail
      refine Calls.mono (normal_rp _ _ _ HH.out.1 hln) ?_
      rintro e w9 ⟨r, rfl, hr, hx9⟩
      have hsz := (hx).size
      have Hr := Lib.hid hr; clear hr hln
      go_wp2
      go_ret
      exact Gives.mk (by rw [← HH.out.2]; exact Hr.out.base_le (by omega)) ((hx).trans hx9)
set_option maxRecDepth 20000 in
set_option maxHeartbeats 4000000 in
theorem mul_rp (v u : Value) (l m : List Rat) (s t : Nat) (w : World) (hv : HsV 0 w v l) (hu : HsV 0 w u m) (hs : ∀ i, qsz (co l i) ≤ s) (ht : ∀ i, qsz (co m i) ≤ t) (hst : 1 + (l.length + m.length) * (s + t + 1) ≤ 274877906944) (hn : l.length ≤ 274877906944) (hm : m.length ≤ 274877906944) :
    Calls Tryz.prog 26 #[v, u] w (Gives w fun r w' => IsP w.heap.size w' r (cv (co l) (co m))) := by
  have HV := Lib.hid hv; have HU := Lib.hid hu
  obtain ⟨A, c, rfl⟩ := hv.len
  obtain ⟨E, d, rfl⟩ := hu.len
  clear hv hu
  have hp0 := pl_le (co_sup l)
  have hq0 := pl_le (co_sup m)
  have HF := Lib.hid (And.intro (Fin_.co l) (Fin_.co m))
  obtain ⟨F, hF⟩ : ∃ F, F = co l := ⟨_, rfl⟩
  obtain ⟨G, hG⟩ : ∃ G, G = co m := ⟨_, rfl⟩
  rw [← hF, ← hG] at HF
  rw [← hF] at hs hp0
  rw [← hG] at ht hq0
  rw [← hF, ← hG]
  have HN := Lib.hid (And.intro (normal_rp _ l w HV.out (by omega)) (fun w' (e : Ext w w') => normal_rp _ m w' (HU.out.ext e) (by omega)))
  rw [← hF, ← hG] at HN
  clear hF hG HV HU
  have HS := Lib.hid (And.intro hs (And.intro ht hst)); clear hs ht hst
  go_enter Tryz.func26, Tryz.ntmps26
  go_wp2_with fail
  refine Calls.mono HN.out.1 ?_
  rintro e w1 ⟨r1, rfl, hr1, hx1⟩
  have Hr1 := Lib.hid hr1; clear hr1
  go_wp2_with fail
  refine Calls.mono (HN.out.2 w1 hx1) ?_
  rintro e w2 ⟨r2, rfl, hr2, hx2⟩
  obtain ⟨A1, c1, la, rfl, k1, k2, hA, k3, k4, k5⟩ := (Hr1.out.ext hx2).form
  obtain ⟨A2, c2, lb, rfl, k6, k7, hB, k8, k9, k10⟩ := hr2.form
  replace hx1 := hx1.trans hx2
  have HA := Lib.hid (And.intro hA (And.intro k3 k5)); have HB := Lib.hid (And.intro hB (And.intro k8 k10))
  clear hx2 Hr1 hr2 hA hB k3 k4 k5 k8 k9 k10 HN
  obtain ⟨p, hp⟩ : ∃ p, p = pl F := ⟨_, rfl⟩
  obtain ⟨q, hq⟩ : ∃ q, q = pl G := ⟨_, rfl⟩
  rw [← hp] at HA hp0 ⊢
  rw [← hp] at k1
  rw [← hq] at HB hq0 k6 ⊢
  have HP := Lib.hid (And.intro hp hq); clear hp hq
  by_cases h0 : p = 0
  · have b0 : ((p : Int) == 0) = true := by rw [h0]; rfl
    have H0 := Lib.hid h0; clear h0
    go_wp2
    go_ret
    have : F = pz := (pl_zero HF.out.1).1 (by rw [← HP.out.1]; exact H0.out)
    rw [this, pz_cv]
    exact Gives.mk (IsP.nil _ _) hx1
  have b0 : ((p : Int) == 0) = false := by simpa using h0
  by_cases h1 : q = 0
  · have b1 : ((q : Int) == 0) = true := by rw [h1]; rfl
    have H1 := Lib.hid h1; clear h0 h1
    go_wp2
    go_ret
    have : G = pz := (pl_zero HF.out.2).1 (by rw [← HP.out.2]; exact H1.out)
    rw [this, cv_pz]
    exact Gives.mk (IsP.nil _ _) hx1
  have b1 : ((q : Int) == 0) = false := by simpa using h1
  have sF : Sup p F := by rw [HP.out.1]; exact pl_sup HF.out.1
  have sG : Sup q G := by rw [HP.out.2]; exact pl_sup HF.out.2
  have HZ := Lib.hid (And.intro sF sG); clear sF sG
  obtain ⟨N, hN⟩ : ∃ N, p + q = N + 1 := ⟨p + q - 1, by omega⟩
  have hN1 : N ≤ 549755813888 := by omega
  have HL := Lib.hid (show N + 1 ≤ l.length + m.length by omega)
  have hpb : p ≤ 549755813888 := by omega
  have hqb : q ≤ 549755813888 := by omega
  clear h0 h1 hp0 hq0
  have HW := Lib.hid hx1; clear hx1
  obtain ⟨wb, hwb⟩ : ∃ wb : World, wb = w2 := ⟨_, rfl⟩
  subst hwb
  go_wp2
  go_loopw [7, 8] (fun ov iv wr => ∃ (n : Nat), n ≤ N ∧ iv = .int .i64 n ∧ OwnQ wb.heap.size 40 wr ov ((List.range n).map (cv F G)) ∧ Ext wb wr) (fun _ iv _ => N - (intOf iv).toNat)
  case atStart => exact ⟨0, Nat.zero_le _, rfl, OwnR.nil _ _ _ _ _, Ext.refl _⟩
  case round =>
    obtain ⟨n, hn, rfl, hown, hx⟩ := hrel
    by_cases hnN : n < N
    · have Hown0 := Lib.hid hown; clear hown
      go_wp2_with fail
      refine Calls.mono (of_rq 0 _ (by omega) (by omega)) ?_
      rintro e w3 ⟨r3, rfl, hr3, hx3⟩
      obtain ⟨b5, A5, n5, c5, b6, A6, n6, c6, rfl⟩ := hr3.cells
      have hown := Hown0.out.ext hx3
      have Hbk := Lib.hid (fun g hg => (OwnR.blk_ge hown g hg).2)
      replace hx := hx.trans hx3
      clear hx3 Hown0
      go_upto_region 9 with (fail)
      obtain ⟨W9, eW9, e9, x9⟩ := Box.made w3 40 #[.bool b5, .slice A5 n5 c5, .bool b6, .slice A6 n6 c6] (by simp [isDig])
      rw [← eW9]
      clear eW9
      have eb := BoxQ.mk e9 (hr3.ext x9)
      replace hown := OwnQ.ext hown x9
      have Hsz9 := Lib.hid hx.size
      replace hx := hx.trans x9
      have Hown := Lib.hid hown
      clear x9 hr3 e9 hown
      generalize w3.heap.size = gb at *
      go_wp2
      go_loopw [10] (fun iv wx => ∃ (i : Nat), i ≤ n + 1 ∧ iv = .int .i64 i ∧ BoxQ wx gb 40 (sm i (fun j => F j * G (n - j))) ∧ OwnQ wb.heap.size 40 wx u7 ((List.range n).map (cv F G)) ∧ Ext wb wx) (fun iv _ => n + 1 - (intOf iv).toNat)
      case atStart => exact ⟨0, Nat.zero_le _, rfl, eb, Hown.out, hx⟩
      case round =>
        clear eb hx Hown
        obtain ⟨i, hi, rfl, e9, hown, hx⟩ := hrel
        have Hown := Lib.hid hown; clear hown
        by_cases hin : i < n + 1
        · by_cases hip : i < p
          · by_cases hiq : n - i < q
            · have hiq' : (n : Int) - i < q := by omega
              obtain ⟨g, o, b, B1, n1, d1, b', B1', n1', d1', rfl, _, q0, q1, q2, q3, hqa⟩ := HA.out.1.at_ (j := i) (by rw [HA.out.2.1]; exact hip)
              obtain ⟨g', o', bb, B2, n2, d2, bb', B2', n2', d2', rfl, _, r0, r1, r2, r3, hqb'⟩ := HB.out.1.at_ (j := n - i) (by rw [HB.out.2.1]; exact hiq)
              rw [← co_lt, HA.out.2.2] at hqa
              rw [← co_lt, HB.out.2.2] at hqb'
              replace q0 := hx.cell q0
              replace q1 := hx.cell q1
              replace q2 := hx.cell q2
              replace q3 := hx.cell q3
              replace r0 := hx.cell r0
              replace r1 := hx.cell r1
              replace r2 := hx.cell r2
              replace r3 := hx.cell r3
              have Hqa := Lib.hid (hqa.ext hx); have Hqb := Lib.hid (hqb'.ext hx); clear hqa hqb'
              obtain ⟨z1, Z1, zn, zc, z2, Z2, zn', zc', ez, hz⟩ := e9
              have Hz := Lib.hid hz; clear hz
              have HQ := Lib.hid (show qsz (F i) ≤ 274877906944 ∧ qsz (G (n - i)) ≤ 274877906944 ∧ qsz (F i * G (n - i)) < 274877906944 ∧ qsz (sm i (fun j => F j * G (n - j))) ≤ 274877906944 by
                have h1 := HS.out.1 i; have h2 := HS.out.2.1 (n - i)
                have h3 := qsz_mul (F i) (G (n - i))
                have h4 := smm_qsz HS.out.1 HS.out.2.1 n i
                have h5 := mul_le_of (i := i) (by have := HL.out; omega) HS.out.2.2
                have h6 := mul_le_of (i := 1) (by have := HL.out; omega) HS.out.2.2
                omega)
              obtain ⟨cez0, cez1, cez2, cez3⟩ := ez.cells4
              have fez := ez.frozen
              go_wp2_with fail
              refine wp_region_par (k := 13) (D := [51, 52, 53, 54, 55, 56, 57, 58, 59, 60, 61, 62, 63]) (T := [[], [], [], [1, 2], [1, 2, 3], [], [], [], [6, 7], [5, 6, 7, 8], [5, 6, 7, 8, 9], [1, 2, 3, 4, 5, 6, 7, 8, 9, 10], [0, 1, 2, 3, 4, 5, 6, 7, 8, 9, 10, 11], [0, 1, 2, 3, 4, 5, 6, 7, 8, 9, 10, 11, 12]]) (EK := [9, 5, 10, 6, 8]) (EV := [?e2x0, ?e2x1, ?e2x2, ?e2x3, ?e2x4]) (VL := [(kv ?v2x0), (kv ?v2x1), (kv ?v2x2), (kv ?v2x3), (kv ?v2x4), (kv ?v2x5), (kv ?v2x6), (kv ?v2x7), (kv ?v2x8), (kv ?v2x9), (kv ?v2x10), (fun γ => γ 11), (fun γ => γ 12)]) (FL := fun γ w' => [True, True, True, True, True, True, True, True, True, True, True, IsQ w' (γ 11) (F i * G (n - i)), IsQ w' (γ 12) (sm i (fun j => F j * G (n - j)) + F i * G (n - i))]) ?hE2 (by kernel_rfl) (by kernel_rfl) (by rfl) (by kernel_rfl) ?hloc2 ?hmono2 ?hstep2 ?htail2
              case hE2 => refine ⟨?_, ?_, ?_, ?_, ?_, trivial⟩ <;> (simp only [List.getElem?_toArray, List.getElem?_cons_succ, List.getElem?_cons_zero]; rfl)
              case hstep2 =>
                refine ⟨⟨⟨⟨⟨⟨⟨⟨⟨⟨⟨⟨⟨trivial, ?_⟩, ?_⟩, ?_⟩, ?_⟩, ?_⟩, ?_⟩, ?_⟩, ?_⟩, ?_⟩, ?_⟩, ?_⟩, ?_⟩, ?_⟩
                · intro γ w' he hf; clear hf; refine ⟨trivial, ?_⟩; intro R hR
                  have hc := he.cells
                  have cq0 := he.cell cez0
                  have cq1 := he.cell cez1
                  have cq2 := he.cell cez2
                  have cq3 := he.cell cez3
                  have cq4 := he.cell q0
                  have cq5 := he.cell q1
                  have cq6 := he.cell q2
                  have cq7 := he.cell q3
                  have cq8 := he.cell r0
                  have cq9 := he.cell r1
                  have cq10 := he.cell r2
                  have cq11 := he.cell r3
                  go_simp
                  (try go_ints); (try (rw [if_neg (by omega)])); (try (rw [if_pos (by omega)])); (try go_simp); (try go_ints)
                  refine hR _ _ (Ext.refl _) ?_ trivial
                  rfl
                · intro γ w' he hf; clear hf; refine ⟨trivial, ?_⟩; intro R hR
                  have hc := he.cells
                  go_simp
                  (try go_ints); (try (rw [if_neg (by omega)])); (try (rw [if_pos (by omega)])); (try go_simp); (try go_ints)
                  refine hR _ _ (Ext.refl _) ?_ trivial
                  rfl
                · intro γ w' he hf; clear hf; refine ⟨trivial, ?_⟩; intro R hR
                  have hc := he.cells
                  go_simp
                  (try go_ints); (try (rw [if_neg (by omega)])); (try (rw [if_pos (by omega)])); (try go_simp); (try go_ints)
                  refine hR _ _ (Ext.refl _) ?_ trivial
                  rfl
                · intro γ w' he hf; clear hf; refine ⟨trivial, ?_⟩; intro R hR
                  have hc := he.cells
                  go_simp
                  (try go_ints); (try (rw [if_neg (by omega)])); (try (rw [if_pos (by omega)])); (try go_simp); (try go_ints)
                  refine hR _ _ (Ext.refl _) ?_ trivial
                  rfl
                · intro γ w' he hf; clear hf; refine ⟨trivial, ?_⟩; intro R hR
                  have hc := he.cells
                  have cq0 := he.cell cez0
                  have cq1 := he.cell cez1
                  have cq2 := he.cell cez2
                  have cq3 := he.cell cez3
                  have cq4 := he.cell q0
                  have cq5 := he.cell q1
                  have cq6 := he.cell q2
                  have cq7 := he.cell q3
                  have cq8 := he.cell r0
                  have cq9 := he.cell r1
                  have cq10 := he.cell r2
                  have cq11 := he.cell r3
                  go_simp
                  (try go_ints); (try (rw [if_neg (by omega)])); (try (rw [if_pos (by omega)])); (try go_simp); (try go_ints)
                  refine hR _ _ (Ext.refl _) ?_ trivial
                  rfl
                · intro γ w' he hf; clear hf; refine ⟨trivial, ?_⟩; intro R hR
                  have hc := he.cells
                  go_simp
                  (try go_ints); (try (rw [if_neg (by omega)])); (try (rw [if_pos (by omega)])); (try go_simp); (try go_ints)
                  refine hR _ _ (Ext.refl _) ?_ trivial
                  rfl
                · intro γ w' he hf; clear hf; refine ⟨trivial, ?_⟩; intro R hR
                  have hc := he.cells
                  go_simp
                  (try go_ints); (try (rw [if_neg (by omega)])); (try (rw [if_pos (by omega)])); (try go_simp); (try go_ints)
                  refine hR _ _ (Ext.refl _) ?_ trivial
                  rfl
                · intro γ w' he hf; clear hf; refine ⟨trivial, ?_⟩; intro R hR
                  have hc := he.cells
                  go_simp
                  (try go_ints); (try (rw [if_neg (by omega)])); (try (rw [if_pos (by omega)])); (try go_simp); (try go_ints)
                  refine hR _ _ (Ext.refl _) ?_ trivial
                  rfl
                · intro γ w' he hf; clear hf; refine ⟨trivial, ?_⟩; intro R hR
                  have hc := he.cells
                  go_simp
                  (try go_ints); (try (rw [if_neg (by omega)])); (try (rw [if_pos (by omega)])); (try go_simp); (try go_ints)
                  refine hR _ _ (Ext.refl _) ?_ trivial
                  rfl
                · intro γ w' he hf; clear hf; refine ⟨trivial, ?_⟩; intro R hR
                  have hc := he.cells
                  go_simp
                  (try go_ints); (try (rw [if_neg (by omega)])); (try (rw [if_pos (by omega)])); (try go_simp); (try go_ints)
                  refine hR _ _ (Ext.refl _) ?_ trivial
                  rfl
                · intro γ w' he hf; clear hf; refine ⟨trivial, ?_⟩; intro R hR
                  have hc := he.cells
                  have cq0 := he.cell cez0
                  have cq1 := he.cell cez1
                  have cq2 := he.cell cez2
                  have cq3 := he.cell cez3
                  have cq4 := he.cell q0
                  have cq5 := he.cell q1
                  have cq6 := he.cell q2
                  have cq7 := he.cell q3
                  have cq8 := he.cell r0
                  have cq9 := he.cell r1
                  have cq10 := he.cell r2
                  have cq11 := he.cell r3
                  go_simp
                  (try go_ints); (try (rw [if_neg (by omega)])); (try (rw [if_pos (by omega)])); (try go_simp); (try go_ints)
                  refine hR _ _ (Ext.refl _) ?_ trivial
                  rfl
                · intro γ w' he hf; clear hf; refine ⟨trivial, ?_⟩; intro R hR
                  go_simp
                  refine Calls.mono (show Calls _ _ _ w' (Gives w' fun r w'' => IsQ w'' (r) (F i * G (n - i))) from mul_rq _ _ _ _ w' ((Hqa.out.ext he).has HQ.out.1) ((Hqb.out.ext he).has HQ.out.2.1)) ?_
                  rintro e w2 ⟨v, rfl, hv, hx⟩
                  exact ⟨v, rfl, hR v w2 hx rfl hv⟩
                · intro γ w' he hf; have f11 : IsQ w' (γ 11) (F i * G (n - i)) := hf 11 (by decide); clear hf; refine ⟨trivial, ?_⟩; intro R hR
                  go_simp
                  refine Calls.mono (show Calls _ _ _ w' (Gives w' fun r w'' => IsQ w'' (r) (sm i (fun j => F j * G (n - j)) + F i * G (n - i))) from add_rq _ _ _ _ w' ((Hz.out.ext he).has HQ.out.2.2.2) (f11.has (by have := HQ.out.2.2.1; omega)) (by have := HQ.out; omega)) ?_
                  rintro e w2 ⟨v, rfl, hv, hx⟩
                  exact ⟨v, rfl, hR v w2 hx rfl hv⟩
              case hloc2 =>
                exact ⟨⟨⟨⟨⟨⟨⟨⟨⟨⟨⟨⟨⟨trivial, (fun γ γ' h => ⟨rfl, fun _ => rfl⟩)⟩, (fun γ γ' h => ⟨rfl, fun _ => rfl⟩)⟩, (fun γ γ' h => ⟨rfl, fun _ => rfl⟩)⟩, (fun γ γ' h => ⟨rfl, fun _ => rfl⟩)⟩, (fun γ γ' h => ⟨rfl, fun _ => rfl⟩)⟩, (fun γ γ' h => ⟨rfl, fun _ => rfl⟩)⟩, (fun γ γ' h => ⟨rfl, fun _ => rfl⟩)⟩, (fun γ γ' h => ⟨rfl, fun _ => rfl⟩)⟩, (fun γ γ' h => ⟨rfl, fun _ => rfl⟩)⟩, (fun γ γ' h => ⟨rfl, fun _ => rfl⟩)⟩, (fun γ γ' h => ⟨rfl, fun _ => rfl⟩)⟩, (fun γ γ' h => ⟨h 11 rfl, fun w' => (congrArg (fun a => IsQ w' (a) (F i * G (n - i))) (h 11 rfl))⟩)⟩, (fun γ γ' h => ⟨h 12 rfl, fun w' => (congrArg (fun a => IsQ w' (a) (sm i (fun j => F j * G (n - j)) + F i * G (n - i))) (h 12 rfl))⟩)⟩
              case hmono2 =>
                exact ⟨⟨⟨⟨⟨⟨⟨⟨⟨⟨⟨⟨⟨trivial, (fun γ wA w' e h => h)⟩, (fun γ wA w' e h => h)⟩, (fun γ wA w' e h => h)⟩, (fun γ wA w' e h => h)⟩, (fun γ wA w' e h => h)⟩, (fun γ wA w' e h => h)⟩, (fun γ wA w' e h => h)⟩, (fun γ wA w' e h => h)⟩, (fun γ wA w' e h => h)⟩, (fun γ wA w' e h => h)⟩, (fun γ wA w' e h => h)⟩, (fun γ wA w' e h => (show IsQ wA (γ 11) (F i * G (n - i)) from h).ext e)⟩, (fun γ wA w' e h => (show IsQ wA (γ 12) (sm i (fun j => F j * G (n - j)) + F i * G (n - i)) from h).ext e)⟩
              intro γ w6 hx6 hF
              have p11 : IsQ w6 (γ 11) (F i * G (n - i)) := Each.get hF 11 (by decide)
              have p12 : IsQ w6 (γ 12) (sm i (fun j => F j * G (n - j)) + F i * G (n - i)) := Each.get hF 12 (by decide)
              clear hF
              simp only [fillAll, gV, kv, List.getD_cons_zero, List.getD_cons_succ, Act.put, List.setIfInBounds_toArray, List.set_cons_zero, List.set_cons_succ, List.toList_toArray, List.drop_succ_cons, List.drop_zero, List.drop_nil, Nat.zero_add, Nat.reduceAdd]
              generalize γ 11 = g11 at *
              generalize γ 12 = g12 at *
              clear γ
              clear cez0 cez1 cez2 cez3 fez q0 q1 q2 q3 r0 r1 r2 r3 p11 Hz Hqa Hqb HQ
              replace ez := ez.ext hx6
              replace hx := hx.trans hx6
              have hown := Hown.out.ext hx6
              clear hx6 Hown
              obtain ⟨b5, A5, n5, c5, b6, A6, n6, c6, rfl⟩ := p12.cells
              obtain ⟨cez0, cez1, cez2, cez3⟩ := ez.cells4
              have fez := ez.frozen
              go_wp2
              obtain ⟨W7, eW, ez', U⟩ := ez.put4 (.bool b5) (.slice A5 n5 c5) (.bool b6) (.slice A6 n6 c6) rfl rfl rfl rfl
              rw [← eW]
              clear eW ez cez0 cez1 cez2 cez3 fez
              replace hown := hown.off U Hbk.out
              replace hx := U.from_ hx (by have := Hsz9.out; simp; omega)
              have eq := BoxQ.mk ez' (p12.kd U.kd)
              clear U ez' p12
              have Hown := Lib.hid hown; clear hown
              go_roundw
              case rel => exact ⟨i + 1, by omega, by go_num, by rw [sm_succ]; exact eq, Hown.out, hx⟩
              case measure => simp [intOf] <;> omega
            · have hiq' : ¬ (n : Int) - i < q := by omega
              have hz0 : F i * G (n - i) = 0 := by rw [HZ.out.2 (n - i) (by omega)]; exact Rat.mul_zero _
              have Hz0 := Lib.hid hz0; clear hz0
              go_wp2
              go_roundw
              case rel => exact ⟨i + 1, by omega, by go_num, by rw [sm_succ, Hz0.out, Rat.add_zero]; exact e9, Hown.out, hx⟩
              case measure => simp [intOf] <;> omega
          · have hip' : ¬ (i : Int) < p := by omega
            have hz0 : F i * G (n - i) = 0 := by rw [HZ.out.1 i (by omega)]; exact Rat.zero_mul _
            have Hz0 := Lib.hid hz0; clear hz0
            go_wp2
            go_roundw
            case rel => exact ⟨i + 1, by omega, by go_num, by rw [sm_succ, Hz0.out, Rat.add_zero]; exact e9, Hown.out, hx⟩
            case measure => simp [intOf] <;> omega
        · obtain rfl : i = n + 1 := by omega
          rw [← cv_sm] at e9
          obtain ⟨z1, Z1, zn, zc, z2, Z2, zn', zc', ez, hz⟩ := e9
          have Hr := Lib.hid hz; clear hz
          obtain ⟨cez0, cez1, cez2, cez3⟩ := ez.cells4
          have fez := ez.frozen
          have hsz := hx.size
          go_wp2_with (at_builtin; refine wpList_append_run rfl _ _ 22 rfl u7 (.slice (some ⟨wr.heap.size, 0, none⟩) 1 1) rfl rfl (append_rq wr wb.heap.size _ _ _ _ _ Hown.out Hr.out (by first | (rw [List.length_map, List.length_range]; omega) | omega) hsz rfl) ?_)
          first | intro v' w5 hown U | rintro v' w5 ⟨hown, U⟩
          replace hx := (Hown.out.ext ((Ext.refl wr).alloc _)).from_ U (hx.alloc _) (Nat.le_refl _)
          have Hown' := Lib.hid hown; clear hown U
          go_wp2
          go_roundw
          case rel => exact ⟨n + 1, by omega, by go_num, by rw [range_succ_map]; exact Hown'.out, hx⟩
          case measure => simp [intOf] <;> omega
    · obtain rfl : n = N := by omega
      have hz : Sup n (cv F G) := ((HZ.out.1.cv HZ.out.2).mono (by omega))
      have hco := co_ofFn hz
      have hh := (OwnQ.row hown).has (fun q hq => by obtain ⟨i, hi, rfl⟩ := List.mem_map.1 hq; have hi := List.mem_range.1 hi; exact (by rw [cv_sm]; exact Nat.le_trans (smm_qsz HS.out.1 HS.out.2.1 i (i + 1)) (mul_le_of (by have := HL.out; omega) HS.out.2.2)))
      have hln : ((List.range n).map (cv F G)).length ≤ 1099511627776 := by rw [List.length_map, List.length_range]; omega
      obtain ⟨A2, c2, e2⟩ := hh.len
      rw [range_len] at e2
      subst e2
      have HH := Lib.hid (And.intro hh hco); clear hh hco hz hown
      go_wp2_with fail
      refine Calls.mono (normal_rp _ _ _ HH.out.1 hln) ?_
      rintro e w9 ⟨r, rfl, hr, hx9⟩
      have hsz := (HW.out.trans hx).size
      have Hr := Lib.hid hr; clear hr hln
      go_wp2
      go_ret
      exact Gives.mk (by rw [← HH.out.2]; exact Hr.out.base_le (by omega)) ((HW.out.trans hx).trans hx9)
end Go.Proofs.YtedoifjbgokmcaaGreat
namespace Go.Hp
open Go.RowKit
theorem QArr.hs {w : World} {g : Nat} {t : TypeId} {N c : Nat} {F : Nat → Rat} (h : QArr w g t (full N F)) (hs : ∀ i, i < N → qsz (F i) ≤ 274877906944) (hc : N ≤ c) (hm : c ≤ 9223372036854775807) : HsV 0 w (.slice (some ⟨g, 0, none⟩) N c) ((List.range N).map F) := by
  have hrow := h.row (full_row N F) (Nat.zero_le g)
  refine QsV.has (base := 0) ⟨_, c, by rw [range_len], by rw [range_len]; exact hc, hm, hrow⟩ fun q hq => ?_
  obtain ⟨i, hi, rfl⟩ := List.mem_map.1 hq
  exact hs i (List.mem_range.1 hi)
end Go.Hp
namespace Go.Proofs.YtedoifjbgokmcaaGreat
open Go.RowKit Go.Hp
/-- A new array of n fractions. -/
theorem make_ratsr (n : Nat) (x : Int) (hx : x = n) (hn : n ≤ 1099511627776) (w : World) : ∃ W, (Instr.makeSlice 22 (.int .i64 x) (.int .i64 x)).run Tryz.prog w = .ok (.slice (some ⟨w.heap.size, 0, none⟩) n n) W ∧ QArr W w.heap.size 40 (List.replicate n none) ∧ Ext w W := by
  subst hx
  obtain ⟨i0, hi, hz0, hz1, hz2⟩ := info_parts info_rat
  have h := run_make (P := Tryz.prog) w 22 40 i0 (.agg #[.bool false, .slice none 0 0, .bool false, .slice none 0 0]) Tryz.underlying22 hi hz0 .i64 .i64 (n : Int) (n : Int) (by omega) (by omega) (by rw [hz2]; omega) (by omega)
  rw [h, hz1, Int.toNat_natCast]
  exact ⟨_, rfl, QArr.new w _ n, (Ext.refl w).alloc _⟩
set_option maxRecDepth 20000 in
set_option maxHeartbeats 8000000 in
theorem divide_rp (v u : Value) (l m : List Rat) (s t : Nat) (w : World) (hv : HsV 0 w v l) (hu : HsV 0 w u m) (h0 : co m ≠ pz) (hF : CD s (co l)) (hG : CD t (co m)) (hn : l.length ≤ 274877906944) (hm : m.length ≤ 274877906944) (hK : s + (pl (co l) + 2) * (t + 1) + 2 * t + 2 ≤ 274877906944) :
    Calls Tryz.prog 70 #[v, u] w (Gives w fun r w' => ∃ a b, r = .tuple #[a, b] ∧ IsP w.heap.size w' a (pq (co l) (co m)) ∧ IsP w.heap.size w' b (pr (co l) (co m))) := by
  have HV := Lib.hid hv; have HU := Lib.hid hu
  obtain ⟨A, c, rfl⟩ := hv.len
  obtain ⟨E, d, rfl⟩ := hu.len
  clear hv hu
  have hp0 := pl_le (co_sup l)
  have hq0 := pl_le (co_sup m)
  have hFf := Fin_.co l; have hGf := Fin_.co m
  have hN1 := normal_ra _ l w HV.out (by omega)
  have hN2 := fun w' (e : Ext w w') => normal_ra _ m w' (HU.out.ext e) (by omega)
  obtain ⟨F, hFe⟩ : ∃ F, F = co l := ⟨_, rfl⟩
  obtain ⟨G, hGe⟩ : ∃ G, G = co m := ⟨_, rfl⟩
  rw [← hFe] at hF hp0 hK hFf hN1
  rw [← hGe] at hG hq0 h0 hGf hN2
  rw [← hFe, ← hGe]
  have hpG := pl_pos hGf h0
  have HN0 := Lib.hid (And.intro hN1 hN2); clear hN1 hN2
  have HX := Lib.hid (And.intro hFf (And.intro hGf (And.intro h0 (And.intro hF (And.intro hG hK)))))
  clear HV HU hFe hGe h0 hF hG hK hFf hGf
  go_enter Tryz.func70, Tryz.ntmps70
  go_wp2_with fail
  refine Calls.mono HN0.out.1 ?_
  rintro e w1 ⟨r1, rfl, ⟨hr1, ha1⟩, hx1⟩
  have H1 := Lib.hid (And.intro hr1 ha1); clear hr1 ha1
  go_wp2_with fail
  refine Calls.mono (HN0.out.2 w1 hx1) ?_
  rintro e w2 ⟨r2, rfl, ⟨hr2, ha2⟩, hx2⟩
  obtain ⟨g2, cap2, rfl, hg2, hc2, hm2, eg⟩ := ha2.resolve_left (by omega)
  clear HN0 hr2
  by_cases hlt : pl F < pl G
  · obtain ⟨A1, c1, la, rfl, k1, k2, -⟩ := H1.out.1.form
    have Hx := Lib.hid (hx1.trans hx2); clear hx1
    have Hx2 := Lib.hid hx2; clear hx2 ha2 eg
    go_wp2
    go_ret2
    have hdl := div_low (F := F) (G := G) ((pl_sup HX.out.1).mono (by omega)) HX.out.2.1 HX.out.2.2.1
    rw [hdl.1, hdl.2]
    exact Gives.mk ⟨_, _, rfl, IsP.nil _ _, H1.out.1.ext Hx2.out⟩ Hx.out
  obtain ⟨g1, cap1, rfl, hg1, hc1, hm1, er⟩ := H1.out.2.resolve_left (by omega)
  have hg1w := er.lt
  replace er := er.ext hx2
  replace hx1 := hx1.trans hx2
  have hsz2 := hx2.size
  have hg2w := eg.lt
  clear H1 hx2 ha2
  obtain ⟨n, hn'⟩ : ∃ n, n = pl F - pl G + 1 := ⟨_, rfl⟩
  have hnF : n + pl G = pl F + 1 := by omega
  have hn1 : 1 ≤ n := by omega
  have hn40 : n ≤ 274877906944 := by omega
  have hpF : pl F ≤ 274877906944 := by omega
  have hpG2 : pl G ≤ 274877906944 := by omega
  obtain ⟨W0, hmk, eq, hxq⟩ := make_ratsr n ((pl F : Int) - pl G + 1) (by omega) (by omega) w2
  have HN := Lib.hid hnF; clear hnF hn'
  replace er := er.ext hxq
  replace eg := eg.ext hxq
  replace hx1 := hx1.trans hxq
  have hne1 : g1 < g2 := by omega
  have hne2 : g2 < w2.heap.size := by omega
  clear hxq hp0 hq0 hg1w hg2w hsz2 hg2
  go_wp2
  go_loopw [9] (fun iv wr => ∃ (i : Nat) (Q Rm : Nat → Rat) (la : List (Option Rat)), i ≤ n ∧ (∃ z : Int, z + 1 = i ∧ iv = .int .i64 z) ∧ QArr wr g1 40 (full (pl F) Rm) ∧ QArr wr g2 40 (full (pl G) G) ∧ QArr wr w2.heap.size 40 la ∧ DivSt F G n s t i la Q Rm ∧ Ext w wr) (fun iv _ => (intOf iv + 1).toNat)
  case atStart => exact ⟨n, pz, F, _, Nat.le_refl _, ⟨_, by have := HN.out; omega, rfl⟩, er, eg, eq, DivSt.start ((pl_sup HX.out.1).mono (by have := HN.out; omega)) HX.out.2.2.2.1, hx1⟩
  case round =>
    clear er eq eg hx1
    obtain ⟨i, Q, Rm, la, hi, ⟨z, hz, rfl⟩, er, eg, eq, hst, hx⟩ := hrel
    have HR := Lib.hid hst
    clear hst
    by_cases hi0 : 0 < i
    · obtain ⟨k, rfl⟩ : ∃ k, i = k + 1 := ⟨i - 1, by omega⟩
      obtain rfl : z = (k : Int) := by omega
      clear hz hi0
      have hkn : k < n := by omega
      have hkp : k + pl G - 1 < pl F := by have := HN.out; omega
      obtain ⟨z1, Z1, zn, zc, z2, Z2, zn', zc', ca0, ca1, ca2, ca3, hza⟩ := er.full_at (j := k + pl G - 1) hkp
      obtain ⟨y1, Y1, yn, yc, y2, Y2, yn', yc', cb0, cb1, cb2, cb3, hzb⟩ := eg.full_at (j := pl G - 1) (by omega)
      have Hq := Lib.hid (And.intro hza hzb); clear hza hzb
      have HB := Lib.hid (show qsz (Rm (k + pl G - 1)) ≤ 274877906944 ∧ qsz (G (pl G - 1)) ≤ 274877906944 by
        have h0 := HN.out
        have h1 := HR.out.2.2.2.2.2.2.elem (k + pl G - 1)
        have h2 : qsz (G (pl G - 1)) ≤ t := HX.out.2.2.2.2.1.elem _
        have h3 := HX.out.2.2.2.2.2
        have h4 : (n - (k + 1)) * (t + 1) ≤ (pl F + 2) * (t + 1) := Nat.mul_le_mul_right _ (by omega)
        exact ⟨by omega, by omega⟩)
      obtain ⟨c0, hc0⟩ : ∃ c0, c0 = Rm (k + pl G - 1) / G (pl G - 1) := ⟨_, rfl⟩
      have Hc0 := Lib.hid hc0
      clear hc0
      have hkla : k < la.length := by have := HR.out.1; omega
      have Hkla := Lib.hid hkla
      clear hkla
      go_wp2_with fail
      refine wp_region_par (k := 16) (D := [38, 39, 40, 41, 42, 43, 44, 45, 46, 47, 48, 49, 50, 51, 52, 10]) (T := [[], [], [], [2], [1, 2, 3], [1, 2, 3, 4], [0, 1, 2, 3, 4, 5], [0, 1, 2, 3, 4, 5, 6], [], [], [9], [9, 10], [8, 9, 10, 11], [8, 9, 10, 11, 12], [0, 1, 2, 3, 4, 5, 6, 7, 8, 9, 10, 11, 12, 13], [], [0, 1, 2, 3, 4, 5, 6, 7, 8, 9, 10, 11, 12, 13, 14, 15]]) (EK := [6, 9, 7]) (EV := [?e1x0, ?e1x1, ?e1x2]) (VL := [(kv ?v1x0), (kv ?v1x1), (kv ?v1x2), (kv ?v1x3), (kv ?v1x4), (kv ?v1x5), (kv ?v1x6), (kv ?v1x7), (kv ?v1x8), (kv ?v1x9), (kv ?v1x10), (kv ?v1x11), (kv ?v1x12), (kv ?v1x13), (fun γ => γ 14), (fun γ => γ 15)]) (FL := fun γ w' => [True, True, True, True, True, True, True, True, True, True, True, True, True, True, IsQ w' (γ 14) c0, NewAt w' (γ 15) wr.heap.size #[.bool false, .slice none 0 0, .bool false, .slice none 0 0] 40]) ?hE1 (by kernel_rfl) (by kernel_rfl) (by rfl) (by kernel_rfl) ?hloc1 ?hmono1 ?hstep1 ?htail1
      case hE1 => refine ⟨?_, ?_, ?_, trivial⟩ <;> (simp only [List.getElem?_toArray, List.getElem?_cons_succ, List.getElem?_cons_zero]; rfl)
      case hstep1 =>
        refine ⟨⟨⟨⟨⟨⟨⟨⟨⟨⟨⟨⟨⟨⟨⟨⟨trivial, ?_⟩, ?_⟩, ?_⟩, ?_⟩, ?_⟩, ?_⟩, ?_⟩, ?_⟩, ?_⟩, ?_⟩, ?_⟩, ?_⟩, ?_⟩, ?_⟩, ?_⟩, ?_⟩
        · intro γ w' he hf; clear hf; refine ⟨trivial, ?_⟩; intro R hR
          have hc := he.cells
          go_simp
          (try go_ints); (try (rw [if_neg (by omega)])); (try (rw [if_pos (by omega)])); (try go_simp); (try go_ints)
          refine hR _ _ (Ext.refl _) ?_ trivial
          rfl
        · intro γ w' he hf; clear hf; refine ⟨trivial, ?_⟩; intro R hR
          have hc := he.cells
          go_simp
          (try go_ints); (try (rw [if_neg (by omega)])); (try (rw [if_pos (by omega)])); (try go_simp); (try go_ints)
          refine hR _ _ (Ext.refl _) ?_ trivial
          rfl
        · intro γ w' he hf; clear hf; refine ⟨trivial, ?_⟩; intro R hR
          have hc := he.cells
          go_simp
          (try go_ints); (try (rw [if_neg (by omega)])); (try (rw [if_pos (by omega)])); (try go_simp); (try go_ints)
          refine hR _ _ (Ext.refl _) ?_ trivial
          rfl
        · intro γ w' he hf; clear hf; refine ⟨trivial, ?_⟩; intro R hR
          have hc := he.cells
          go_simp
          (try go_ints); (try (rw [if_neg (by omega)])); (try (rw [if_pos (by omega)])); (try go_simp); (try go_ints)
          refine hR _ _ (Ext.refl _) ?_ trivial
          rfl
        · intro γ w' he hf; clear hf; refine ⟨trivial, ?_⟩; intro R hR
          have hc := he.cells
          go_simp
          (try go_ints); (try (rw [if_neg (by omega)])); (try (rw [if_pos (by omega)])); (try go_simp); (try go_ints)
          refine hR _ _ (Ext.refl _) ?_ trivial
          rfl
        · intro γ w' he hf; clear hf; refine ⟨trivial, ?_⟩; intro R hR
          have hc := he.cells
          go_simp
          (try go_ints); (try (rw [if_neg (by omega)])); (try (rw [if_pos (by omega)])); (try go_simp); (try go_ints)
          refine hR _ _ (Ext.refl _) ?_ trivial
          rfl
        · intro γ w' he hf; clear hf; refine ⟨trivial, ?_⟩; intro R hR
          have hc := he.cells
          go_simp
          (try go_ints); (try (rw [if_neg (by omega)])); (try (rw [if_pos (by omega)])); (try go_simp); (try go_ints)
          refine hR _ _ (Ext.refl _) ?_ trivial
          rfl
        · intro γ w' he hf; clear hf; refine ⟨trivial, ?_⟩; intro R hR
          have hc := he.cells
          have cq0 := he.cell ca0
          have cq1 := he.cell ca1
          have cq2 := he.cell ca2
          have cq3 := he.cell ca3
          have cq4 := he.cell cb0
          have cq5 := he.cell cb1
          have cq6 := he.cell cb2
          have cq7 := he.cell cb3
          go_simp
          (try go_ints); (try (rw [if_neg (by omega)])); (try (rw [if_pos (by omega)])); (try go_simp); (try go_ints)
          refine hR _ _ (Ext.refl _) ?_ trivial
          rfl
        · intro γ w' he hf; clear hf; refine ⟨trivial, ?_⟩; intro R hR
          have hc := he.cells
          go_simp
          (try go_ints); (try (rw [if_neg (by omega)])); (try (rw [if_pos (by omega)])); (try go_simp); (try go_ints)
          refine hR _ _ (Ext.refl _) ?_ trivial
          rfl
        · intro γ w' he hf; clear hf; refine ⟨trivial, ?_⟩; intro R hR
          have hc := he.cells
          go_simp
          (try go_ints); (try (rw [if_neg (by omega)])); (try (rw [if_pos (by omega)])); (try go_simp); (try go_ints)
          refine hR _ _ (Ext.refl _) ?_ trivial
          rfl
        · intro γ w' he hf; clear hf; refine ⟨trivial, ?_⟩; intro R hR
          have hc := he.cells
          go_simp
          (try go_ints); (try (rw [if_neg (by omega)])); (try (rw [if_pos (by omega)])); (try go_simp); (try go_ints)
          refine hR _ _ (Ext.refl _) ?_ trivial
          rfl
        · intro γ w' he hf; clear hf; refine ⟨trivial, ?_⟩; intro R hR
          have hc := he.cells
          go_simp
          (try go_ints); (try (rw [if_neg (by omega)])); (try (rw [if_pos (by omega)])); (try go_simp); (try go_ints)
          refine hR _ _ (Ext.refl _) ?_ trivial
          rfl
        · intro γ w' he hf; clear hf; refine ⟨trivial, ?_⟩; intro R hR
          have hc := he.cells
          go_simp
          (try go_ints); (try (rw [if_neg (by omega)])); (try (rw [if_pos (by omega)])); (try go_simp); (try go_ints)
          refine hR _ _ (Ext.refl _) ?_ trivial
          rfl
        · intro γ w' he hf; clear hf; refine ⟨trivial, ?_⟩; intro R hR
          have hc := he.cells
          have cq0 := he.cell ca0
          have cq1 := he.cell ca1
          have cq2 := he.cell ca2
          have cq3 := he.cell ca3
          have cq4 := he.cell cb0
          have cq5 := he.cell cb1
          have cq6 := he.cell cb2
          have cq7 := he.cell cb3
          go_simp
          (try go_ints); (try (rw [if_neg (by omega)])); (try (rw [if_pos (by omega)])); (try go_simp); (try go_ints)
          refine hR _ _ (Ext.refl _) ?_ trivial
          rfl
        · intro γ w' he hf; clear hf; refine ⟨trivial, ?_⟩; intro R hR
          go_simp
          refine Calls.mono (show Calls _ _ _ w' (Gives w' fun r w'' => IsQ w'' (r) c0) from Hc0.out ▸ ratio_rq _ _ _ _ w' ((Hq.out.1.ext he).has HB.out.1) ((Hq.out.2.ext he).has HB.out.2)) ?_
          rintro e w2 ⟨v, rfl, hv, hx⟩
          exact ⟨v, rfl, hR v w2 hx rfl hv⟩
        · intro γ w' he hf; clear hf; refine ⟨trivial, ?_⟩; intro R hR
          go_simp
          exact hR _ _ ((Ext.refl _).alloc _) rfl (NewAt.mk (Nat.le_trans (by simp) he.size) (by simp [isDig]))
      case hloc1 =>
        exact ⟨⟨⟨⟨⟨⟨⟨⟨⟨⟨⟨⟨⟨⟨⟨⟨trivial, (fun γ γ' h => ⟨rfl, fun _ => rfl⟩)⟩, (fun γ γ' h => ⟨rfl, fun _ => rfl⟩)⟩, (fun γ γ' h => ⟨rfl, fun _ => rfl⟩)⟩, (fun γ γ' h => ⟨rfl, fun _ => rfl⟩)⟩, (fun γ γ' h => ⟨rfl, fun _ => rfl⟩)⟩, (fun γ γ' h => ⟨rfl, fun _ => rfl⟩)⟩, (fun γ γ' h => ⟨rfl, fun _ => rfl⟩)⟩, (fun γ γ' h => ⟨rfl, fun _ => rfl⟩)⟩, (fun γ γ' h => ⟨rfl, fun _ => rfl⟩)⟩, (fun γ γ' h => ⟨rfl, fun _ => rfl⟩)⟩, (fun γ γ' h => ⟨rfl, fun _ => rfl⟩)⟩, (fun γ γ' h => ⟨rfl, fun _ => rfl⟩)⟩, (fun γ γ' h => ⟨rfl, fun _ => rfl⟩)⟩, (fun γ γ' h => ⟨rfl, fun _ => rfl⟩)⟩, (fun γ γ' h => ⟨h 14 rfl, fun w' => (congrArg (fun a => IsQ w' (a) c0) (h 14 rfl))⟩)⟩, (fun γ γ' h => ⟨h 15 rfl, fun w' => (congrArg (fun a => NewAt w' (a) wr.heap.size #[.bool false, .slice none 0 0, .bool false, .slice none 0 0] 40) (h 15 rfl))⟩)⟩
      case hmono1 =>
        exact ⟨⟨⟨⟨⟨⟨⟨⟨⟨⟨⟨⟨⟨⟨⟨⟨trivial, (fun γ wA w' e h => h)⟩, (fun γ wA w' e h => h)⟩, (fun γ wA w' e h => h)⟩, (fun γ wA w' e h => h)⟩, (fun γ wA w' e h => h)⟩, (fun γ wA w' e h => h)⟩, (fun γ wA w' e h => h)⟩, (fun γ wA w' e h => h)⟩, (fun γ wA w' e h => h)⟩, (fun γ wA w' e h => h)⟩, (fun γ wA w' e h => h)⟩, (fun γ wA w' e h => h)⟩, (fun γ wA w' e h => h)⟩, (fun γ wA w' e h => h)⟩, (fun γ wA w' e h => (show IsQ wA (γ 14) c0 from h).ext e)⟩, (fun γ wA w' e h => (show NewAt wA (γ 15) wr.heap.size #[.bool false, .slice none 0 0, .bool false, .slice none 0 0] 40 from h).ext e)⟩
      intro γ w3 hx3 hF
      have p14 : IsQ w3 (γ 14) c0 := Each.get hF 14 (by decide)
      have p15 : NewAt w3 (γ 15) wr.heap.size #[.bool false, .slice none 0 0, .bool false, .slice none 0 0] 40 := Each.get hF 15 (by decide)
      clear hF
      simp only [fillAll, gV, kv, List.getD_cons_zero, List.getD_cons_succ, Act.put, List.setIfInBounds_toArray, List.set_cons_zero, List.set_cons_succ, List.toList_toArray, List.drop_succ_cons, List.drop_zero, List.drop_nil, Nat.zero_add, Nat.reduceAdd]
      generalize γ 14 = g14 at *
      generalize γ 15 = g15 at *
      clear γ
      obtain ⟨gc, rfl, hgc, ec⟩ := p15
      obtain ⟨b5, A5, n5, c5, b6, A6, n6, c6, rfl⟩ := p14.cells
      have hlt2 := eq.lt
      have hszw := hx.size
      clear ca0 ca1 ca2 ca3 cb0 cb1 cb2 cb3 Hq HB
      replace er := er.ext hx3
      replace eg := eg.ext hx3
      replace eq := eq.ext hx3
      replace hx := hx.trans hx3
      clear hx3
      obtain ⟨cec0, cec1, cec2, cec3⟩ := ec.cells4
      have fec := ec.frozen
      go_upto_region 9 with (fail)
      have hge : w.heap.size ≤ gc := by omega
      obtain ⟨W4, eW, ec', U⟩ := ec.put4 (.bool b5) (.slice A5 n5 c5) (.bool b6) (.slice A6 n6 c6) rfl rfl rfl rfl
      rw [← eW]
      clear eW ec
      replace p14 := p14.kd U.kd
      replace er := er.upd U (by simp <;> omega)
      replace eg := eg.upd U (by simp <;> omega)
      replace eq := eq.upd U (by simp <;> omega)
      replace hx := U.from_ hx (by simp <;> omega)
      have ec := ec'
      clear U ec'
      clear cec0 cec1 cec2 cec3 fec
      obtain ⟨cec0, cec1, cec2, cec3⟩ := ec.cells4
      have fec := ec.frozen
      have hkla := Hkla.out
      obtain ⟨_, _, _, _, _, _, _, _, ca0, ca1, ca2, ca3, -⟩ := eq.at_ (j := k) (by first | omega | (simp; omega))
      have fa0 := eq.frozen (k * 4)
      have fa1 := eq.frozen (k * 4 + 1)
      have fa2 := eq.frozen (k * 4 + 2)
      have fa3 := eq.frozen (k * 4 + 3)
      clear hkla
      go_wp2
      have hkla := Hkla.out
      obtain ⟨W5, eW, eq', U⟩ := eq.put (k := k) (by first | omega | (simp; omega)) p14
      rw [← eW]
      clear eW eq
      replace p14 := p14.kd U.kd
      replace er := er.upd U (by simp <;> omega)
      replace eg := eg.upd U (by simp <;> omega)
      replace ec := ec.upd U (by simp <;> omega)
      replace hx := U.from_ hx (by simp <;> omega)
      have eq := eq'
      clear U eq'
      have eb := BoxQ.mk ec p14
      have hlt3 : gc ≠ w2.heap.size := by omega
      clear cec0 cec1 cec2 cec3 fec p14 ec hkla
      have HB2 := Lib.hid (show qsz c0 ≤ 274877906944 ∧ (∀ j m, qsz (subG k j c0 Rm G m) ≤ 274877906944) ∧ ∀ j, qsz (G j) ≤ 274877906944 ∧ qsz (c0 * G j) < 274877906944 by
        have h0 := HN.out
        have h1 := fun m => HR.out.2.2.2.2.2.2.elem m
        have h1' := h1 (k + pl G - 1)
        have h2 : qsz (G (pl G - 1)) ≤ t := HX.out.2.2.2.2.1.elem _
        have h3 := HX.out.2.2.2.2.2
        have h4 : (n - (k + 1)) * (t + 1) + (t + 1) ≤ (pl F + 2) * (t + 1) := by rw [← Nat.succ_mul]; exact Nat.mul_le_mul_right _ (by omega)
        have h5 := fun m => (HR.out.2.2.2.2.2.2.step (n := k) HX.out.2.1 HX.out.2.2.1 HX.out.2.2.2.2.1).elem m
        have h5' : ∀ m, qsz (psb Rm (cv (mono k c0) G) m) ≤ s + (n - (k + 1)) * (t + 1) + t + 1 := fun m => by have := h5 m; rw [Hc0.out]; exact this
        have h6 : qsz c0 ≤ s + (n - (k + 1)) * (t + 1) + t := by rw [Hc0.out]; have := qsz_div (Rm (k + pl G - 1)) (G (pl G - 1)); omega
        refine ⟨by omega, fun j m => subG_qsz (pl_sup HX.out.2.1) (fun m => by have := h1 m; omega) (fun m => by have := h5' m; omega) m, fun j => ?_⟩
        have h7 : qsz (G j) ≤ t := HX.out.2.2.2.2.1.elem _
        have := qsz_mul c0 (G j)
        exact ⟨by omega, by omega⟩)
      have HST := Lib.hid (HR.out.step HX.out.2.1 HX.out.2.2.1 HX.out.2.2.2.2.1 hkn Hc0.out)
      clear HR
      obtain ⟨wq, rfl⟩ : ∃ wq : World, wq = wr := ⟨_, rfl⟩
      go_loopw [11] (fun jv wx => ∃ (j : Nat), j ≤ pl G ∧ jv = .int .i64 j ∧ QArr wx g1 40 (full (pl F) (subG k j c0 Rm G)) ∧ QArr wx g2 40 (full (pl G) G) ∧ QArr wx w2.heap.size 40 (la.set k (some c0)) ∧ BoxQ wx gc 40 c0 ∧ Ext w wx) (fun jv _ => pl G - (intOf jv).toNat)
      case atStart => exact ⟨0, Nat.zero_le _, rfl, by rw [subG_zero]; exact er, eg, eq, eb, hx⟩
      case round =>
        clear er eq eg eb hx
        obtain ⟨j, hj, rfl, er, eg, eq, eb, hx⟩ := hrel
        by_cases hjm : j < pl G
        · have hkj : k + j < pl F := by have := HN.out; omega
          obtain ⟨x1, X1, xn, xc, x2, X2, xn', xc', ec, hc⟩ := eb
          obtain ⟨z1, Z1, zn, zc, z2, Z2, zn', zc', ca0, ca1, ca2, ca3, hza⟩ := er.full_at hkj
          obtain ⟨y1, Y1, yn, yc, y2, Y2, yn', yc', cb0, cb1, cb2, cb3, hzb⟩ := eg.full_at hjm
          have Hc := Lib.hid hc; have Hza := Lib.hid hza; have Hzb := Lib.hid hzb; clear hc hza hzb
          obtain ⟨cec0, cec1, cec2, cec3⟩ := ec.cells4
          have fec := ec.frozen
          go_wp2_with fail
          refine wp_region_par (k := 17) (D := [63, 64, 65, 66, 67, 68, 69, 70, 71, 72, 73, 74, 75, 76, 77, 78, 79]) (T := [[], [], [], [1, 2], [], [], [], [5, 6], [4, 5, 6, 7], [4, 5, 6, 7, 8], [], [], [], [11, 12], [11, 12, 13], [10, 11, 12, 13, 14], [4, 5, 6, 7, 8, 9, 10, 11, 12, 13, 14, 15], [0, 1, 2, 3, 4, 5, 6, 7, 8, 9, 10, 11, 12, 13, 14, 15, 16], [0, 1, 2, 3, 4, 5, 6, 7, 8, 9, 10, 11, 12, 13, 14, 15, 16, 17]]) (EK := [6, 9, 11, 10, 7]) (EV := [?e2x0, ?e2x1, ?e2x2, ?e2x3, ?e2x4]) (VL := [(kv ?v2x0), (kv ?v2x1), (kv ?v2x2), (kv ?v2x3), (kv ?v2x4), (kv ?v2x5), (kv ?v2x6), (kv ?v2x7), (kv ?v2x8), (kv ?v2x9), (kv ?v2x10), (kv ?v2x11), (kv ?v2x12), (kv ?v2x13), (kv ?v2x14), (fun γ => γ 15), (fun γ => γ 16)]) (FL := fun γ w' => [True, True, True, True, True, True, True, True, True, True, True, True, True, True, True, IsQ w' (γ 15) (c0 * G j), IsQ w' (γ 16) (subG k j c0 Rm G (k + j) - c0 * G j)]) ?hE2 (by kernel_rfl) (by kernel_rfl) (by rfl) (by kernel_rfl) ?hloc2 ?hmono2 ?hstep2 ?htail2
          case hE2 => refine ⟨?_, ?_, ?_, ?_, ?_, trivial⟩ <;> (simp only [List.getElem?_toArray, List.getElem?_cons_succ, List.getElem?_cons_zero]; rfl)
          case hstep2 =>
            refine ⟨⟨⟨⟨⟨⟨⟨⟨⟨⟨⟨⟨⟨⟨⟨⟨⟨trivial, ?_⟩, ?_⟩, ?_⟩, ?_⟩, ?_⟩, ?_⟩, ?_⟩, ?_⟩, ?_⟩, ?_⟩, ?_⟩, ?_⟩, ?_⟩, ?_⟩, ?_⟩, ?_⟩, ?_⟩
            · intro γ w' he hf; clear hf; refine ⟨trivial, ?_⟩; intro R hR
              have hc := he.cells
              go_simp
              (try go_ints); (try (rw [if_neg (by omega)])); (try (rw [if_pos (by omega)])); (try go_simp); (try go_ints)
              refine hR _ _ (Ext.refl _) ?_ trivial
              rfl
            · intro γ w' he hf; clear hf; refine ⟨trivial, ?_⟩; intro R hR
              have hc := he.cells
              go_simp
              (try go_ints); (try (rw [if_neg (by omega)])); (try (rw [if_pos (by omega)])); (try go_simp); (try go_ints)
              refine hR _ _ (Ext.refl _) ?_ trivial
              rfl
            · intro γ w' he hf; clear hf; refine ⟨trivial, ?_⟩; intro R hR
              have hc := he.cells
              go_simp
              (try go_ints); (try (rw [if_neg (by omega)])); (try (rw [if_pos (by omega)])); (try go_simp); (try go_ints)
              refine hR _ _ (Ext.refl _) ?_ trivial
              rfl
            · intro γ w' he hf; clear hf; refine ⟨trivial, ?_⟩; intro R hR
              have hc := he.cells
              go_simp
              (try go_ints); (try (rw [if_neg (by omega)])); (try (rw [if_pos (by omega)])); (try go_simp); (try go_ints)
              refine hR _ _ (Ext.refl _) ?_ trivial
              rfl
            · intro γ w' he hf; clear hf; refine ⟨trivial, ?_⟩; intro R hR
              have hc := he.cells
              go_simp
              (try go_ints); (try (rw [if_neg (by omega)])); (try (rw [if_pos (by omega)])); (try go_simp); (try go_ints)
              refine hR _ _ (Ext.refl _) ?_ trivial
              rfl
            · intro γ w' he hf; clear hf; refine ⟨trivial, ?_⟩; intro R hR
              have hc := he.cells
              go_simp
              (try go_ints); (try (rw [if_neg (by omega)])); (try (rw [if_pos (by omega)])); (try go_simp); (try go_ints)
              refine hR _ _ (Ext.refl _) ?_ trivial
              rfl
            · intro γ w' he hf; clear hf; refine ⟨trivial, ?_⟩; intro R hR
              have hc := he.cells
              go_simp
              (try go_ints); (try (rw [if_neg (by omega)])); (try (rw [if_pos (by omega)])); (try go_simp); (try go_ints)
              refine hR _ _ (Ext.refl _) ?_ trivial
              rfl
            · intro γ w' he hf; clear hf; refine ⟨trivial, ?_⟩; intro R hR
              have hc := he.cells
              go_simp
              (try go_ints); (try (rw [if_neg (by omega)])); (try (rw [if_pos (by omega)])); (try go_simp); (try go_ints)
              refine hR _ _ (Ext.refl _) ?_ trivial
              rfl
            · intro γ w' he hf; clear hf; refine ⟨trivial, ?_⟩; intro R hR
              have hc := he.cells
              go_simp
              (try go_ints); (try (rw [if_neg (by omega)])); (try (rw [if_pos (by omega)])); (try go_simp); (try go_ints)
              refine hR _ _ (Ext.refl _) ?_ trivial
              rfl
            · intro γ w' he hf; clear hf; refine ⟨trivial, ?_⟩; intro R hR
              have hc := he.cells
              have cq0 := he.cell ca0
              have cq1 := he.cell ca1
              have cq2 := he.cell ca2
              have cq3 := he.cell ca3
              have cq4 := he.cell cb0
              have cq5 := he.cell cb1
              have cq6 := he.cell cb2
              have cq7 := he.cell cb3
              have cq8 := he.cell cec0
              have cq9 := he.cell cec1
              have cq10 := he.cell cec2
              have cq11 := he.cell cec3
              go_simp
              (try go_ints); (try (rw [if_neg (by omega)])); (try (rw [if_pos (by omega)])); (try go_simp); (try go_ints)
              refine hR _ _ (Ext.refl _) ?_ trivial
              rfl
            · intro γ w' he hf; clear hf; refine ⟨trivial, ?_⟩; intro R hR
              have hc := he.cells
              have cq0 := he.cell ca0
              have cq1 := he.cell ca1
              have cq2 := he.cell ca2
              have cq3 := he.cell ca3
              have cq4 := he.cell cb0
              have cq5 := he.cell cb1
              have cq6 := he.cell cb2
              have cq7 := he.cell cb3
              have cq8 := he.cell cec0
              have cq9 := he.cell cec1
              have cq10 := he.cell cec2
              have cq11 := he.cell cec3
              go_simp
              (try go_ints); (try (rw [if_neg (by omega)])); (try (rw [if_pos (by omega)])); (try go_simp); (try go_ints)
              refine hR _ _ (Ext.refl _) ?_ trivial
              rfl
            · intro γ w' he hf; clear hf; refine ⟨trivial, ?_⟩; intro R hR
              have hc := he.cells
              go_simp
              (try go_ints); (try (rw [if_neg (by omega)])); (try (rw [if_pos (by omega)])); (try go_simp); (try go_ints)
              refine hR _ _ (Ext.refl _) ?_ trivial
              rfl
            · intro γ w' he hf; clear hf; refine ⟨trivial, ?_⟩; intro R hR
              have hc := he.cells
              go_simp
              (try go_ints); (try (rw [if_neg (by omega)])); (try (rw [if_pos (by omega)])); (try go_simp); (try go_ints)
              refine hR _ _ (Ext.refl _) ?_ trivial
              rfl
            · intro γ w' he hf; clear hf; refine ⟨trivial, ?_⟩; intro R hR
              have hc := he.cells
              go_simp
              (try go_ints); (try (rw [if_neg (by omega)])); (try (rw [if_pos (by omega)])); (try go_simp); (try go_ints)
              refine hR _ _ (Ext.refl _) ?_ trivial
              rfl
            · intro γ w' he hf; clear hf; refine ⟨trivial, ?_⟩; intro R hR
              have hc := he.cells
              have cq0 := he.cell ca0
              have cq1 := he.cell ca1
              have cq2 := he.cell ca2
              have cq3 := he.cell ca3
              have cq4 := he.cell cb0
              have cq5 := he.cell cb1
              have cq6 := he.cell cb2
              have cq7 := he.cell cb3
              have cq8 := he.cell cec0
              have cq9 := he.cell cec1
              have cq10 := he.cell cec2
              have cq11 := he.cell cec3
              go_simp
              (try go_ints); (try (rw [if_neg (by omega)])); (try (rw [if_pos (by omega)])); (try go_simp); (try go_ints)
              refine hR _ _ (Ext.refl _) ?_ trivial
              rfl
            · intro γ w' he hf; clear hf; refine ⟨trivial, ?_⟩; intro R hR
              go_simp
              refine Calls.mono (show Calls _ _ _ w' (Gives w' fun r w'' => IsQ w'' (r) (c0 * G j)) from mul_rq _ _ _ _ w' ((Hc.out.ext he).has HB2.out.1) ((Hzb.out.ext he).has (HB2.out.2.2 j).1)) ?_
              rintro e w2 ⟨v, rfl, hv, hx⟩
              exact ⟨v, rfl, hR v w2 hx rfl hv⟩
            · intro γ w' he hf; have f15 : IsQ w' (γ 15) (c0 * G j) := hf 15 (by decide); clear hf; refine ⟨trivial, ?_⟩; intro R hR
              go_simp
              refine Calls.mono (show Calls _ _ _ w' (Gives w' fun r w'' => IsQ w'' (r) (subG k j c0 Rm G (k + j) - c0 * G j)) from sub_rq _ _ _ _ w' ((Hza.out.ext he).has (HB2.out.2.1 _ _)) (f15.has (Nat.le_of_lt (HB2.out.2.2 j).2)) (by have h1 := HB2.out.2.1 j (k + j); have h2 := (HB2.out.2.2 j).2; omega)) ?_
              rintro e w2 ⟨v, rfl, hv, hx⟩
              exact ⟨v, rfl, hR v w2 hx rfl hv⟩
          case hloc2 =>
            exact ⟨⟨⟨⟨⟨⟨⟨⟨⟨⟨⟨⟨⟨⟨⟨⟨⟨trivial, (fun γ γ' h => ⟨rfl, fun _ => rfl⟩)⟩, (fun γ γ' h => ⟨rfl, fun _ => rfl⟩)⟩, (fun γ γ' h => ⟨rfl, fun _ => rfl⟩)⟩, (fun γ γ' h => ⟨rfl, fun _ => rfl⟩)⟩, (fun γ γ' h => ⟨rfl, fun _ => rfl⟩)⟩, (fun γ γ' h => ⟨rfl, fun _ => rfl⟩)⟩, (fun γ γ' h => ⟨rfl, fun _ => rfl⟩)⟩, (fun γ γ' h => ⟨rfl, fun _ => rfl⟩)⟩, (fun γ γ' h => ⟨rfl, fun _ => rfl⟩)⟩, (fun γ γ' h => ⟨rfl, fun _ => rfl⟩)⟩, (fun γ γ' h => ⟨rfl, fun _ => rfl⟩)⟩, (fun γ γ' h => ⟨rfl, fun _ => rfl⟩)⟩, (fun γ γ' h => ⟨rfl, fun _ => rfl⟩)⟩, (fun γ γ' h => ⟨rfl, fun _ => rfl⟩)⟩, (fun γ γ' h => ⟨rfl, fun _ => rfl⟩)⟩, (fun γ γ' h => ⟨h 15 rfl, fun w' => (congrArg (fun a => IsQ w' (a) (c0 * G j)) (h 15 rfl))⟩)⟩, (fun γ γ' h => ⟨h 16 rfl, fun w' => (congrArg (fun a => IsQ w' (a) (subG k j c0 Rm G (k + j) - c0 * G j)) (h 16 rfl))⟩)⟩
          case hmono2 =>
            exact ⟨⟨⟨⟨⟨⟨⟨⟨⟨⟨⟨⟨⟨⟨⟨⟨⟨trivial, (fun γ wA w' e h => h)⟩, (fun γ wA w' e h => h)⟩, (fun γ wA w' e h => h)⟩, (fun γ wA w' e h => h)⟩, (fun γ wA w' e h => h)⟩, (fun γ wA w' e h => h)⟩, (fun γ wA w' e h => h)⟩, (fun γ wA w' e h => h)⟩, (fun γ wA w' e h => h)⟩, (fun γ wA w' e h => h)⟩, (fun γ wA w' e h => h)⟩, (fun γ wA w' e h => h)⟩, (fun γ wA w' e h => h)⟩, (fun γ wA w' e h => h)⟩, (fun γ wA w' e h => h)⟩, (fun γ wA w' e h => (show IsQ wA (γ 15) (c0 * G j) from h).ext e)⟩, (fun γ wA w' e h => (show IsQ wA (γ 16) (subG k j c0 Rm G (k + j) - c0 * G j) from h).ext e)⟩
          intro γ w6 hx6 hF
          have p15 : IsQ w6 (γ 15) (c0 * G j) := Each.get hF 15 (by decide)
          have p16 : IsQ w6 (γ 16) (subG k j c0 Rm G (k + j) - c0 * G j) := Each.get hF 16 (by decide)
          clear hF
          simp only [fillAll, gV, kv, List.getD_cons_zero, List.getD_cons_succ, Act.put, List.setIfInBounds_toArray, List.set_cons_zero, List.set_cons_succ, List.toList_toArray, List.drop_succ_cons, List.drop_zero, List.drop_nil, Nat.zero_add, Nat.reduceAdd]
          generalize γ 15 = g15 at *
          generalize γ 16 = g16 at *
          clear γ
          clear ca0 ca1 ca2 ca3 cb0 cb1 cb2 cb3 cec0 cec1 cec2 cec3 fec p15 Hza Hzb
          have hk := Hc.out.ext hx6
          clear Hc
          replace er := er.ext hx6
          replace eg := eg.ext hx6
          replace eq := eq.ext hx6
          replace ec := ec.ext hx6
          replace hx := hx.trans hx6
          clear hx6
          obtain ⟨b5, A5, n5, c5, b6, A6, n6, c6, rfl⟩ := p16.cells
          have Hk := Lib.hid hk
          have hkf : k + j < (full (pl F) (subG k j c0 Rm G)).length := by rw [full_len]; exact hkj
          have Hkf := Lib.hid hkf
          obtain ⟨_, _, _, _, _, _, _, _, ca0, ca1, ca2, ca3, -⟩ := er.at_ (j := k + j) (by first | omega | (simp; omega))
          have fa0 := er.frozen ((k + j) * 4)
          have fa1 := er.frozen ((k + j) * 4 + 1)
          have fa2 := er.frozen ((k + j) * 4 + 2)
          have fa3 := er.frozen ((k + j) * 4 + 3)
          clear hkf hk
          go_wp2
          have hkf := Hkf.out
          have hk := Hk.out
          obtain ⟨W7, eW, er', U⟩ := er.put (k := k + j) (by first | omega | (simp; omega)) p16
          rw [← eW]
          clear eW er
          replace hk := hk.kd U.kd
          replace eg := eg.upd U (by simp <;> omega)
          replace eq := eq.upd U (by simp <;> omega)
          replace ec := ec.upd U (by simp <;> omega)
          replace hx := U.from_ hx (by simp <;> omega)
          have er := er'
          clear U er'
          have eb := BoxQ.mk ec hk
          clear ec hk Hk
          go_roundw
          case rel => exact ⟨j + 1, by omega, by go_num, by
            rw [full_set (G := subG k (j + 1) c0 Rm G) (fun n => by
              rw [subG_succ]; split <;> simp_all)] at er
            exact er, eg, eq, eb, hx⟩
          case measure => simp [intOf] <;> omega
        · obtain rfl : j = pl G := by omega
          rw [subG_full (pl_sup HX.out.2.1)] at er
          clear eb
          go_wp2
          go_roundw
          case rel => exact ⟨k, _, _, _, by omega, ⟨(k : Int) - 1, by omega, by go_num⟩, er, eg, eq, HST.out, hx⟩
          case measure => simp [intOf] <;> omega
    · obtain rfl : i = 0 := by omega
      have hz1 : z < 0 := by omega
      have HE2 := Lib.hid (HR.out.end_ HX.out.1 HX.out.2.1 HX.out.2.2.1)
      rw [HE2.out.1, HE2.out.2.1] at eq
      rw [HE2.out.2.2.1] at er
      have Hz := Lib.hid hz
      clear hz HR eg
      have hsq : Sup n (pq F G) := HE2.out.2.1 ▸ HE2.out.2.2.2
      have hsr : Sup (pl F) (pr F G) := (pr_sup HX.out.1 HX.out.2.1 HX.out.2.2.1).mono (by have := HN.out; omega)
      have hFs : Sup (n + pl G - 1) F := (pl_sup HX.out.1).mono (by have := HN.out; omega)
      have hnt : n * (t + 1) ≤ (pl F + 2) * (t + 1) := Nat.mul_le_mul_right _ (by have := HN.out; omega)
      have hvq := eq.hs (c := n) (fun i _ => by have := pq_qsz hFs HX.out.2.1 HX.out.2.2.1 HX.out.2.2.2.1 HX.out.2.2.2.2.1 i; have := HX.out.2.2.2.2.2; omega) (Nat.le_refl _) (by omega)
      have hvr := er.hs (c := cap1) (fun i _ => by have := (CD.pr hFs HX.out.2.1 HX.out.2.2.1 HX.out.2.2.2.1 HX.out.2.2.2.2.1).elem i; have := HX.out.2.2.2.2.2; omega) hc1 hm1
      have HT := Lib.hid (And.intro (normal_rp _ _ wr hvq (by rw [range_len]; omega)) (fun w' (e : Ext wr w') => normal_rp _ _ w' (hvr.ext e) (by rw [range_len]; omega)))
      rw [co_ofFn hsq, co_ofFn hsr] at HT
      clear hvq hvr hsq hsr hFs er eq
      have Hx := Lib.hid hx; clear hx
      go_wp2_with fail
      refine Calls.mono HT.out.1 ?_
      rintro e w4 ⟨r4, rfl, h4, hx4⟩
      have H4 := Lib.hid h4; clear h4
      go_wp2_with fail
      refine Calls.mono (HT.out.2 _ hx4) ?_
      rintro e w5 ⟨r5, rfl, h5, hx5⟩
      have H5 := Lib.hid h5; clear h5
      go_wp2
      go_ret2
      have s1 := Hx.out.size
      have s2 := hx4.size
      exact Gives.mk ⟨_, _, rfl, (H4.out.ext hx5).base_le (by omega), H5.out.base_le (by omega)⟩ ((Hx.out.trans hx4).trans hx5)
end Go.Proofs.YtedoifjbgokmcaaGreat
namespace Go.Hp
theorem CD.mn {s : Nat} {F : Nat → Rat} (h : CD s F) : CD (2 * s) (mn F) := by
  have h1 := h.elem (pl F - 1)
  have h2 : Hp.qsz (1 / ld F) ≤ s := by
    have e : 1 / ld F = (ld F)⁻¹ := by rw [Rat.div_def, Rat.one_mul]
    rw [e]; exact Nat.le_trans (qsz_inv _) h1
  exact (h.psc (1 / ld F)).mono (by omega)
theorem mn_mn {F : Nat → Rat} (h : Fin_ F) : mn (mn F) = mn F := by
  by_cases h0 : F = pz
  · rw [h0, mn_pz, mn_pz]
  · have := mn_ld h h0
    show psc (1 / ld (mn F)) (mn F) = mn F
    rw [this, show (1 : Rat) / 1 = 1 from by grind, psc_one]
/-- How long the numbers may be after j rounds. -/
def gcb (s : Nat) : Nat → Nat
  | 0 => s
  | j + 1 => 18 * gcb s j + 16
theorem gcb_mono {s i j : Nat} (h : i ≤ j) : gcb s i ≤ gcb s j := by
  induction j with
  | zero => obtain rfl : i = 0 := by omega
            exact Nat.le_refl _
  | succ j ih =>
    rcases Nat.eq_or_lt_of_le h with e | e
    · rw [e]; exact Nat.le_refl _
    · have := ih (by omega)
      show _ ≤ 18 * gcb s j + 16
      omega
theorem gcb_le {j : Nat} (h : j ≤ 7) : gcb 44 j ≤ 27516040000 := by
  refine Nat.le_trans (gcb_mono h) ?_
  decide
/-- The state after j rounds. -/
def GcSt (F0 G0 : Nat → Rat) (j : Nat) (F G : Nat → Rat) : Prop :=
  Fin_ F ∧ Fin_ G ∧ (∀ E, Fin_ E → (Dv E F ∧ Dv E G ↔ Dv E F0 ∧ Dv E G0)) ∧ CD (gcb 44 j) F ∧ CD (gcb 44 j) G ∧ pl F ≤ 7 ∧ pl G + j ≤ 7
theorem GcSt.start {F G : Nat → Rat} (hF : Fin_ F) (hG : Fin_ G) (cF : CD 22 F) (cG : CD 22 G) (lF : pl F ≤ 7) (lG : pl G ≤ 7) : GcSt F G 0 F G :=
  ⟨hF, hG, fun _ _ => Iff.rfl, cF.mono (by show 22 ≤ 44; omega), cG.mono (by show 22 ≤ 44; omega), lF, lG⟩
theorem GcSt.startM {F G : Nat → Rat} (hF : Fin_ F) (hG : Fin_ G) (cF : CD 22 F) (cG : CD 22 G) (lF : pl F ≤ 7) (lG : pl G ≤ 7) : GcSt F G 0 (mn F) (mn G) :=
  ⟨mn_fin hF, mn_fin hG, fun E hE => by rw [dv_mn_iff hF, dv_mn_iff hG], cF.mn.mono (by show 44 ≤ 44; omega), cG.mn.mono (by show 44 ≤ 44; omega), by rw [mn_pl hF]; exact lF, by rw [mn_pl hG]; exact lG⟩
theorem GcSt.step {F0 G0 F G : Nat → Rat} {j : Nat} (h : GcSt F0 G0 j F G) (h0 : G ≠ pz) : GcSt F0 G0 (j + 1) G (mn (pr F G)) := by
  obtain ⟨hF, hG, hd, cF, cG, lF, lG⟩ := h
  have hp := pl_pos hG h0
  have hr := pr_fin hF hG
  have hs := pl_le (pr_sup hF hG h0)
  have c1 := CD.pr (n := 8) ((pl_sup hF).mono (by omega)) hG h0 cF cG
  refine ⟨hG, mn_fin hr, fun E hE => ?_, cG.mono (gcb_mono (by omega)), c1.mn.mono ?_, by omega, by rw [mn_pl hr]; omega⟩
  · rw [dv_mn_iff hr, dv_step]; exact hd E hE
  · show _ ≤ 18 * gcb 44 j + 16
    omega
theorem GcSt.end_ {F0 G0 F G : Nat → Rat} {j : Nat} (h : GcSt F0 G0 j F G) (h0 : G = pz) : IsG F0 G0 (mn F) := by
  obtain ⟨hF, hG, hd, _⟩ := h
  subst h0
  exact (IsG.zero hF).of hd
/-- What a division in a round asks. -/
theorem GcSt.room {F0 G0 F G : Nat → Rat} {j : Nat} (h : GcSt F0 G0 j F G) (h0 : G ≠ pz) : j ≤ 6 ∧ gcb 44 j + (pl F + 2) * (gcb 44 j + 1) + 2 * gcb 44 j + 2 ≤ 68719476736 ∧ pl (pr F G) ≤ 6 ∧ CD (9 * gcb 44 j + 8) (pr F G) := by
  obtain ⟨hF, hG, hd, cF, cG, lF, lG⟩ := h
  have hp := pl_pos hG h0
  have hs := pl_le (pr_sup hF hG h0)
  have c1 := CD.pr (n := 8) ((pl_sup hF).mono (by omega)) hG h0 cF cG
  have h6 : gcb 44 j ≤ gcb 44 6 := gcb_mono (by omega)
  have h7 : gcb 44 6 = 1528549360 := rfl
  have h8 : (pl F + 2) * (gcb 44 j + 1) ≤ 9 * (gcb 44 j + 1) := Nat.mul_le_mul_right _ (by omega)
  exact ⟨by omega, by omega, by omega, c1.mono (by omega)⟩
end Go.Hp
namespace Go.Hp
theorem pone_sup : Sup 1 pone := (Sup.pz 0).cs 1
theorem pone_fin : Fin_ pone := ⟨1, pone_sup⟩
theorem CD.pone : CD 3 pone := by
  have := CD.pz.cs 1
  have e : qsz (1 : Rat) = 1 := by decide
  rw [e] at this; exact this
/-- The steps of Horner's rule: what stands behind the coefficient at i. -/
def hor (F : Nat → Rat) (x : Rat) (n i : Nat) : Rat := evn (n - i) (fun j => F (i + j)) x
end Go.Hp
namespace Go.Hp
def xgb : Nat → Nat
  | 0 => 22
  | 1 => 22
  | j + 2 => xgb j + 8 * (xgb (j + 1) + 1)
def xgq (j : Nat) : Nat := 1 + 8 * (xgb j + 8 * (xgb (j + 1) + 1) + xgb (j + 1) + 1)
def xga : Nat → Nat
  | 0 => 3
  | 1 => 3
  | j + 2 => xga j + (xgq j + xga (j + 1) + 1) + 1
theorem xgb_le : ∀ j, xgb j ≤ xgb (j + 1)
  | 0 => Nat.le_refl _
  | j + 1 => by show _ ≤ xgb j + 8 * (xgb (j + 1) + 1); omega
theorem xga_le : ∀ j, xga j ≤ xga (j + 1)
  | 0 => Nat.le_refl _
  | j + 1 => by show _ ≤ xga j + (xgq j + xga (j + 1) + 1) + 1; omega
theorem mono_of {f : Nat → Nat} (h : ∀ j, f j ≤ f (j + 1)) {i j : Nat} (k : i ≤ j) : f i ≤ f j := by
  induction j with
  | zero => obtain rfl : i = 0 := by omega
            exact Nat.le_refl _
  | succ j ih =>
    rcases Nat.eq_or_lt_of_le k with e | e
    · rw [e]; exact Nat.le_refl _
    · exact Nat.le_trans (ih (by omega)) (h j)
theorem xgb7 : xgb 7 = 7310526 := rfl
theorem xga7 : xga 7 = 76218651 := rfl
def XgSt (F0 G0 : Nat → Rat) (j : Nat) (R S U N : Nat → Rat) : Prop :=
  (Fin_ R ∧ Fin_ S ∧ Fin_ U ∧ Fin_ N) ∧ (∀ E, Fin_ E → (Dv E R ∧ Dv E S ↔ Dv E F0 ∧ Dv E G0)) ∧
  (∃ V W, Fin_ V ∧ Fin_ W ∧ pad (cv U F0) (cv V G0) = R ∧ pad (cv N F0) (cv W G0) = S) ∧
  (CD (xgb j) R ∧ CD (xgb (j + 1)) S ∧ CD (xga j) U ∧ CD (xga (j + 1)) N) ∧ pl R ≤ 7 ∧ pl S + j ≤ 7 ∧ pl G0 ≤ 7 ∧
  ((j = 0 ∧ U = pone ∧ N = pz ∧ S = G0) ∨ (1 ≤ j ∧ pl N + pl R ≤ pl G0 + 1 ∧ pl U + pl R ≤ pl G0 + 1 ∧ pl S ≤ pl R ∧ R ≠ pz))
theorem XgSt.start {F G : Nat → Rat} (hF : Fin_ F) (hG : Fin_ G) (cF : CD 22 F) (cG : CD 22 G) (lF : pl F ≤ 7) (lG : pl G ≤ 7) : XgSt F G 0 F G pone pz :=
  ⟨⟨hF, hG, pone_fin, Fin_.pz⟩, fun _ _ => Iff.rfl, ⟨pz, pone, Fin_.pz, pone_fin, by rw [pone_cv, pz_cv]; funext n; simp only [pad, pz]; grind, by rw [pone_cv, pz_cv]; funext n; simp only [pad, pz]; grind⟩,
    ⟨cF, cG, CD.pone, CD.pz.mono (by show 1 ≤ 3; omega)⟩, lF, lG, lG, .inl ⟨rfl, rfl, rfl, rfl⟩⟩
theorem XgSt.step {F0 G0 R S U N : Nat → Rat} {j : Nat} (h : XgSt F0 G0 j R S U N) (h0 : S ≠ pz) : XgSt F0 G0 (j + 1) S (pr R S) N (psb U (cv (pq R S) N)) := by
  obtain ⟨⟨hR, hS, hU, hN⟩, hd, ⟨V, W, hV, hW, e1, e2⟩, ⟨cR, cS, cU, cN⟩, lR, lS, lG, hj⟩ := h
  have hp := pl_pos hS h0
  have hs := pl_le (pr_sup hR hS h0)
  have hR8 : Sup (8 + pl S - 1) R := (pl_sup hR).mono (by omega)
  have q8 := pq_sup hR8 hS h0
  have hq := pq_fin R S
  have c1 := CD.pr hR8 hS h0 cR cS
  have c2 := CD.pq hR8 hS h0 cR cS
  refine ⟨⟨hS, pr_fin hR hS, hN, hU.psb (hq.cv hN)⟩, fun E hE => by rw [dv_step]; exact hd E hE, ⟨W, psb V (cv (pq R S) W), hW, hV.psb (hq.cv hW), e2, ?_⟩,
    ⟨cS, c1, cN, cU.psb (CD.cv q8 (by omega) c2 cN)⟩, by omega, by omega, lG, .inr ?_⟩
  · show _ = psb R (cv (pq R S) S)
    rw [psb_cv, psb_cv, cv_assoc, cv_assoc, ← e2, cv_pad]
    conv => rhs; rw [← e1]
    funext n; simp only [pad, psb]; grind
  · rcases hj with ⟨rfl, rfl, rfl, rfl⟩ | ⟨hj, d1, d2, d3, d4⟩
    · have e : psb pone (cv (pq R S) pz) = pone := by rw [cv_pz]; funext n; simp only [psb, pz]; grind
      have l1 := pl_le pone_sup
      rw [e, pl_pz]
      exact ⟨by omega, by omega, by omega, by omega, h0⟩
    · have q1 := pq_sup (n := pl R - pl S + 1) ((pl_sup hR).mono (by omega)) hS h0
      have l1 : pl (psb U (cv (pq R S) N)) ≤ pl G0 + 1 - pl S := pl_le (((pl_sup hU).mono (by omega)).psb ((q1.cv (pl_sup hN)).mono (by omega)))
      exact ⟨by omega, by omega, by omega, by omega, h0⟩
/-- What a division in a round asks. -/
theorem XgSt.room {F0 G0 R S U N : Nat → Rat} {j : Nat} (h : XgSt F0 G0 j R S U N) (h0 : S ≠ pz) : j ≤ 6 ∧ xgb j ≤ 7310526 ∧ xgb (j + 1) ≤ 7310526 ∧ xga j ≤ 76218651 ∧ xga (j + 1) ≤ 76218651 ∧ Sup 8 (pq R S) ∧ pl N ≤ 8 ∧ (∀ i, qsz (pq R S i) ≤ 73105268) ∧
    xgb j + (pl R + 2) * (xgb (j + 1) + 1) + 2 * xgb (j + 1) + 2 ≤ 68719476736 ∧ (∀ i, qsz (cv (pq R S) N i) ≤ 661060805) ∧ pl U ≤ 8 := by
  obtain ⟨⟨hR, hS, hU, hN⟩, hd, -, ⟨cR, cS, cU, cN⟩, lR, lS, lG, hj⟩ := h
  have hp := pl_pos hS h0
  have hR8 : Sup (8 + pl S - 1) R := (pl_sup hR).mono (by omega)
  have q8 := pq_sup hR8 hS h0
  have b1 : xgb j ≤ 7310526 := by rw [← xgb7]; exact mono_of xgb_le (by omega)
  have b2 : xgb (j + 1) ≤ 7310526 := by rw [← xgb7]; exact mono_of xgb_le (by omega)
  have a1 : xga j ≤ 76218651 := by rw [← xga7]; exact mono_of xga_le (by omega)
  have a2 : xga (j + 1) ≤ 76218651 := by rw [← xga7]; exact mono_of xga_le (by omega)
  have c2 := CD.pq hR8 hS h0 cR cS
  have c3 := CD.cv q8 (by omega) c2 cN
  have h8 : (pl R + 2) * (xgb (j + 1) + 1) ≤ 9 * (xgb (j + 1) + 1) := Nat.mul_le_mul_right _ (by omega)
  have lN : pl N ≤ 8 ∧ pl U ≤ 8 := by
    rcases hj with ⟨rfl, rfl, rfl, rfl⟩ | ⟨hj, d1, d2, d3, d4⟩
    · have := pl_le pone_sup
      rw [pl_pz]; omega
    · omega
  refine ⟨by omega, b1, b2, a1, a2, q8, lN.1, fun i => ?_, by omega, fun i => ?_, lN.2⟩
  · have := pq_qsz hR8 hS h0 cR cS i; omega
  · have := c3.elem i; omega
/-- What comes out. -/
theorem XgSt.end_ {F0 G0 R S U N : Nat → Rat} {j : Nat} (h : XgSt F0 G0 j R S U N) (h0 : S = pz) (hF : Fin_ F0) (hG : Fin_ G0) (hg : G0 ≠ pz) (cF : CD 22 F0) (cG : CD 22 G0) (lF : pl F0 ≤ 7) :
    R ≠ pz ∧ CD 7310526 R ∧ CD 14621052 (mn R) ∧ CD 76218651 U ∧ CD 83529177 (psc (1 / ld R) U) ∧ pl U ≤ 7 ∧ 1 ≤ pl R ∧ pl R ≤ 7 ∧
    pq G0 (mn R) ≠ pz ∧ CD 1052715993 (pq G0 (mn R)) ∧ pl (pq G0 (mn R)) ≤ 7 ∧
    CD 8505257129 (pr (psc (1 / ld R) U) (pq G0 (mn R))) ∧ pl (pr (psc (1 / ld R) U) (pq G0 (mn R))) ≤ 7 ∧
    CD 8519878205 (psb (mn R) (cv (pr (psc (1 / ld R) U) (pq G0 (mn R))) F0)) ∧ pl (psb (mn R) (cv (pr (psc (1 / ld R) U) (pq G0 (mn R))) F0)) ≤ 14 ∧
    (∀ i, qsz (pq (psb (mn R) (cv (pr (psc (1 / ld R) U) (pq G0 (mn R))) F0)) G0 i) ≤ 8519878572) ∧
    IsX F0 G0 (mn R) (pr (psc (1 / ld R) U) (pq G0 (mn R))) (pq (psb (mn R) (cv (pr (psc (1 / ld R) U) (pq G0 (mn R))) F0)) G0) := by
  subst h0
  obtain ⟨⟨hR, hS, hU, hN⟩, hd, ⟨V, W, hV, hW, e1, e2⟩, ⟨cR, cS, cU, cN⟩, lR, lS, lG, hj⟩ := h
  rcases hj with ⟨rfl, rfl, rfl, e⟩ | ⟨hj, d1, d2, d3, d4⟩
  · exact absurd e.symm hg
  have pR := pl_pos hR d4
  have cR' : CD 7310526 R := cR.mono (by rw [← xgb7]; exact mono_of xgb_le (by omega))
  have cU' : CD 76218651 U := cU.mono (by rw [← xga7]; exact mono_of xga_le (by omega))
  have hD := mn_fin hR
  have cD : CD 14621052 (mn R) := cR'.mn.mono (by omega)
  have hI : IsG F0 G0 (mn R) := (IsG.zero hR).of hd
  have hD0 := mn_ne hR d4
  have lD := mn_pl hR
  obtain ⟨A, hA, eA⟩ := hI.2.2.1
  obtain ⟨Q, hQ, eQ⟩ := hI.2.2.2.1
  have hper : pq G0 (mn R) = Q := by
    have := (pq_mul hQ hD hD0).1
    rw [← eQ] at this; exact this
  have hQ0 : Q ≠ pz := fun e => hg (by rw [eQ, e, pz_cv])
  have lQ : pl G0 = pl Q + pl (mn R) - 1 := by rw [eQ]; exact pl_cv hQ hD hQ0 hD0
  have pQ := pl_pos hQ hQ0
  have cQ : CD 1052715993 Q := by
    rw [← hper]
    exact (CD.pq (n := 8) ((pl_sup hG).mono (by omega)) hD hD0 cG cD).mono (by omega)
  have c1 : qsz (1 / ld R) ≤ 7310526 := by
    have e : 1 / ld R = (ld R)⁻¹ := by rw [Rat.div_def, Rat.one_mul]
    rw [e]; exact Nat.le_trans (qsz_inv _) (cR'.elem _)
  have cU1 : CD 83529177 (psc (1 / ld R) U) := (cU'.psc _).mono (by omega)
  have hU1 : Fin_ (psc (1 / ld R) U) := hU.psc _
  have lU1 : pl (psc (1 / ld R) U) ≤ 7 := Nat.le_trans (pl_le ((pl_sup hU).psc _)) (by omega)
  rw [hper]
  obtain ⟨U1, hU1e⟩ : ∃ U1, U1 = psc (1 / ld R) U := ⟨_, rfl⟩
  rw [← hU1e] at cU1 hU1 lU1 ⊢
  have hU2 := pr_fin hU1 hQ
  have cU2 : CD 8505257129 (pr U1 Q) := (CD.pr (n := 8) ((pl_sup hU1).mono (by omega)) hQ hQ0 cU1 cQ).mono (by omega)
  have sU2 := pr_sup hU1 hQ hQ0
  have lU2 := pl_le sU2
  have cX : CD 8519878205 (psb (mn R) (cv (pr U1 Q) F0)) := (cD.psb (CD.cv sU2 (by omega) cU2 cF)).mono (by omega)
  have hX : Fin_ (psb (mn R) (cv (pr U1 Q) F0)) := hD.psb (hU2.cv hF)
  have lX : pl (psb (mn R) (cv (pr U1 Q) F0)) ≤ 14 := pl_le (((pl_sup hD).mono (by omega)).psb (((pl_sup hU2).cv (pl_sup hF)).mono (by omega)))
  have key : psb (mn R) (cv (pr U1 Q) F0) = cv (pad (psc (1 / ld R) V) (cv (pq U1 Q) A)) G0 := by
    have k1 : cv (pr U1 Q) F0 = psb (cv U1 F0) (cv (cv (pq U1 Q) Q) F0) := by
      unfold pr; rw [psb_cv]
    have k2 : cv (cv (pq U1 Q) Q) F0 = cv (cv (pq U1 Q) A) G0 := by
      rw [cv_assoc, cv_assoc]
      congr 1
      conv => lhs; rw [eA]
      conv => rhs; rw [eQ]
      rw [← cv_assoc, ← cv_assoc, cv_comm Q A]
    have k3 : mn R = pad (cv U1 F0) (cv (psc (1 / ld R) V) G0) := by
      rw [hU1e, psc_cv, psc_cv]
      show psc (1 / ld R) R = _
      conv => lhs; rw [← e1]
      funext n; simp only [pad, psc]; grind
    rw [k1, k2, pad_cv]
    conv => lhs; rw [k3]
    funext n; simp only [pad, psb]; grind
  have hB : Fin_ (pad (psc (1 / ld R) V) (cv (pq U1 Q) A)) := (hV.psc _).pad ((pq_fin _ _).cv hA)
  have hV2 : pq (psb (mn R) (cv (pr U1 Q) F0)) G0 = pad (psc (1 / ld R) V) (cv (pq U1 Q) A) := by
    rw [key]; exact (pq_mul hB hG hg).1
  refine ⟨d4, cR', cD, cU', cU1, by omega, pR, lR, hQ0, cQ, by omega, cU2, by omega, cX, lX, fun i => ?_, hI, hU2, pq_fin _ _, ?_, sU2.mono (by omega)⟩
  · have := pq_qsz (n := 15) ((pl_sup hX).mono (by omega)) hG hg cX cG i
    omega
  · rw [hV2, ← key]
    funext n; simp only [pad, psb]; grind
end Go.Hp
namespace Go.Hp
open Go.RowKit
end Go.Hp
namespace Go.Proofs.YtedoifjbgokmcaaGreat
open Go.RowKit Go.Hp
theorem lead_rp (v : Value) (l : List Rat) (w : World) (hv : HsV 0 w v l) (hn : l.length ≤ 1099511627776) : Calls Tryz.prog 69 #[v] w (Gives w fun r w' => IsQ w' r (ld (co l))) := by
  have HV := Lib.hid hv
  obtain ⟨A, c, rfl⟩ := hv.len
  have hple := pl_le (co_sup l)
  have H := Lib.hid (show ∀ w1, Ext w w1 → Calls Tryz.prog 53 #[.slice A l.length c, .int .i64 ((pl (co l) : Int) - 1)] w1 (Gives w1 fun r w' => IsQ w' r (ld (co l))) by
    intro w1 e
    by_cases h0 : pl (co l) = 0
    · have : co l = pz := (pl_zero (Fin_.co l)).1 h0
      have e2 : ld (co l) = 0 := by rw [this]; rfl
      rw [h0, e2]
      exact at_neg _ l w1 (HV.out.ext e)
    · have e2 : ((pl (co l) : Int) - 1) = ((pl (co l) - 1 : Nat) : Int) := by omega
      rw [e2]
      exact at_rp _ l (pl (co l) - 1) w1 (HV.out.ext e) (by omega))
  clear hv
  go_enter Tryz.func69, Tryz.ntmps69
  go_wp2_with fail
  refine Calls.mono (degree_rp _ l _ (HV.out.ext ((Ext.refl w).alloc _)) hn) ?_
  rintro e w1 ⟨r, rfl, rfl, hx1⟩
  go_wp2_with fail
  refine Calls.mono (H.out _ hx1.a1) ?_
  rintro e w2 ⟨r, rfl, hr, hx2⟩
  replace hx1 := hx1.trans hx2
  clear hx2
  obtain ⟨b5, A5, n5, c5, b6, A6, n6, c6, rfl⟩ := hr.cells
  have hc1 := hx1.cells
  have hf1 := hx1.frozens
  have Hfin := Lib.hid (fin_q hr hx1.a1 (NoDig.at_ hx1 (g := w.heap.size + 0) (by simp) (by simp [isDig])) (by omega))
  clear hr
  go_wp2
  refine bodyPost_ret (v := .agg #[.bool b5, .slice A5 n5 c5, .bool b6, .slice A6 n6 c6]) (by simp [results, Tryz.results69, go_sem, hc1]) rfl ?_
  exact Hfin.out
theorem monic_rp (v : Value) (l : List Rat) (s : Nat) (w : World) (hv : HsV 0 w v l) (hs : ∀ i, qsz (co l i) ≤ s) (hst : 2 * s + 1 ≤ 274877906944) (hn : l.length ≤ 549755813888) : Calls Tryz.prog 68 #[v] w (Gives w fun r w' => IsP w.heap.size w' r (mn (co l))) := by
  have HV := Lib.hid hv
  obtain ⟨A, c, rfl⟩ := hv.len
  clear hv
  have HS := Lib.hid hs; clear hs
  go_enter Tryz.func68, Tryz.ntmps68
  go_wp2_with fail
  refine Calls.mono (of_rq 1 _ (by omega) (by omega)) ?_
  rintro e w1 ⟨r1, rfl, hr1, hx1⟩
  have Hr1 := Lib.hid hr1; clear hr1
  go_wp2_with fail
  refine Calls.mono (lead_rp _ l _ (HV.out.ext hx1) (by omega)) ?_
  rintro e w2 ⟨r2, rfl, hr2, hx2⟩
  have Hr2 := Lib.hid hr2; clear hr2
  have hq : qsz (ld (co l)) ≤ s := HS.out _
  have h1 : qsz (((1 : Int) : Rat)) = 1 := by decide
  have H1 := Lib.hid (And.intro hq h1); clear hq h1
  go_wp2_with fail
  refine Calls.mono (ratio_rq _ _ _ _ _ ((Hr1.out.ext hx2).has (by rw [H1.out.2]; omega)) (Hr2.out.has (by have := H1.out.1; omega))) ?_
  rintro e w3 ⟨r3, rfl, hr3, hx3⟩
  have Hr3 := Lib.hid hr3; clear hr3
  have hq3 := qsz_div ((1 : Int) : Rat) (ld (co l))
  have Hq3 := Lib.hid (show qsz (((1 : Int) : Rat) / ld (co l)) ≤ s + 1 by rw [H1.out.2] at hq3; have := H1.out.1; omega)
  clear hq3
  replace hx1 := (hx1.trans hx2).trans hx3
  go_wp2_with fail
  refine Calls.mono (scale_rp _ _ l _ s _ (HV.out.ext hx1) (Hr3.out.has (by have := Hq3.out; omega)) HS.out (by have := Hq3.out; omega) hn) ?_
  rintro e w4 ⟨r4, rfl, hr4, hx4⟩
  have hsz := hx1.size
  have Hr4 := Lib.hid hr4; clear hr4
  go_wp2
  go_ret
  exact Gives.mk (Hr4.out.base_le (by omega)) (hx1.trans hx4)
/-! ### over polynomials -/
theorem add_rP (v u : Value) (F G : Nat → Rat) (s t : Nat) (w : World) (hv : IsP 0 w v F) (hu : IsP 0 w u G) (hs : ∀ i, qsz (F i) ≤ s) (ht : ∀ i, qsz (G i) ≤ t) (hst : s + t + 1 ≤ 274877906944) (hn : pl F ≤ 274877906944) (hm : pl G ≤ 274877906944) :
    Calls Tryz.prog 22 #[v, u] w (Gives w fun r w' => IsP w.heap.size w' r (pad F G)) := by
  obtain ⟨l, h1, h2, h3, rfl⟩ := hv.hs (fun i => by have := hs i; omega)
  obtain ⟨m, k1, k2, k3, rfl⟩ := hu.hs (fun i => by have := ht i; omega)
  exact add_rp v u l m s t w h1 k1 hs ht hst (by omega) (by omega)
theorem sub_rP (v u : Value) (F G : Nat → Rat) (s t : Nat) (w : World) (hv : IsP 0 w v F) (hu : IsP 0 w u G) (hs : ∀ i, qsz (F i) ≤ s) (ht : ∀ i, qsz (G i) ≤ t) (hst : s + t + 2 ≤ 274877906944) (hn : pl F ≤ 274877906944) (hm : pl G ≤ 274877906944) :
    Calls Tryz.prog 24 #[v, u] w (Gives w fun r w' => IsP w.heap.size w' r (psb F G)) := by
  obtain ⟨l, h1, h2, h3, rfl⟩ := hv.hs (fun i => by have := hs i; omega)
  obtain ⟨m, k1, k2, k3, rfl⟩ := hu.hs (fun i => by have := ht i; omega)
  exact sub_rp v u l m s t w h1 k1 hs ht hst (by omega) (by omega)
theorem mul_rP (v u : Value) (F G : Nat → Rat) (s t : Nat) (w : World) (hv : IsP 0 w v F) (hu : IsP 0 w u G) (hs : ∀ i, qsz (F i) ≤ s) (ht : ∀ i, qsz (G i) ≤ t) (hn : pl F ≤ 274877906944) (hm : pl G ≤ 274877906944) (h0 : s ≤ 274877906944) (h00 : t ≤ 274877906944) (hst : 1 + (pl F + pl G) * (s + t + 1) ≤ 274877906944) :
    Calls Tryz.prog 26 #[v, u] w (Gives w fun r w' => IsP w.heap.size w' r (cv F G)) := by
  obtain ⟨l, h1, h2, h3, rfl⟩ := hv.hs (fun i => by have := hs i; omega)
  obtain ⟨m, k1, k2, k3, rfl⟩ := hu.hs (fun i => by have := ht i; omega)
  rw [← h2, ← k2] at hst
  exact mul_rp v u l m s t w h1 k1 hs ht hst (by omega) (by omega)
theorem scale_rP (v u : Value) (F : Nat → Rat) (ra : Rat) (s : Nat) (w : World) (hv : IsP 0 w v F) (hu : HasQ w u ra) (hs : ∀ i, qsz (F i) ≤ s) (hst : s + qsz ra ≤ 274877906944) (hn : pl F ≤ 274877906944) :
    Calls Tryz.prog 28 #[v, u] w (Gives w fun r w' => IsP w.heap.size w' r (psc ra F)) := by
  obtain ⟨l, h1, h2, h3, rfl⟩ := hv.hs (fun i => by have := hs i; omega)
  exact scale_rp v u l ra s w h1 hu hs hst (by omega)
theorem monic_rP (v : Value) (F : Nat → Rat) (s : Nat) (w : World) (hv : IsP 0 w v F) (hs : ∀ i, qsz (F i) ≤ s) (hst : 2 * s + 1 ≤ 274877906944) (hn : pl F ≤ 274877906944) :
    Calls Tryz.prog 68 #[v] w (Gives w fun r w' => IsP w.heap.size w' r (mn F)) := by
  obtain ⟨l, h1, h2, h3, rfl⟩ := hv.hs (fun i => by have := hs i; omega)
  exact monic_rp v l s w h1 hs hst (by omega)
theorem divide_rP (v u : Value) (F G : Nat → Rat) (s t : Nat) (w : World) (hv : IsP 0 w v F) (hu : IsP 0 w u G) (h0 : G ≠ pz) (hF : CD s F) (hG : CD t G) (hn : pl F ≤ 274877906944) (hm : pl G ≤ 274877906944) (hK : s + (pl F + 2) * (t + 1) + 2 * t + 2 ≤ 274877906944) :
    Calls Tryz.prog 70 #[v, u] w (Gives w fun r w' => ∃ a b, r = .tuple #[a, b] ∧ IsP w.heap.size w' a (pq F G) ∧ IsP w.heap.size w' b (pr F G)) := by
  obtain ⟨l, h1, h2, h3, rfl⟩ := hv.hs (fun i => by have := hF.elem i; have h : 0 < (pl F + 2) * (t + 1) := Nat.mul_pos (by omega) (by omega); omega)
  obtain ⟨m, k1, k2, k3, rfl⟩ := hu.hs (fun i => by have := hG.elem i; omega)
  exact divide_rp v u l m s t w h1 k1 h0 hF hG (by omega) (by omega) hK
end Go.Proofs.YtedoifjbgokmcaaGreat
namespace Go.Proofs.YtedoifjbgokmcaaGreat
open Go.RowKit Go.Hp
theorem normal_p (v : Value) (l : List Rat) (w : World) (hv : HsV 0 w v l) (hn : l.length ≤ 1099511627776) : Calls Tryz.prog 18 #[v] w (Gives w fun r w' => IsP w.heap.size w' r (co l)) :=
  Gives.imp (normal_qs v l w hv hn) fun _ _ h => IsP.of_trim h rfl
theorem degree_p (v : Value) (l : List Rat) (w : World) (hv : HsV 0 w v l) (hn : l.length ≤ 1099511627776) : Calls Tryz.prog 20 #[v] w (Gives w fun r _ => r = .int .i64 ((pl (co l) : Int) - 1)) := by
  have HV := Lib.hid hv
  obtain ⟨A, c, rfl⟩ := hv.len
  clear hv
  have hpl : pl (co l) ≤ l.length := pl_le (co_sup l)
  go_enter Tryz.func20, Tryz.ntmps20
  go_wp2_with fail
  refine Calls.mono (normal_p _ l _ HV.out hn) ?_
  rintro e w1 ⟨r, rfl, hr, hx1⟩
  obtain ⟨A2, c2, l2, rfl, -⟩ := hr.form
  clear hr
  go_wp2
  go_ret
  exact Gives.mk rfl hx1
set_option maxRecDepth 20000 in
set_option maxHeartbeats 1000000 in
theorem monic_p (v : Value) (F : Nat → Rat) (s : Nat) (w : World) (hv : IsP 0 w v F) (hF : CD s F) (hs : 2 * s ≤ 274877906944) (hl : pl F ≤ 274877906944) : Calls Tryz.prog 47 #[v] w (Gives w fun r w' => IsP w.heap.size w' r (mn F)) := by
  have hf := hv.fin
  by_cases h0 : F = pz
  · obtain ⟨A, c, l, rfl, k1, k2, -⟩ := hv.form
    clear hv hf hF
    rw [h0, pl_pz] at k1 ⊢
    have H0 := Lib.hid h0; clear h0
    have b0 : (((0 : Nat) : Int) == 0) = true := rfl
    go_enter Tryz.func47, Tryz.ntmps47
    go_wp2
    go_ret
    rw [mn_pz]
    exact Gives.mk (IsP.nil _ _) (Ext.refl _)
  have hp := pl_pos hf h0
  have hld := ld_ne hf h0
  obtain ⟨l0, h1, h2, h3, h4⟩ := hv.hs (fun i => by have := hF.elem i; omega)
  have H1 := Lib.hid (And.intro h1 (And.intro h2 h4)); clear h1 h2 h3 h4
  obtain ⟨A, c, l, rfl, k1, k2, hA, k3, k4, k5⟩ := hv.form
  have HA := Lib.hid hA; clear hv hA
  obtain ⟨g, o, b, A1, n, c1, b', A1', n', c1', rfl, _, q0, q1, q2, q3, hq⟩ := HA.out.at_ (j := pl F - 1) (by omega)
  rw [← co_lt, k5] at hq
  have Hq := Lib.hid (hq.has (by have := hF.elem (pl F - 1); omega)); clear hq
  have HX := Lib.hid (And.intro hF (And.intro hf hld)); clear hF hf hld k3 k4 k5
  have b0 : ((pl F : Int) == 0) = false := by simp; omega
  have H0 := Lib.hid h0; clear h0
  obtain ⟨c0, hc0⟩ : ∃ c0, c0 = 1 / ld F := ⟨_, rfl⟩
  have Hc0 := Lib.hid hc0; clear hc0
  go_enter Tryz.func47, Tryz.ntmps47
  go_wp2_with fail
  go_cut [3] (fun pv wx => ∃ gc, pv = .pointer (some ⟨gc, 0, none⟩) ∧ BoxQ wx gc 40 c0 ∧ Ext w wx)
  case first =>
    refine wp_region_late (k := 12) (ℓ := 10) (nl := 1) (D := [9, 10, 11, 12, 13, 14, 15, 16, 8, 17, 18, 3]) (T := [[], [], [], [2], [2, 3], [1, 2, 3, 4], [1, 2, 3, 4, 5], [0, 1, 2, 3, 4, 5, 6], [0, 1, 2, 3, 4, 5, 6, 7], [0, 1, 2, 3, 4, 5, 6, 7, 8], [0, 1, 2, 3, 4, 5, 6, 7, 8], [], [0, 1, 2, 3, 4, 5, 6, 7, 8, 9, 11], [0, 1, 2, 3, 4, 5, 6, 7, 8, 9, 10, 11, 12]]) (EK := [0]) (EV := [?e1x0]) (VL := [(fun γ => γ 0), (kv ?v1x1), (kv ?v1x2), (kv ?v1x3), (kv ?v1x4), (kv ?v1x5), (kv ?v1x6), (fun γ => γ 7), (fun γ => γ 7), (fun γ => γ 9), (kv ?v1x10), (fun γ => γ 11)]) (FL := fun γ w' => [IsQ w' (γ 0) ((1 : Int) : Rat), True, True, True, True, True, True, TupQ w' (γ 7) c0, True, IsQ w' (γ 9) c0, True, NewAt w' (γ 11) w.heap.size #[.bool false, .slice none 0 0, .bool false, .slice none 0 0] 40]) _ rfl ?hE1 (by kernel_rfl) (by kernel_rfl) (by kernel_rfl) (by kernel_rfl) (by kernel_rfl) (by rfl) (by kernel_rfl) ?hloc1 ?hmono1 ?hstep1 ?htail1 ?hlate1
    case hE1 => refine ⟨?_, trivial⟩ <;> (simp only [List.getElem?_toArray, List.getElem?_cons_succ, List.getElem?_cons_zero]; rfl)
    case hstep1 =>
      refine ⟨⟨⟨⟨⟨⟨⟨⟨⟨⟨⟨⟨trivial, ?_⟩, ?_⟩, ?_⟩, ?_⟩, ?_⟩, ?_⟩, ?_⟩, ?_⟩, ?_⟩, ?_⟩, ?_⟩, ?_⟩
      · intro γ w' he hf; clear hf; refine ⟨trivial, ?_⟩; intro R hR
        go_simp
        refine Calls.mono (show Calls _ _ _ w' (Gives w' fun r w'' => IsQ w'' (r) ((1 : Int) : Rat)) from of_q 1 w' (by omega) (by omega)) ?_
        rintro e w2 ⟨v, rfl, hv, hx⟩
        exact ⟨v, rfl, hR v w2 hx rfl hv⟩
      · intro γ w' he hf; clear hf; refine ⟨trivial, ?_⟩; intro R hR
        have hc := he.cells
        go_simp
        (try go_ints); (try (rw [if_neg (by omega)])); (try (rw [if_pos (by omega)])); (try go_simp); (try go_ints)
        refine hR _ _ (Ext.refl _) ?_ trivial
        rfl
      · intro γ w' he hf; clear hf; refine ⟨trivial, ?_⟩; intro R hR
        have hc := he.cells
        go_simp
        (try go_ints); (try (rw [if_neg (by omega)])); (try (rw [if_pos (by omega)])); (try go_simp); (try go_ints)
        refine hR _ _ (Ext.refl _) ?_ trivial
        rfl
      · intro γ w' he hf; clear hf; refine ⟨trivial, ?_⟩; intro R hR
        have hc := he.cells
        go_simp
        (try go_ints); (try (rw [if_neg (by omega)])); (try (rw [if_pos (by omega)])); (try go_simp); (try go_ints)
        refine hR _ _ (Ext.refl _) ?_ trivial
        rfl
      · intro γ w' he hf; clear hf; refine ⟨trivial, ?_⟩; intro R hR
        have hc := he.cells
        go_simp
        (try go_ints); (try (rw [if_neg (by omega)])); (try (rw [if_pos (by omega)])); (try go_simp); (try go_ints)
        refine hR _ _ (Ext.refl _) ?_ trivial
        rfl
      · intro γ w' he hf; clear hf; refine ⟨trivial, ?_⟩; intro R hR
        have hc := he.cells
        go_simp
        (try go_ints); (try (rw [if_neg (by omega)])); (try (rw [if_pos (by omega)])); (try go_simp); (try go_ints)
        refine hR _ _ (Ext.refl _) ?_ trivial
        rfl
      · intro γ w' he hf; clear hf; refine ⟨trivial, ?_⟩; intro R hR
        have hc := he.cells
        have cq0 := he.cell q0
        have cq1 := he.cell q1
        have cq2 := he.cell q2
        have cq3 := he.cell q3
        go_simp
        (try go_ints); (try (rw [if_neg (by omega)])); (try (rw [if_pos (by omega)])); (try go_simp); (try go_ints)
        refine hR _ _ (Ext.refl _) ?_ trivial
        rfl
      · intro γ w' he hf; have f0 : IsQ w' (γ 0) ((1 : Int) : Rat) := hf 0 (by decide); clear hf; refine ⟨trivial, ?_⟩; intro R hR
        go_simp
        refine Calls.mono (show Calls _ _ _ w' (Gives w' fun r w'' => TupQ w'' (r) c0) from Hc0.out ▸ quo_q _ _ _ _ w' (f0.has (by decide)) (Hq.out.ext he) HX.out.2.2) ?_
        rintro e w2 ⟨v, rfl, hv, hx⟩
        exact ⟨v, rfl, hR v w2 hx rfl hv⟩
      · intro γ w' he hf; have f0 : IsQ w' (γ 0) ((1 : Int) : Rat) := hf 0 (by decide); have f7 : TupQ w' (γ 7) c0 := hf 7 (by decide); clear hf; refine ⟨trivial, ?_⟩; intro R hR
        have hc := he.cells
        go_simp
        (try go_ints); (try (rw [if_neg (by omega)])); (try (rw [if_pos (by omega)])); (try go_simp); (try go_ints)
        refine hR _ _ (Ext.refl _) ?_ trivial
        rfl
      · intro γ w' he hf; have f0 : IsQ w' (γ 0) ((1 : Int) : Rat) := hf 0 (by decide); have f7 : TupQ w' (γ 7) c0 := hf 7 (by decide); clear hf; refine ⟨trivial, ?_⟩; intro R hR
        obtain ⟨a, e, ha⟩ := f7
        go_simp
        exact hR _ _ (Ext.refl _) rfl ha
      · intro γ w' he hf; have f0 : IsQ w' (γ 0) ((1 : Int) : Rat) := hf 0 (by decide); have f7 : TupQ w' (γ 7) c0 := hf 7 (by decide); clear hf; refine ⟨trivial, ?_⟩; intro R hR
        obtain ⟨a, e, ha⟩ := f7
        have hc := he.cells
        go_simp
        (try go_ints); (try (rw [if_neg (by omega)])); (try (rw [if_pos (by omega)])); (try go_simp); (try go_ints)
        refine hR _ _ (Ext.refl _) ?_ trivial
        rfl
      · intro γ w' he hf; clear hf; refine ⟨trivial, ?_⟩; intro R hR
        go_simp
        exact hR _ _ ((Ext.refl _).alloc _) rfl (NewAt.mk (Nat.le_trans (by simp) he.size) (by simp [isDig]))
    case hloc1 =>
      exact ⟨⟨⟨⟨⟨⟨⟨⟨⟨⟨⟨⟨trivial, (fun γ γ' h => ⟨h 0 rfl, fun w' => (congrArg (fun a => IsQ w' (a) ((1 : Int) : Rat)) (h 0 rfl))⟩)⟩, (fun γ γ' h => ⟨rfl, fun _ => rfl⟩)⟩, (fun γ γ' h => ⟨rfl, fun _ => rfl⟩)⟩, (fun γ γ' h => ⟨rfl, fun _ => rfl⟩)⟩, (fun γ γ' h => ⟨rfl, fun _ => rfl⟩)⟩, (fun γ γ' h => ⟨rfl, fun _ => rfl⟩)⟩, (fun γ γ' h => ⟨rfl, fun _ => rfl⟩)⟩, (fun γ γ' h => ⟨h 7 rfl, fun w' => (congrArg (fun a => TupQ w' (a) c0) (h 7 rfl))⟩)⟩, (fun γ γ' h => ⟨(congrArg (fun a => a) (h 7 rfl)), fun _ => rfl⟩)⟩, (fun γ γ' h => ⟨h 9 rfl, fun w' => (congrArg (fun a => IsQ w' (a) c0) (h 9 rfl))⟩)⟩, (fun γ γ' h => ⟨rfl, fun _ => rfl⟩)⟩, (fun γ γ' h => ⟨h 11 rfl, fun w' => (congrArg (fun a => NewAt w' (a) w.heap.size #[.bool false, .slice none 0 0, .bool false, .slice none 0 0] 40) (h 11 rfl))⟩)⟩
    case hmono1 =>
      exact ⟨⟨⟨⟨⟨⟨⟨⟨⟨⟨⟨⟨trivial, (fun γ wA w' e h => (show IsQ wA (γ 0) ((1 : Int) : Rat) from h).ext e)⟩, (fun γ wA w' e h => h)⟩, (fun γ wA w' e h => h)⟩, (fun γ wA w' e h => h)⟩, (fun γ wA w' e h => h)⟩, (fun γ wA w' e h => h)⟩, (fun γ wA w' e h => h)⟩, (fun γ wA w' e h => (show TupQ wA (γ 7) c0 from h).ext e)⟩, (fun γ wA w' e h => h)⟩, (fun γ w w' e h => IsQ.ext h e)⟩, (fun γ wA w' e h => h)⟩, (fun γ wA w' e h => (show NewAt wA (γ 11) w.heap.size #[.bool false, .slice none 0 0, .bool false, .slice none 0 0] 40 from h).ext e)⟩
    case hlate1 =>
      intro γ w2 hx2 hF
      have p0 : IsQ w2 (γ 0) ((1 : Int) : Rat) := (Each.get hF 0 (by decide)).resolve_left (by decide)
      have p7 : TupQ w2 (γ 7) c0 := (Each.get hF 7 (by decide)).resolve_left (by decide)
      have p9 : IsQ w2 (γ 9) c0 := (Each.get hF 9 (by decide)).resolve_left (by decide)
      have p11 : NewAt w2 (γ 11) w.heap.size #[.bool false, .slice none 0 0, .bool false, .slice none 0 0] 40 := (Each.get hF 11 (by decide)).resolve_left (by decide)
      clear hF
      simp only [fillAll, gV, kv, List.getD_cons_zero, List.getD_cons_succ, Act.put, List.setIfInBounds_toArray, List.set_cons_zero, List.set_cons_succ, List.toList_toArray, List.drop_succ_cons, List.drop_zero, List.drop_nil, Nat.zero_add, Nat.reduceAdd, lateP, Array.getD_eq_getD_getElem?, List.getElem?_toArray, List.getElem?_cons_succ, List.getElem?_cons_zero, Option.getD_some]
      generalize γ 0 = g0 at *
      generalize γ 7 = g7 at *
      generalize γ 9 = g9 at *
      generalize γ 11 = g11 at *
      clear γ
      obtain ⟨a7, rfl, -⟩ := p7
      obtain ⟨gc, rfl, hgc, ec⟩ := p11
      obtain ⟨b5, A5, n5, c5, b6, A6, n6, c6, rfl⟩ := p9.cells
      clear q0 q1 q2 q3 p0
      obtain ⟨cec0, cec1, cec2, cec3⟩ := ec.cells4
      have fec := ec.frozen
      go_wp2
      refine ⟨?_, trivial⟩
      go_wp2
      skip
      obtain ⟨W4, eW, ec', U⟩ := ec.put4 (.bool b5) (.slice A5 n5 c5) (.bool b6) (.slice A6 n6 c6) rfl rfl rfl rfl
      rw [← eW]
      clear eW ec
      replace p9 := p9.kd U.kd
      replace hx2 := U.from_ hx2 (by simp <;> omega)
      have ec := ec'
      clear U ec'
      go_meet
      case rel => exact ⟨gc, rfl, BoxQ.mk ec p9, hx2⟩
    intro γ w2 hx2 hF
    have p0 : IsQ w2 (γ 0) ((1 : Int) : Rat) := Each.get hF 0 (by decide)
    have p7 : TupQ w2 (γ 7) c0 := Each.get hF 7 (by decide)
    have p9 : IsQ w2 (γ 9) c0 := Each.get hF 9 (by decide)
    have p11 : NewAt w2 (γ 11) w.heap.size #[.bool false, .slice none 0 0, .bool false, .slice none 0 0] 40 := Each.get hF 11 (by decide)
    clear hF
    simp only [fillAll, gV, kv, List.getD_cons_zero, List.getD_cons_succ, Act.put, List.setIfInBounds_toArray, List.set_cons_zero, List.set_cons_succ, List.toList_toArray, List.drop_succ_cons, List.drop_zero, List.drop_nil, Nat.zero_add, Nat.reduceAdd]
    generalize γ 0 = g0 at *
    generalize γ 7 = g7 at *
    generalize γ 9 = g9 at *
    generalize γ 11 = g11 at *
    clear γ
    obtain ⟨a7, rfl, -⟩ := p7
    obtain ⟨gc, rfl, hgc, ec⟩ := p11
    obtain ⟨b5, A5, n5, c5, b6, A6, n6, c6, rfl⟩ := p9.cells
    clear q0 q1 q2 q3 p0
    obtain ⟨cec0, cec1, cec2, cec3⟩ := ec.cells4
    have fec := ec.frozen
    go_wp2
    skip
    obtain ⟨W4, eW, ec', U⟩ := ec.put4 (.bool b5) (.slice A5 n5 c5) (.bool b6) (.slice A6 n6 c6) rfl rfl rfl rfl
    rw [← eW]
    clear eW ec
    replace p9 := p9.kd U.kd
    replace hx2 := U.from_ hx2 (by simp <;> omega)
    have ec := ec'
    clear U ec'
    go_meet
    case rel => exact ⟨gc, rfl, BoxQ.mk ec p9, hx2⟩
  case rest =>
    clear q0 q1 q2 q3
    obtain ⟨gc, rfl, ⟨b5, A5, n5, c5, b6, A6, n6, c6, ec, hq⟩, hx⟩ := hcut
    have Hqq := Lib.hid (hq.has (show qsz c0 ≤ 274877906944 by
      have e : c0 = (ld F)⁻¹ := by rw [Hc0.out, Rat.div_def, Rat.one_mul]
      have h1 : qsz (ld F) ≤ s := HX.out.1.elem _
      have h2 := qsz_inv (ld F)
      rw [e]; omega)); clear hq
    obtain ⟨cec0, cec1, cec2, cec3⟩ := ec.cells4
    have fec := ec.frozen
    have hl0 : l0.length ≤ 1099511627776 := by rw [H1.out.2.1]; omega
    go_wp2_with fail
    refine Calls.mono (scale_p _ _ l0 c0 _ (H1.out.1.ext hx) Hqq.out hl0) ?_
    rintro e w3 ⟨r3, rfl, hr3, hx3⟩
    have hsz := hx.size
    have Hr := Lib.hid hr3; clear hr3
    go_wp2
    go_ret
    refine Gives.mk ?_ (hx.trans hx3)
    have := Hr.out.base_le (b := w.heap.size) (by omega)
    rw [H1.out.2.2, Hc0.out] at this
    exact this
set_option maxHeartbeats 1000000 in
theorem divmod_p (v u : Value) (l m : List Rat) (s t : Nat) (w : World) (hv : HsV 0 w v l) (hu : HsV 0 w u m) (h0 : co m ≠ pz) (hF : CD s (co l)) (hG : CD t (co m)) (hn : l.length ≤ 274877906944) (hm : m.length ≤ 274877906944) (hK : s + (pl (co l) + 2) * (t + 1) + 2 * t + 2 ≤ 274877906944) :
    Calls Tryz.prog 45 #[v, u] w (Gives w fun r w' => ∃ a b, r = .tuple #[a, b, .int .i64 0] ∧ IsP w.heap.size w' a (pq (co l) (co m)) ∧ IsP w.heap.size w' b (pr (co l) (co m))) := by
  have HV := Lib.hid hv; have HU := Lib.hid hu
  obtain ⟨A, c, rfl⟩ := hv.len
  obtain ⟨E, d, rfl⟩ := hu.len
  clear hv hu
  have hp0 := pl_le (co_sup l)
  have HX := Lib.hid (And.intro h0 (And.intro hF (And.intro hG (And.intro hK (pl_pos (Fin_.co m) h0))))); clear h0 hF hG hK
  go_enter Tryz.func45, Tryz.ntmps45
  go_wp2_with fail
  refine Calls.mono (normal_p _ m _ HU.out (by omega)) ?_
  rintro e w1 ⟨r1, rfl, hr1, hx1⟩
  have Hr1 := Lib.hid hr1
  obtain ⟨A1, c1, l1, rfl, k1, k2, -⟩ := hr1.form
  have b0 : ((pl (co m) : Int) == 0) = false := by have := HX.out.2.2.2.2; simp; omega
  clear hr1
  go_wp2_with fail
  refine Calls.mono (normal_p _ l _ (HV.out.ext hx1) (by omega)) ?_
  rintro e w2 ⟨r2, rfl, hr2, hx2⟩
  have Hr2 := Lib.hid hr2; clear hr2
  go_wp2_with fail
  refine Calls.mono (divide_p _ _ (co l) (co m) s t _ (Hr2.out.base_le (Nat.zero_le _)) ((Hr1.out.ext hx2).base_le (Nat.zero_le _)) HX.out.1 HX.out.2.1 HX.out.2.2.1 (by omega) HX.out.2.2.2.1) ?_
  rintro e w3 ⟨r3, rfl, ⟨a, b, rfl, ha, hb⟩, hx3⟩
  have Hab := Lib.hid (And.intro ha hb); clear ha hb
  have s1 := hx1.size
  have s2 := hx2.size
  go_wp2
  go_ret3
  exact Gives.mk ⟨_, _, rfl, Hab.out.1.base_le (by omega), Hab.out.2.base_le (by omega)⟩ ((hx1.trans hx2).trans hx3)
end Go.Proofs.YtedoifjbgokmcaaGreat
namespace Go.Hp
open Go.RowKit
theorem OwnQ.at_ {base n c : Nat} {e : TypeId} {w : World} {A : Option Addr} {l : List Rat} (h : OwnQ base e w (.slice A n c) l) {j : Nat} (hj : j < l.length) :
    ∃ g o b A1 n c b' A1' n' c', A = some ⟨g, o, none⟩ ∧ base ≤ g ∧ w.cell? ⟨g, o + j * 4, none⟩ = some (.bool b) ∧ w.cell? ⟨g, o + j * 4 + 1, none⟩ = some (.slice A1 n c) ∧ w.cell? ⟨g, o + j * 4 + 2, none⟩ = some (.bool b') ∧ w.cell? ⟨g, o + j * 4 + 3, none⟩ = some (.slice A1' n' c') ∧ IsQ w (.agg #[.bool b, .slice A1 n c, .bool b', .slice A1' n' c']) l[j] := by
  obtain ⟨A', c', e1, h2, h3, h4⟩ := OwnQ.row h
  cases e1
  exact QsAt.at_ h4 hj
theorem OwnQ.shape {base : Nat} {e : TypeId} {w : World} {v : Value} {l : List Rat} (h : OwnQ base e w v l) : ∃ A c, v = .slice A l.length c ∧ l.length ≤ c ∧ c ≤ 9223372036854775807 := by
  obtain ⟨A', c', e1, h2, h3, h4⟩ := OwnQ.row h
  exact ⟨A', c', e1, h2, h3⟩
theorem map_get {F : Nat → Rat} {n j : Nat} (h : j < ((List.range n).map F).length) : ((List.range n).map F)[j] = F j := by simp
end Go.Hp
namespace Go.Proofs.YtedoifjbgokmcaaGreat
open Go.RowKit Go.Hp
set_option maxRecDepth 20000 in
set_option maxHeartbeats 8000000 in
theorem powersums_p (v : Value) (l : List Rat) (n s : Nat) (w : World) (hv : HsV 0 w v l) (h0 : co l ≠ pz) (hl : l.length ≤ 274877906944) (hn : n ≤ 64) (hC : CD s (co l)) (hs : 64 * (2 * s + 1) + 2 * s + 10 ≤ 274877906944) :
    Calls Tryz.prog 10 #[v, .int .i64 n] w (Gives w fun r w' => ∃ a, r = .tuple #[a, .int .i64 0] ∧ QsV w.heap.size w' a ((List.range n).map fun k => pws (pl (co l) - 1) (co l) (k + 1))) := by
  have HV := Lib.hid hv
  obtain ⟨A, c, rfl⟩ := hv.len
  clear hv
  have hp := pl_pos (Fin_.co l) h0
  have hple := pl_le (co_sup l)
  have b0 : ((pl (co l) : Int) == 0) = false := by simp; omega
  have hf := Fin_.co l
  have hM1 : mn (co l) (pl (co l) - 1) = 1 := by have := mn_ld hf h0; unfold ld at this; rw [mn_pl hf] at this; exact this
  have hi : 1 / ld (co l) ≠ 0 := inv_ne (ld_ne hf h0)
  have hS : ∀ k, pws (pl (co l) - 1) (co l) k = pws (pl (co l) - 1) (mn (co l)) k := fun k => (pws_psc (ld_ne hf h0) hi k).symm
  rw [show (fun k => pws (pl (co l) - 1) (co l) (k + 1)) = fun k => pws (pl (co l) - 1) (mn (co l)) (k + 1) from funext fun k => hS (k + 1)]
  have hcM := hC.mn
  have hpM := mn_pl hf
  have hsM : Sup (pl (co l)) (mn (co l)) := by rw [← mn_pl hf]; exact pl_sup (mn_fin hf)
  obtain ⟨M, hMe⟩ : ∃ M, M = mn (co l) := ⟨_, rfl⟩
  have hmon := fun (w1 : World) (r1 : Value) (h : IsP 0 w1 r1 (co l)) => monic_p r1 (co l) s w1 h hC (by omega) (by omega)
  rw [← hMe] at hM1 hcM hpM hsM hmon ⊢
  have Hmon := Lib.hid hmon
  clear hmon hMe hS hi hf h0 hC
  obtain ⟨d, hd⟩ : ∃ d, pl (co l) = d + 1 := ⟨pl (co l) - 1, by omega⟩
  rw [hd, Nat.add_sub_cancel] at hM1 ⊢
  rw [hd] at b0 hpM hsM hple
  have hcR : CD (2 * s) (rv d M) := hcM.rv d
  have hM0 : M d ≠ 0 := by rw [hM1]; decide
  have hQ : ∀ k, k ≤ 64 → qsz (pws d M k) ≤ 64 * (2 * s + 1) + 1 ∧ ∀ j, j ≤ k → qsz (nwt (rv d M) (pws d M) k j) ≤ 64 * (2 * s + 1) + 1 := newton_qsz hcR (pws_zero hM0) (fun k => newton hM1 k)
  have HQ := Lib.hid hQ; clear hQ hcR
  have HX := Lib.hid (And.intro hM1 (And.intro hcM (And.intro hpM hsM))); clear hM1 hcM hpM hsM hM0
  have Hd := Lib.hid hd; clear hd hp
  have hd40 : d ≤ 274877906944 := by omega
  have hs' : 64 * (2 * s + 1) + 2 * s + 10 ≤ 274877906944 := hs
  clear hs
  go_enter Tryz.func10, Tryz.ntmps10
  go_wp2_with fail
  refine Calls.mono (normal_p _ l _ HV.out (by omega)) ?_
  rintro e w1 ⟨r1, rfl, hr1, hx1⟩
  have Hr1 := Lib.hid hr1
  obtain ⟨A1, c1, l1, rfl, k1, k2, -⟩ := hr1.form
  clear hr1
  rw [Hd.out] at Hr1 k1 ⊢
  go_wp2_with fail
  refine Calls.mono (Hmon.out _ _ (Hr1.out.base_le (Nat.zero_le _))) ?_
  rintro e w2 ⟨r2, rfl, hr2, hx2⟩
  replace hx1 := hx1.trans hx2
  obtain ⟨A3, c3, lM, rfl, k3, k4, hA, k5, k6, k7⟩ := hr2.form
  rw [HX.out.2.2.1] at k3 k5 ⊢
  have HA := Lib.hid (And.intro hA (And.intro k5 k7))
  have HW := Lib.hid hx1
  clear hx1 hx2 hr2 hA k5 k6 k7 Hr1 Hmon HV
  obtain ⟨wb, hwb⟩ : ∃ wb : World, wb = w2 := ⟨_, rfl⟩
  subst hwb
  go_wp2
  go_loopw [7, 8] (fun ov iv wr => ∃ (k : Nat), 1 ≤ k ∧ k ≤ n + 1 ∧ iv = .int .i64 k ∧ OwnQ wb.heap.size 40 wr ov ((List.range (k - 1)).map fun j => pws d M (j + 1)) ∧ Ext wb wr) (fun _ iv _ => n + 1 - (intOf iv).toNat)
  case atStart => exact ⟨1, by omega, by omega, rfl, OwnR.nil _ _ _ _ _, Ext.refl _⟩
  case round =>
    obtain ⟨k, hk1, hk, rfl, hown, hx⟩ := hrel
    by_cases hkn : k ≤ n
    · obtain ⟨A2, c2, e2, k8, k9⟩ := hown.shape
      rw [range_len] at e2 k8
      subst e2
      have Hown0 := Lib.hid hown; clear hown
      go_wp2_with fail
      refine Calls.mono (of_q 0 _ (by omega) (by omega)) ?_
      rintro e w3 ⟨r3, rfl, hr3, hx3⟩
      obtain ⟨b5, A5, n5, c5, b6, A6, n6, c6, rfl⟩ := hr3.cells
      have hown := Hown0.out.ext hx3
      have Hbk := Lib.hid (fun g hg => (OwnR.blk_ge hown g hg).2)
      replace hx := hx.trans hx3
      clear hx3 Hown0
      go_upto_region 13 with (fail)
      obtain ⟨W9, eW9, e9, x9⟩ := Box.made w3 40 #[.bool b5, .slice A5 n5 c5, .bool b6, .slice A6 n6 c6] (by simp [isDig])
      rw [← eW9]
      clear eW9
      have eb := BoxQ.mk e9 (hr3.ext x9)
      replace hown := OwnQ.ext hown x9
      have Hsz9 := Lib.hid hx.size
      replace hx := hx.trans x9
      have Hown := Lib.hid hown
      clear x9 hr3 e9 hown
      generalize w3.heap.size = gb at *
      go_wp2
      go_loopw [10] (fun iv wx => ∃ (i : Nat), 1 ≤ i ∧ i ≤ k ∧ i ≤ d + 1 ∧ iv = .int .i64 i ∧ BoxQ wx gb 40 (nwt (rv d M) (pws d M) k i) ∧ OwnQ wb.heap.size 40 wx (.slice A2 (k - 1) c2) ((List.range (k - 1)).map fun j => pws d M (j + 1)) ∧ Ext wb wx) (fun iv _ => k - (intOf iv).toNat)
      case atStart => exact ⟨1, by omega, by omega, by omega, rfl, by rw [nwt_one]; exact eb, Hown.out, hx⟩
      case round =>
        clear eb hx Hown
        obtain ⟨i, hi1, hik, hid, rfl, e9, hown, hx⟩ := hrel
        have Hown := Lib.hid hown; clear hown
        by_cases hin : i < k ∧ i ≤ d
        · obtain ⟨hin1, hin2⟩ := hin
          obtain ⟨g, o, b, B1, n1, d1, b', B1', n1', d1', rfl, _, q0, q1, q2, q3, hqa⟩ := HA.out.1.at_ (j := d - i) (by rw [HA.out.2.1]; omega)
          obtain ⟨g', o', bb, B2, n2, d2, bb', B2', n2', d2', rfl, _, r0, r1, r2, r3, hqb'⟩ := Hown.out.at_ (j := k - i - 1) (by rw [range_len]; omega)
          rw [← co_lt, HA.out.2.2] at hqa
          rw [map_get] at hqb'
          have e1 : ((d : Int) - i) = ((d - i : Nat) : Int) := by omega
          have e2 : k - i - 1 + 1 = k - i := by omega
          rw [e2] at hqb'
          clear e2 e1
          replace q0 := hx.cell q0
          replace q1 := hx.cell q1
          replace q2 := hx.cell q2
          replace q3 := hx.cell q3
          have Hqa := Lib.hid (hqa.ext hx); have Hqb := Lib.hid hqb'; clear hqa hqb'
          obtain ⟨z1, Z1, zn, zc, z2, Z2, zn', zc', ez, hz⟩ := e9
          have Hz := Lib.hid hz; clear hz
          have HR := Lib.hid (show qsz (M (d - i)) ≤ 2 * s ∧ qsz (pws d M (k - i)) ≤ 64 * (2 * s + 1) + 1 ∧ qsz (nwt (rv d M) (pws d M) k i) ≤ 64 * (2 * s + 1) + 1 ∧ qsz (M (d - i) * pws d M (k - i)) ≤ 274877906944 by
            have h1 := HX.out.2.1.elem (d - i)
            have h2 := (HQ.out (k - i) (by omega)).1
            have h3 := (HQ.out k (by omega)).2 i hik
            have h4 := qsz_mul (M (d - i)) (pws d M (k - i))
            exact ⟨h1, h2, h3, by omega⟩)
          obtain ⟨cez0, cez1, cez2, cez3⟩ := ez.cells4
          have fez := ez.frozen
          go_wp2_with fail
          refine wp_region_par (k := 16) (D := [43, 44, 45, 46, 47, 48, 49, 50, 51, 52, 53, 54, 55, 56, 57, 58]) (T := [[], [], [], [], [2, 3], [1, 2, 3, 4], [1, 2, 3, 4, 5], [], [], [], [8, 9], [8, 9, 10], [7, 8, 9, 10, 11], [7, 8, 9, 10, 11, 12], [1, 2, 3, 4, 5, 6, 7, 8, 9, 10, 11, 12, 13], [0, 1, 2, 3, 4, 5, 6, 7, 8, 9, 10, 11, 12, 13, 14], [0, 1, 2, 3, 4, 5, 6, 7, 8, 9, 10, 11, 12, 13, 14, 15]]) (EK := [9, 0, 6, 10, 7, 8]) (EV := [?e1x0, ?e1x1, ?e1x2, ?e1x3, ?e1x4, ?e1x5]) (VL := [(kv ?v1x0), (kv ?v1x1), (kv ?v1x2), (kv ?v1x3), (kv ?v1x4), (kv ?v1x5), (kv ?v1x6), (kv ?v1x7), (kv ?v1x8), (kv ?v1x9), (kv ?v1x10), (kv ?v1x11), (kv ?v1x12), (kv ?v1x13), (fun γ => γ 14), (fun γ => γ 15)]) (FL := fun γ w' => [True, True, True, True, True, True, True, True, True, True, True, True, True, True, IsQ w' (γ 14) (M (d - i) * pws d M (k - i)), IsQ w' (γ 15) (nwt (rv d M) (pws d M) k i - M (d - i) * pws d M (k - i))]) ?hE1 (by kernel_rfl) (by kernel_rfl) (by rfl) (by kernel_rfl) ?hloc1 ?hmono1 ?hstep1 ?htail1
          case hE1 => refine ⟨?_, ?_, ?_, ?_, ?_, ?_, trivial⟩ <;> (simp only [List.getElem?_toArray, List.getElem?_cons_succ, List.getElem?_cons_zero]; rfl)
          case hstep1 =>
            refine ⟨⟨⟨⟨⟨⟨⟨⟨⟨⟨⟨⟨⟨⟨⟨⟨trivial, ?_⟩, ?_⟩, ?_⟩, ?_⟩, ?_⟩, ?_⟩, ?_⟩, ?_⟩, ?_⟩, ?_⟩, ?_⟩, ?_⟩, ?_⟩, ?_⟩, ?_⟩, ?_⟩
            · intro γ w' he hf; clear hf; refine ⟨trivial, ?_⟩; intro R hR
              have hc := he.cells
              have cq0 := he.cell cez0
              have cq1 := he.cell cez1
              have cq2 := he.cell cez2
              have cq3 := he.cell cez3
              have cq4 := he.cell q0
              have cq5 := he.cell q1
              have cq6 := he.cell q2
              have cq7 := he.cell q3
              have cq8 := he.cell r0
              have cq9 := he.cell r1
              have cq10 := he.cell r2
              have cq11 := he.cell r3
              go_simp
              (try go_ints); (try (rw [if_neg (by omega)])); (try (rw [if_pos (by omega)])); (try go_simp); (try go_ints)
              refine hR _ _ (Ext.refl _) ?_ trivial
              rfl
            · intro γ w' he hf; clear hf; refine ⟨trivial, ?_⟩; intro R hR
              have hc := he.cells
              go_simp
              (try go_ints); (try (rw [if_neg (by omega)])); (try (rw [if_pos (by omega)])); (try go_simp); (try go_ints)
              refine hR _ _ (Ext.refl _) ?_ trivial
              rfl
            · intro γ w' he hf; clear hf; refine ⟨trivial, ?_⟩; intro R hR
              have hc := he.cells
              go_simp
              (try go_ints); (try (rw [if_neg (by omega)])); (try (rw [if_pos (by omega)])); (try go_simp); (try go_ints)
              refine hR _ _ (Ext.refl _) ?_ trivial
              rfl
            · intro γ w' he hf; clear hf; refine ⟨trivial, ?_⟩; intro R hR
              have hc := he.cells
              go_simp
              (try go_ints); (try (rw [if_neg (by omega)])); (try (rw [if_pos (by omega)])); (try go_simp); (try go_ints)
              refine hR _ _ (Ext.refl _) ?_ trivial
              rfl
            · intro γ w' he hf; clear hf; refine ⟨trivial, ?_⟩; intro R hR
              have hc := he.cells
              go_simp
              (try go_ints); (try (rw [if_neg (by omega)])); (try (rw [if_pos (by omega)])); (try go_simp); (try go_ints)
              refine hR _ _ (Ext.refl _) ?_ trivial
              rfl
            · intro γ w' he hf; clear hf; refine ⟨trivial, ?_⟩; intro R hR
              have hc := he.cells
              go_simp
              (try go_ints); (try (rw [if_neg (by omega)])); (try (rw [if_pos (by omega)])); (try go_simp); (try go_ints)
              refine hR _ _ (Ext.refl _) ?_ trivial
              rfl
            · intro γ w' he hf; clear hf; refine ⟨trivial, ?_⟩; intro R hR
              have hc := he.cells
              have cq0 := he.cell cez0
              have cq1 := he.cell cez1
              have cq2 := he.cell cez2
              have cq3 := he.cell cez3
              have cq4 := he.cell q0
              have cq5 := he.cell q1
              have cq6 := he.cell q2
              have cq7 := he.cell q3
              have cq8 := he.cell r0
              have cq9 := he.cell r1
              have cq10 := he.cell r2
              have cq11 := he.cell r3
              go_simp
              (try go_ints); (try (rw [if_neg (by omega)])); (try (rw [if_pos (by omega)])); (try go_simp); (try go_ints)
              refine hR _ _ (Ext.refl _) ?_ trivial
              rfl
            · intro γ w' he hf; clear hf; refine ⟨trivial, ?_⟩; intro R hR
              have hc := he.cells
              go_simp
              (try go_ints); (try (rw [if_neg (by omega)])); (try (rw [if_pos (by omega)])); (try go_simp); (try go_ints)
              refine hR _ _ (Ext.refl _) ?_ trivial
              rfl
            · intro γ w' he hf; clear hf; refine ⟨trivial, ?_⟩; intro R hR
              have hc := he.cells
              go_simp
              (try go_ints); (try (rw [if_neg (by omega)])); (try (rw [if_pos (by omega)])); (try go_simp); (try go_ints)
              refine hR _ _ (Ext.refl _) ?_ trivial
              rfl
            · intro γ w' he hf; clear hf; refine ⟨trivial, ?_⟩; intro R hR
              have hc := he.cells
              go_simp
              (try go_ints); (try (rw [if_neg (by omega)])); (try (rw [if_pos (by omega)])); (try go_simp); (try go_ints)
              refine hR _ _ (Ext.refl _) ?_ trivial
              rfl
            · intro γ w' he hf; clear hf; refine ⟨trivial, ?_⟩; intro R hR
              have hc := he.cells
              go_simp
              (try go_ints); (try (rw [if_neg (by omega)])); (try (rw [if_pos (by omega)])); (try go_simp); (try go_ints)
              refine hR _ _ (Ext.refl _) ?_ trivial
              rfl
            · intro γ w' he hf; clear hf; refine ⟨trivial, ?_⟩; intro R hR
              have hc := he.cells
              go_simp
              (try go_ints); (try (rw [if_neg (by omega)])); (try (rw [if_pos (by omega)])); (try go_simp); (try go_ints)
              refine hR _ _ (Ext.refl _) ?_ trivial
              rfl
            · intro γ w' he hf; clear hf; refine ⟨trivial, ?_⟩; intro R hR
              have hc := he.cells
              go_simp
              (try go_ints); (try (rw [if_neg (by omega)])); (try (rw [if_pos (by omega)])); (try go_simp); (try go_ints)
              refine hR _ _ (Ext.refl _) ?_ trivial
              rfl
            · intro γ w' he hf; clear hf; refine ⟨trivial, ?_⟩; intro R hR
              have hc := he.cells
              have cq0 := he.cell cez0
              have cq1 := he.cell cez1
              have cq2 := he.cell cez2
              have cq3 := he.cell cez3
              have cq4 := he.cell q0
              have cq5 := he.cell q1
              have cq6 := he.cell q2
              have cq7 := he.cell q3
              have cq8 := he.cell r0
              have cq9 := he.cell r1
              have cq10 := he.cell r2
              have cq11 := he.cell r3
              go_simp
              (try go_ints); (try (rw [if_neg (by omega)])); (try (rw [if_pos (by omega)])); (try go_simp); (try go_ints)
              refine hR _ _ (Ext.refl _) ?_ trivial
              rfl
            · intro γ w' he hf; clear hf; refine ⟨trivial, ?_⟩; intro R hR
              go_simp
              refine Calls.mono (show Calls _ _ _ w' (Gives w' fun r w'' => IsQ w'' (r) (M (d - i) * pws d M (k - i))) from mul_q _ _ _ _ w' ((Hqa.out.ext he).has (by have := HR.out.1; omega)) ((Hqb.out.ext he).has (by have := HR.out.2.1; omega))) ?_
              rintro e w2 ⟨v, rfl, hv, hx⟩
              exact ⟨v, rfl, hR v w2 hx rfl hv⟩
            · intro γ w' he hf; have f14 : IsQ w' (γ 14) (M (d - i) * pws d M (k - i)) := hf 14 (by decide); clear hf; refine ⟨trivial, ?_⟩; intro R hR
              go_simp
              refine Calls.mono (show Calls _ _ _ w' (Gives w' fun r w'' => IsQ w'' (r) (nwt (rv d M) (pws d M) k i - M (d - i) * pws d M (k - i))) from sub_q _ _ _ _ w' ((Hz.out.ext he).has (by have := HR.out.2.2.1; omega)) (f14.has HR.out.2.2.2)) ?_
              rintro e w2 ⟨v, rfl, hv, hx⟩
              exact ⟨v, rfl, hR v w2 hx rfl hv⟩
          case hloc1 =>
            exact ⟨⟨⟨⟨⟨⟨⟨⟨⟨⟨⟨⟨⟨⟨⟨⟨trivial, (fun γ γ' h => ⟨rfl, fun _ => rfl⟩)⟩, (fun γ γ' h => ⟨rfl, fun _ => rfl⟩)⟩, (fun γ γ' h => ⟨rfl, fun _ => rfl⟩)⟩, (fun γ γ' h => ⟨rfl, fun _ => rfl⟩)⟩, (fun γ γ' h => ⟨rfl, fun _ => rfl⟩)⟩, (fun γ γ' h => ⟨rfl, fun _ => rfl⟩)⟩, (fun γ γ' h => ⟨rfl, fun _ => rfl⟩)⟩, (fun γ γ' h => ⟨rfl, fun _ => rfl⟩)⟩, (fun γ γ' h => ⟨rfl, fun _ => rfl⟩)⟩, (fun γ γ' h => ⟨rfl, fun _ => rfl⟩)⟩, (fun γ γ' h => ⟨rfl, fun _ => rfl⟩)⟩, (fun γ γ' h => ⟨rfl, fun _ => rfl⟩)⟩, (fun γ γ' h => ⟨rfl, fun _ => rfl⟩)⟩, (fun γ γ' h => ⟨rfl, fun _ => rfl⟩)⟩, (fun γ γ' h => ⟨h 14 rfl, fun w' => (congrArg (fun a => IsQ w' (a) (M (d - i) * pws d M (k - i))) (h 14 rfl))⟩)⟩, (fun γ γ' h => ⟨h 15 rfl, fun w' => (congrArg (fun a => IsQ w' (a) (nwt (rv d M) (pws d M) k i - M (d - i) * pws d M (k - i))) (h 15 rfl))⟩)⟩
          case hmono1 =>
            exact ⟨⟨⟨⟨⟨⟨⟨⟨⟨⟨⟨⟨⟨⟨⟨⟨trivial, (fun γ wA w' e h => h)⟩, (fun γ wA w' e h => h)⟩, (fun γ wA w' e h => h)⟩, (fun γ wA w' e h => h)⟩, (fun γ wA w' e h => h)⟩, (fun γ wA w' e h => h)⟩, (fun γ wA w' e h => h)⟩, (fun γ wA w' e h => h)⟩, (fun γ wA w' e h => h)⟩, (fun γ wA w' e h => h)⟩, (fun γ wA w' e h => h)⟩, (fun γ wA w' e h => h)⟩, (fun γ wA w' e h => h)⟩, (fun γ wA w' e h => h)⟩, (fun γ wA w' e h => (show IsQ wA (γ 14) (M (d - i) * pws d M (k - i)) from h).ext e)⟩, (fun γ wA w' e h => (show IsQ wA (γ 15) (nwt (rv d M) (pws d M) k i - M (d - i) * pws d M (k - i)) from h).ext e)⟩
          intro γ w6 hx6 hF
          have p14 : IsQ w6 (γ 14) (M (d - i) * pws d M (k - i)) := Each.get hF 14 (by decide)
          have p15 : IsQ w6 (γ 15) (nwt (rv d M) (pws d M) k i - M (d - i) * pws d M (k - i)) := Each.get hF 15 (by decide)
          clear hF
          simp only [fillAll, gV, kv, List.getD_cons_zero, List.getD_cons_succ, Act.put, List.setIfInBounds_toArray, List.set_cons_zero, List.set_cons_succ, List.toList_toArray, List.drop_succ_cons, List.drop_zero, List.drop_nil, Nat.zero_add, Nat.reduceAdd]
          generalize γ 14 = g14 at *
          generalize γ 15 = g15 at *
          clear γ
          clear cez0 cez1 cez2 cez3 fez q0 q1 q2 q3 r0 r1 r2 r3 p14 Hz Hqa Hqb HR
          replace ez := ez.ext hx6
          replace hx := hx.trans hx6
          have hown := Hown.out.ext hx6
          clear hx6 Hown
          obtain ⟨b5, A5, n5, c5, b6, A6, n6, c6, rfl⟩ := p15.cells
          obtain ⟨cez0, cez1, cez2, cez3⟩ := ez.cells4
          have fez := ez.frozen
          go_wp2
          obtain ⟨W7, eW, ez', U⟩ := ez.put4 (.bool b5) (.slice A5 n5 c5) (.bool b6) (.slice A6 n6 c6) rfl rfl rfl rfl
          rw [← eW]
          clear eW ez cez0 cez1 cez2 cez3 fez
          replace hown := hown.off U Hbk.out
          replace hx := U.from_ hx (by have := Hsz9.out; simp; omega)
          have eq := BoxQ.mk ez' (p15.kd U.kd)
          clear U ez' p15
          have Hown := Lib.hid hown; clear hown
          go_roundw
          case rel => exact ⟨i + 1, by omega, by omega, by omega, by go_num, by rw [nwt_succ _ _ _ _ hi1, rv_at M hin2]; exact eq, Hown.out, hx⟩
          case measure => simp [intOf] <;> omega
        · have hix : i = min k (d + 1) := by omega
          have hval := newton_loop (F := M) HX.out.1 hk1 hix
          have ebx := e9
          clear e9
          have Hval := Lib.hid hval; clear hval hix
          by_cases hkd : k ≤ d
          · obtain rfl : i = k := by omega
            rw [if_pos hkd] at Hval
            obtain ⟨g, o, b, B1, n1, d1, b', B1', n1', d1', rfl, _, q0, q1, q2, q3, hqa⟩ := HA.out.1.at_ (j := d - i) (by rw [HA.out.2.1]; omega)
            rw [← co_lt, HA.out.2.2] at hqa
            replace q0 := hx.cell q0
            replace q1 := hx.cell q1
            replace q2 := hx.cell q2
            replace q3 := hx.cell q3
            have Hqa := Lib.hid (hqa.ext hx); clear hqa
            obtain ⟨z1, Z1, zn, zc, z2, Z2, zn', zc', ez, hz⟩ := ebx
            have Hz := Lib.hid hz; clear hz
            have HR := Lib.hid (show qsz (M (d - i)) ≤ 2 * s ∧ qsz ((i : Int) : Rat) ≤ 2 ∧ qsz (nwt (rv d M) (pws d M) i i) ≤ 64 * (2 * s + 1) + 1 ∧ qsz (((i : Int) : Rat) * M (d - i)) ≤ 274877906944 by
              have h1 := HX.out.2.1.elem (d - i)
              have h2 : qsz ((i : Int) : Rat) ≤ 2 := qsz_int (by omega) (by omega)
              have h3 := (HQ.out i (by omega)).2 i (Nat.le_refl _)
              have h4 := qsz_mul ((i : Int) : Rat) (M (d - i))
              exact ⟨h1, h2, h3, by omega⟩)
            obtain ⟨cez0, cez1, cez2, cez3⟩ := ez.cells4
            have fez := ez.frozen
            go_wp2_with fail
            refine wp_region_par (k := 11) (D := [62, 63, 64, 65, 66, 67, 68, 69, 70, 71, 72]) (T := [[], [], [1], [], [], [], [4, 5], [3, 4, 5, 6], [3, 4, 5, 6, 7], [1, 2, 3, 4, 5, 6, 7, 8], [0, 1, 2, 3, 4, 5, 6, 7, 8, 9], [0, 1, 2, 3, 4, 5, 6, 7, 8, 9, 10]]) (EK := [9, 8, 0, 6]) (EV := [?e2x0, ?e2x1, ?e2x2, ?e2x3]) (VL := [(kv ?v2x0), (kv ?v2x1), (fun γ => γ 2), (kv ?v2x3), (kv ?v2x4), (kv ?v2x5), (kv ?v2x6), (kv ?v2x7), (kv ?v2x8), (fun γ => γ 9), (fun γ => γ 10)]) (FL := fun γ w' => [True, True, IsQ w' (γ 2) ((i : Int) : Rat), True, True, True, True, True, True, IsQ w' (γ 9) (((i : Int) : Rat) * M (d - i)), IsQ w' (γ 10) (nwt (rv d M) (pws d M) i i - ((i : Int) : Rat) * M (d - i))]) ?hE2 (by kernel_rfl) (by kernel_rfl) (by rfl) (by kernel_rfl) ?hloc2 ?hmono2 ?hstep2 ?htail2
            case hE2 => refine ⟨?_, ?_, ?_, ?_, trivial⟩ <;> (simp only [List.getElem?_toArray, List.getElem?_cons_succ, List.getElem?_cons_zero]; rfl)
            case hstep2 =>
              refine ⟨⟨⟨⟨⟨⟨⟨⟨⟨⟨⟨trivial, ?_⟩, ?_⟩, ?_⟩, ?_⟩, ?_⟩, ?_⟩, ?_⟩, ?_⟩, ?_⟩, ?_⟩, ?_⟩
              · intro γ w' he hf; clear hf; refine ⟨trivial, ?_⟩; intro R hR
                have hc := he.cells
                have cq0 := he.cell cez0
                have cq1 := he.cell cez1
                have cq2 := he.cell cez2
                have cq3 := he.cell cez3
                have cq4 := he.cell q0
                have cq5 := he.cell q1
                have cq6 := he.cell q2
                have cq7 := he.cell q3
                go_simp
                (try go_ints); (try (rw [if_neg (by omega)])); (try (rw [if_pos (by omega)])); (try go_simp); (try go_ints)
                refine hR _ _ (Ext.refl _) ?_ trivial
                rfl
              · intro γ w' he hf; clear hf; refine ⟨trivial, ?_⟩; intro R hR
                have hc := he.cells
                go_simp
                (try go_ints); (try (rw [if_neg (by omega)])); (try (rw [if_pos (by omega)])); (try go_simp); (try go_ints)
                refine hR _ _ (Ext.refl _) ?_ trivial
                rfl
              · intro γ w' he hf; clear hf; refine ⟨trivial, ?_⟩; intro R hR
                go_simp
                refine Calls.mono (show Calls _ _ _ w' (Gives w' fun r w'' => IsQ w'' (r) ((i : Int) : Rat)) from of_q (i : Int) w' (by omega) (by omega)) ?_
                rintro e w2 ⟨v, rfl, hv, hx⟩
                exact ⟨v, rfl, hR v w2 hx rfl hv⟩
              · intro γ w' he hf; clear hf; refine ⟨trivial, ?_⟩; intro R hR
                have hc := he.cells
                go_simp
                (try go_ints); (try (rw [if_neg (by omega)])); (try (rw [if_pos (by omega)])); (try go_simp); (try go_ints)
                refine hR _ _ (Ext.refl _) ?_ trivial
                rfl
              · intro γ w' he hf; clear hf; refine ⟨trivial, ?_⟩; intro R hR
                have hc := he.cells
                go_simp
                (try go_ints); (try (rw [if_neg (by omega)])); (try (rw [if_pos (by omega)])); (try go_simp); (try go_ints)
                refine hR _ _ (Ext.refl _) ?_ trivial
                rfl
              · intro γ w' he hf; clear hf; refine ⟨trivial, ?_⟩; intro R hR
                have hc := he.cells
                go_simp
                (try go_ints); (try (rw [if_neg (by omega)])); (try (rw [if_pos (by omega)])); (try go_simp); (try go_ints)
                refine hR _ _ (Ext.refl _) ?_ trivial
                rfl
              · intro γ w' he hf; clear hf; refine ⟨trivial, ?_⟩; intro R hR
                have hc := he.cells
                go_simp
                (try go_ints); (try (rw [if_neg (by omega)])); (try (rw [if_pos (by omega)])); (try go_simp); (try go_ints)
                refine hR _ _ (Ext.refl _) ?_ trivial
                rfl
              · intro γ w' he hf; clear hf; refine ⟨trivial, ?_⟩; intro R hR
                have hc := he.cells
                go_simp
                (try go_ints); (try (rw [if_neg (by omega)])); (try (rw [if_pos (by omega)])); (try go_simp); (try go_ints)
                refine hR _ _ (Ext.refl _) ?_ trivial
                rfl
              · intro γ w' he hf; clear hf; refine ⟨trivial, ?_⟩; intro R hR
                have hc := he.cells
                have cq0 := he.cell cez0
                have cq1 := he.cell cez1
                have cq2 := he.cell cez2
                have cq3 := he.cell cez3
                have cq4 := he.cell q0
                have cq5 := he.cell q1
                have cq6 := he.cell q2
                have cq7 := he.cell q3
                go_simp
                (try go_ints); (try (rw [if_neg (by omega)])); (try (rw [if_pos (by omega)])); (try go_simp); (try go_ints)
                refine hR _ _ (Ext.refl _) ?_ trivial
                rfl
              · intro γ w' he hf; have f2 : IsQ w' (γ 2) ((i : Int) : Rat) := hf 2 (by decide); clear hf; refine ⟨trivial, ?_⟩; intro R hR
                go_simp
                refine Calls.mono (show Calls _ _ _ w' (Gives w' fun r w'' => IsQ w'' (r) (((i : Int) : Rat) * M (d - i))) from mul_q _ _ _ _ w' (f2.has (by have := HR.out.2.1; omega)) ((Hqa.out.ext he).has (by have := HR.out.1; omega))) ?_
                rintro e w2 ⟨v, rfl, hv, hx⟩
                exact ⟨v, rfl, hR v w2 hx rfl hv⟩
              · intro γ w' he hf; have f2 : IsQ w' (γ 2) ((i : Int) : Rat) := hf 2 (by decide); have f9 : IsQ w' (γ 9) (((i : Int) : Rat) * M (d - i)) := hf 9 (by decide); clear hf; refine ⟨trivial, ?_⟩; intro R hR
                go_simp
                refine Calls.mono (show Calls _ _ _ w' (Gives w' fun r w'' => IsQ w'' (r) (nwt (rv d M) (pws d M) i i - ((i : Int) : Rat) * M (d - i))) from sub_q _ _ _ _ w' ((Hz.out.ext he).has (by have := HR.out.2.2.1; omega)) (f9.has HR.out.2.2.2)) ?_
                rintro e w2 ⟨v, rfl, hv, hx⟩
                exact ⟨v, rfl, hR v w2 hx rfl hv⟩
            case hloc2 =>
              exact ⟨⟨⟨⟨⟨⟨⟨⟨⟨⟨⟨trivial, (fun γ γ' h => ⟨rfl, fun _ => rfl⟩)⟩, (fun γ γ' h => ⟨rfl, fun _ => rfl⟩)⟩, (fun γ γ' h => ⟨h 2 rfl, fun w' => (congrArg (fun a => IsQ w' (a) ((i : Int) : Rat)) (h 2 rfl))⟩)⟩, (fun γ γ' h => ⟨rfl, fun _ => rfl⟩)⟩, (fun γ γ' h => ⟨rfl, fun _ => rfl⟩)⟩, (fun γ γ' h => ⟨rfl, fun _ => rfl⟩)⟩, (fun γ γ' h => ⟨rfl, fun _ => rfl⟩)⟩, (fun γ γ' h => ⟨rfl, fun _ => rfl⟩)⟩, (fun γ γ' h => ⟨rfl, fun _ => rfl⟩)⟩, (fun γ γ' h => ⟨h 9 rfl, fun w' => (congrArg (fun a => IsQ w' (a) (((i : Int) : Rat) * M (d - i))) (h 9 rfl))⟩)⟩, (fun γ γ' h => ⟨h 10 rfl, fun w' => (congrArg (fun a => IsQ w' (a) (nwt (rv d M) (pws d M) i i - ((i : Int) : Rat) * M (d - i))) (h 10 rfl))⟩)⟩
            case hmono2 =>
              exact ⟨⟨⟨⟨⟨⟨⟨⟨⟨⟨⟨trivial, (fun γ wA w' e h => h)⟩, (fun γ wA w' e h => h)⟩, (fun γ wA w' e h => (show IsQ wA (γ 2) ((i : Int) : Rat) from h).ext e)⟩, (fun γ wA w' e h => h)⟩, (fun γ wA w' e h => h)⟩, (fun γ wA w' e h => h)⟩, (fun γ wA w' e h => h)⟩, (fun γ wA w' e h => h)⟩, (fun γ wA w' e h => h)⟩, (fun γ wA w' e h => (show IsQ wA (γ 9) (((i : Int) : Rat) * M (d - i)) from h).ext e)⟩, (fun γ wA w' e h => (show IsQ wA (γ 10) (nwt (rv d M) (pws d M) i i - ((i : Int) : Rat) * M (d - i)) from h).ext e)⟩
            intro γ w6 hx6 hF
            have p2 : IsQ w6 (γ 2) ((i : Int) : Rat) := Each.get hF 2 (by decide)
            have p9 : IsQ w6 (γ 9) (((i : Int) : Rat) * M (d - i)) := Each.get hF 9 (by decide)
            have p10 : IsQ w6 (γ 10) (nwt (rv d M) (pws d M) i i - ((i : Int) : Rat) * M (d - i)) := Each.get hF 10 (by decide)
            clear hF
            simp only [fillAll, gV, kv, List.getD_cons_zero, List.getD_cons_succ, Act.put, List.setIfInBounds_toArray, List.set_cons_zero, List.set_cons_succ, List.toList_toArray, List.drop_succ_cons, List.drop_zero, List.drop_nil, Nat.zero_add, Nat.reduceAdd]
            generalize γ 2 = g2 at *
            generalize γ 9 = g9 at *
            generalize γ 10 = g10 at *
            clear γ
            clear cez0 cez1 cez2 cez3 fez q0 q1 q2 q3 p2 p9 Hz Hqa HR
            replace ez := ez.ext hx6
            replace hx := hx.trans hx6
            have hown := Hown.out.ext hx6
            clear hx6 Hown
            obtain ⟨b5, A5, n5, c5, b6, A6, n6, c6, rfl⟩ := p10.cells
            obtain ⟨cez0, cez1, cez2, cez3⟩ := ez.cells4
            have fez := ez.frozen
            go_upto_region 19 with (fail)
            obtain ⟨W7, eW, ez', U⟩ := ez.put4 (.bool b5) (.slice A5 n5 c5) (.bool b6) (.slice A6 n6 c6) rfl rfl rfl rfl
            rw [← eW]
            clear eW ez cez0 cez1 cez2 cez3 fez
            replace hown := hown.off U Hbk.out
            replace hx := U.from_ hx (by have := Hsz9.out; simp; omega)
            have ebx := BoxQ.mk ez' (p10.kd U.kd)
            clear U ez' p10
            have Hown := Lib.hid hown; clear hown
            obtain ⟨k, rfl⟩ : ∃ k, k = i := ⟨_, rfl⟩
            have hv1 : nwt (rv d M) (pws d M) k k - ((k : Int) : Rat) * M (d - k) = pws d M (k - 1 + 1) := by rw [show k - 1 + 1 = k from by omega, Hval.out]; rfl
            have Hv1 := Lib.hid hv1; clear hv1
            obtain ⟨z1, Z1, zn, zc, z2, Z2, zn', zc', ez, hz⟩ := ebx
            have Hr := Lib.hid hz; clear hz
            obtain ⟨cez0, cez1, cez2, cez3⟩ := ez.cells4
            have fez := ez.frozen
            have hsz := hx.size
            go_wp2_with (at_builtin; refine wpList_append_run rfl _ _ 22 rfl (.slice A2 (k - 1) c2) (.slice (some ⟨W7.heap.size, 0, none⟩) 1 1) rfl rfl (append_rq W7 wb.heap.size _ _ _ _ _ Hown.out Hr.out (by first | (rw [List.length_map, List.length_range]; omega) | omega) hsz rfl) ?_)
            first | intro v' w5 hown U | rintro v' w5 ⟨hown, U⟩
            replace hx := (Hown.out.ext ((Ext.refl W7).alloc _)).from_ U (hx.alloc _) (Nat.le_refl _)
            have Hown' := Lib.hid hown; clear hown U
            go_wp2
            go_roundw
            case rel => exact ⟨k + 1, by omega, by omega, by go_num, by
              have := Hown'.out
              rw [Hv1.out, ← range_succ_map (fun j => pws d M (j + 1)), show k - 1 + 1 = k + 1 - 1 from by omega] at this
              exact this, hx⟩
            case measure => simp [intOf] <;> omega
          · rw [if_neg hkd] at Hval
            have hkd' : ¬ (k : Int) ≤ d := by omega
            have hin' : ¬ (i < k ∧ i ≤ d) := hin
            obtain rfl : i = d + 1 := by omega
            have hv1 : nwt (rv d M) (pws d M) k (d + 1) = pws d M (k - 1 + 1) := by rw [show k - 1 + 1 = k from by omega, Hval.out]
            have Hv1 := Lib.hid hv1; clear hv1 hin hin'
            by_cases hlt : d + 1 < k
            · skip
              obtain ⟨z1, Z1, zn, zc, z2, Z2, zn', zc', ez, hz⟩ := ebx
              have Hr := Lib.hid hz; clear hz
              obtain ⟨cez0, cez1, cez2, cez3⟩ := ez.cells4
              have fez := ez.frozen
              have hsz := hx.size
              go_wp2_with (at_builtin; refine wpList_append_run rfl _ _ 22 rfl (.slice A2 (k - 1) c2) (.slice (some ⟨wr.heap.size, 0, none⟩) 1 1) rfl rfl (append_rq wr wb.heap.size _ _ _ _ _ Hown.out Hr.out (by first | (rw [List.length_map, List.length_range]; omega) | omega) hsz rfl) ?_)
              first | intro v' w5 hown U | rintro v' w5 ⟨hown, U⟩
              replace hx := (Hown.out.ext ((Ext.refl wr).alloc _)).from_ U (hx.alloc _) (Nat.le_refl _)
              have Hown' := Lib.hid hown; clear hown U
              go_wp2
              go_roundw
              case rel => exact ⟨k + 1, by omega, by omega, by go_num, by
                have := Hown'.out
                rw [Hv1.out, ← range_succ_map (fun j => pws d M (j + 1)), show k - 1 + 1 = k + 1 - 1 from by omega] at this
                exact this, hx⟩
              case measure => simp [intOf] <;> omega
            · have hlt' : ¬ ((d : Int) + 1 < k) := by omega
              obtain ⟨z1, Z1, zn, zc, z2, Z2, zn', zc', ez, hz⟩ := ebx
              have Hr := Lib.hid hz; clear hz
              obtain ⟨cez0, cez1, cez2, cez3⟩ := ez.cells4
              have fez := ez.frozen
              have hsz := hx.size
              go_wp2_with (at_builtin; refine wpList_append_run rfl _ _ 22 rfl (.slice A2 (k - 1) c2) (.slice (some ⟨wr.heap.size, 0, none⟩) 1 1) rfl rfl (append_rq wr wb.heap.size _ _ _ _ _ Hown.out Hr.out (by first | (rw [List.length_map, List.length_range]; omega) | omega) hsz rfl) ?_)
              first | intro v' w5 hown U | rintro v' w5 ⟨hown, U⟩
              replace hx := (Hown.out.ext ((Ext.refl wr).alloc _)).from_ U (hx.alloc _) (Nat.le_refl _)
              have Hown' := Lib.hid hown; clear hown U
              go_wp2
              go_roundw
              case rel => exact ⟨k + 1, by omega, by omega, by go_num, by
                have := Hown'.out
                rw [Hv1.out, ← range_succ_map (fun j => pws d M (j + 1)), show k - 1 + 1 = k + 1 - 1 from by omega] at this
                exact this, hx⟩
              case measure => simp [intOf] <;> omega
    · obtain rfl : k = n + 1 := by omega
      have Hq := Lib.hid (OwnQ.row hown)
      have hsz := HW.out.size
      clear hown
      go_wp2
      go_ret2
      exact Gives.mk ⟨_, rfl, RowV.base_le Hq.out hsz⟩ (HW.out.trans hx)
end Go.Proofs.YtedoifjbgokmcaaGreat
namespace Go.Hp
open Go.RowKit
theorem IsP.upd {base : Nat} {G : List Nat} {w w' : World} {v : Value} {F : Nat → Rat} (h : IsP base w v F) (U : Upd G w w') (hG : ∀ g ∈ G, g < base) : IsP base w' v F := by
  obtain ⟨l, h1, h2, h3⟩ := h; exact ⟨l, RowV.upd h1 U hG fun _ _ q => q.kd U.kd, h2, h3⟩
end Go.Hp
namespace Go.Proofs.YtedoifjbgokmcaaGreat
open Go.RowKit Go.Hp
end Go.Proofs.YtedoifjbgokmcaaGreat
namespace Go.Hp
open Go.RowKit
end Go.Hp
namespace Go.Proofs.YtedoifjbgokmcaaGreat
open Go.RowKit Go.Hp
end Go.Proofs.YtedoifjbgokmcaaGreat
namespace Go.Hp
open Go.RowKit
/-- A new slice of one element is a row of the call's own. -/
theorem NewQ.own {w : World} {v : Value} {base : Nat} {q : Rat} {t : TypeId} (h : NewQ w v base q t) : OwnQ base t w v [q] := by
  obtain ⟨g, cs, rfl, h1, h2, h3, h4⟩ := h
  refine ⟨[cs], rfl, fun c hc => by simp at hc; subst hc; exact h3, ⟨by simp [h3], .inr ⟨g, 1, cs, rfl, h1, h2, by simp, by simp [maxLen], by simp [h3], ?_⟩⟩, fun j h h' => ?_⟩
  · simp only [List.flatMap_cons, List.flatMap_nil, List.append_nil]
    exact List.take_of_length_le (by simp [h3])
  · have : j = 0 := by simp at h; omega
    subst this; exact h4
end Go.Hp
namespace Go.Proofs.YtedoifjbgokmcaaGreat
open Go.RowKit Go.Hp
end Go.Proofs.YtedoifjbgokmcaaGreat
namespace Go.Hp
open Go.RowKit
theorem IsZ.of_one {w : World} {A : Option Addr} {c N : Nat} {b : Bool} {n : Int} (h : DigV w (.slice A 1 c) [N]) (h0 : N ≠ 0) (hn : n = if b then -(N : Int) else N) : IsZ w (.agg #[.bool b, .slice A 1 c]) n := by
  refine ⟨b, [N], ⟨_, rfl, h⟩, ?_, fun _ => by simpa using h0, fun _ => by simp⟩
  rw [hn]; unfold iv; simp [nv]
theorem IsZ.of_nil {w : World} : IsZ w (.agg #[.bool false, .slice none 0 0]) 0 := IsZ.zero w
end Go.Hp
namespace Go.Proofs.YtedoifjbgokmcaaGreat
open Go.RowKit Go.Hp
set_option maxHeartbeats 2000000 in
theorem z_b (n : Int) (w : World) (h1 : -4294967296 < n) (h2 : n < 4294967296) : Calls Tryz.prog 96 #[.int .i64 n] w (Gives w fun r w' => IsZ w' r n) := by
  go_enter Tryz.func96, Tryz.ntmps96
  by_cases hneg : n < 0
  · have hb : decide (n < 0) = true := by simpa using hneg
    have Hw := Lib.hid (wrap_neg (x := n) (by omega) hneg)
    obtain ⟨N, hN⟩ : ∃ N, N = n.natAbs := ⟨_, rfl⟩
    have HN := Lib.hid hN
    have hNb : N < 4294967296 := by omega
    clear hN
    go_wp2
    obtain ⟨W9, eW9, e9, x9⟩ := Box.made (w.alloc (.cells #[.bool false, .slice none 0 0] 38)) 38 #[.bool true, .slice none 0 0] (by simp [isDig])
    rw [← eW9]
    clear eW9
    rw [World.size_alloc] at e9
    go_loopw [3] (fun uv wx => ∃ m : Nat, uv = .int .u64 m ∧ m < 4294967296 ∧ ((m = N ∧ Box wx (w.heap.size + 1) 38 #[.bool true, .slice none 0 0]) ∨ (m = 0 ∧ N ≠ 0 ∧ ∃ A c, Box wx (w.heap.size + 1) 38 #[.bool true, .slice A 1 c] ∧ DigV wx (.slice A 1 c) [N])) ∧ Ext (w.alloc (.cells #[.bool false, .slice none 0 0] 38)) wx) (fun uv _ => (intOf uv).toNat)
    case atStart => exact ⟨N, by rw [Hw.out, HN.out], hNb, .inl ⟨rfl, e9⟩, x9⟩
    case round =>
      clear e9 x9
      obtain ⟨m, rfl, hm, hst, hx⟩ := hrel
      by_cases h0 : m = 0
      · have hr : ∃ A k c, Box wr (w.heap.size + 1) 38 #[.bool true, .slice A k c] ∧ IsZ wr (.agg #[.bool true, .slice A k c]) n := by
          rcases hst with ⟨e, hb⟩ | ⟨_, hne, A, c, hb, hd⟩
          · exact ⟨_, _, _, hb, by have h3 := HN.out; omega⟩
          · exact ⟨_, _, _, hb, IsZ.of_one hd hne (by have h3 := HN.out; (simp; omega))⟩
        obtain ⟨A5, n5, c5, ez, hr⟩ := hr
        have H0 := Lib.hid h0; clear h0
        have Hr := Lib.hid hr; clear hr hst
        have hm0 : ¬ (0 < (m : Int)) := by have := H0.out; omega
        obtain ⟨cez0, cez1⟩ := ez.cells2
        have fez := ez.frozen
        have hx1 := hx
        clear hx
        have hc1 := hx1.cells
        have hf1 := hx1.frozens
        have Hfin := Lib.hid (fin_z Hr.out hx1.a1 (NoDig.at_ hx1 (g := w.heap.size + 0) (by simp) (by simp [isDig])) (by omega))
        go_wp2
        refine bodyPost_ret (v := .agg #[.bool true, .slice A5 n5 c5]) (by simp [results, Tryz.results96, go_sem, hc1]) rfl ?_
        exact Hfin.out
      · obtain ⟨rfl, ez⟩ : m = N ∧ Box wr (w.heap.size + 1) 38 #[.bool true, .slice none 0 0] := by
          rcases hst with ⟨e, hb⟩ | ⟨e, _⟩
          · exact ⟨e, hb⟩
          · exact absurd e h0
        have hm0 : 0 < m := by omega
        have hsz : w.heap.size ≤ wr.heap.size := hx.a1.size
        clear hst
        obtain ⟨cez0, cez1⟩ := ez.cells2
        have fez := ez.frozen
        go_wp2_with (at_builtin; refine wpList_append_run rfl _ _ 36 rfl (.slice none 0 0) (.slice (some ⟨wr.heap.size, 0, none⟩) 1 1) rfl rfl (append_d wr w.heap.size _ _ [] m _ _ (OwnD.nil _ _) (by first | rfl | omega) (by simp) hsz rfl) ?_)
        rintro v' w5 hown hg
        have xa : Ext wr w5 := ((Ext.refl wr).alloc _).grown hg (fun k hk => by simp [Value.ownBlock] at hk)
        have hd := hown.digv (Digs.cons hm Digs.nil)
        have hd2 := hd
        obtain ⟨A5, c5, rfl, -, -, -⟩ := hd2
        clear hown hg
        have ez5 := ez.ext xa
        replace hx := hx.trans xa
        clear ez xa cez0 cez1 fez
        obtain ⟨cez50, cez51⟩ := ez5.cells2
        have fez5 := ez5.frozen
        have Hd := Lib.hid hd; clear hd
        have H0 := Lib.hid h0; clear h0
        go_wp2
        have eb := ez5.set_ 1 (u := .slice A5 1 c5) rfl
        have U := Upd.set_ ez5.nodig 1 (.slice A5 1 c5)
        replace hx := U.from_ hx (by simp)
        have Hdd := Lib.hid (show DigV _ _ _ from DigV.kd Hd.out U.kd)
        go_roundw
        case rel => exact ⟨0, by go_num, by omega, .inr ⟨rfl, H0.out, A5, c5, eb, Hdd.out⟩, hx⟩
        case measure => simp [intOf] <;> omega
  · have hb : decide (n < 0) = false := by simpa using hneg
    have Hw := Lib.hid (wrap_pos (x := n) (by omega) (by omega))
    obtain ⟨N, hN⟩ : ∃ N, N = n.natAbs := ⟨_, rfl⟩
    have HN := Lib.hid hN
    have hNb : N < 4294967296 := by omega
    clear hN
    go_wp2
    obtain ⟨W9, eW9, e9, x9⟩ := Box.made (w.alloc (.cells #[.bool false, .slice none 0 0] 38)) 38 #[.bool false, .slice none 0 0] (by simp [isDig])
    rw [← eW9]
    clear eW9
    rw [World.size_alloc] at e9
    go_loopw [3] (fun uv wx => ∃ m : Nat, uv = .int .u64 m ∧ m < 4294967296 ∧ ((m = N ∧ Box wx (w.heap.size + 1) 38 #[.bool false, .slice none 0 0]) ∨ (m = 0 ∧ N ≠ 0 ∧ ∃ A c, Box wx (w.heap.size + 1) 38 #[.bool false, .slice A 1 c] ∧ DigV wx (.slice A 1 c) [N])) ∧ Ext (w.alloc (.cells #[.bool false, .slice none 0 0] 38)) wx) (fun uv _ => (intOf uv).toNat)
    case atStart => exact ⟨N, by (congr 1; have h3 := HN.out; omega), hNb, .inl ⟨rfl, e9⟩, x9⟩
    case round =>
      clear e9 x9
      obtain ⟨m, rfl, hm, hst, hx⟩ := hrel
      by_cases h0 : m = 0
      · have hr : ∃ A k c, Box wr (w.heap.size + 1) 38 #[.bool false, .slice A k c] ∧ IsZ wr (.agg #[.bool false, .slice A k c]) n := by
          rcases hst with ⟨e, hb⟩ | ⟨_, hne, A, c, hb, hd⟩
          · exact ⟨_, _, _, hb, by have h3 := HN.out; (have e5 : n = 0 := by omega) ; rw [e5]; exact IsZ.of_nil⟩
          · exact ⟨_, _, _, hb, IsZ.of_one hd hne (by have h3 := HN.out; (simp; omega))⟩
        obtain ⟨A5, n5, c5, ez, hr⟩ := hr
        have H0 := Lib.hid h0; clear h0
        have Hr := Lib.hid hr; clear hr hst
        have hm0 : ¬ (0 < (m : Int)) := by have := H0.out; omega
        obtain ⟨cez0, cez1⟩ := ez.cells2
        have fez := ez.frozen
        have hx1 := hx
        clear hx
        have hc1 := hx1.cells
        have hf1 := hx1.frozens
        have Hfin := Lib.hid (fin_z Hr.out hx1.a1 (NoDig.at_ hx1 (g := w.heap.size + 0) (by simp) (by simp [isDig])) (by omega))
        go_wp2
        refine bodyPost_ret (v := .agg #[.bool false, .slice A5 n5 c5]) (by simp [results, Tryz.results96, go_sem, hc1]) rfl ?_
        exact Hfin.out
      · obtain ⟨rfl, ez⟩ : m = N ∧ Box wr (w.heap.size + 1) 38 #[.bool false, .slice none 0 0] := by
          rcases hst with ⟨e, hb⟩ | ⟨e, _⟩
          · exact ⟨e, hb⟩
          · exact absurd e h0
        have hm0 : 0 < m := by omega
        have hsz : w.heap.size ≤ wr.heap.size := hx.a1.size
        clear hst
        obtain ⟨cez0, cez1⟩ := ez.cells2
        have fez := ez.frozen
        go_wp2_with (at_builtin; refine wpList_append_run rfl _ _ 36 rfl (.slice none 0 0) (.slice (some ⟨wr.heap.size, 0, none⟩) 1 1) rfl rfl (append_d wr w.heap.size _ _ [] m _ _ (OwnD.nil _ _) (by first | rfl | omega) (by simp) hsz rfl) ?_)
        rintro v' w5 hown hg
        have xa : Ext wr w5 := ((Ext.refl wr).alloc _).grown hg (fun k hk => by simp [Value.ownBlock] at hk)
        have hd := hown.digv (Digs.cons hm Digs.nil)
        have hd2 := hd
        obtain ⟨A5, c5, rfl, -, -, -⟩ := hd2
        clear hown hg
        have ez5 := ez.ext xa
        replace hx := hx.trans xa
        clear ez xa cez0 cez1 fez
        obtain ⟨cez50, cez51⟩ := ez5.cells2
        have fez5 := ez5.frozen
        have Hd := Lib.hid hd; clear hd
        have H0 := Lib.hid h0; clear h0
        go_wp2
        have eb := ez5.set_ 1 (u := .slice A5 1 c5) rfl
        have U := Upd.set_ ez5.nodig 1 (.slice A5 1 c5)
        replace hx := U.from_ hx (by simp)
        have Hdd := Lib.hid (show DigV _ _ _ from DigV.kd Hd.out U.kd)
        go_roundw
        case rel => exact ⟨0, by go_num, by omega, .inr ⟨rfl, H0.out, A5, c5, eb, Hdd.out⟩, hx⟩
        case measure => simp [intOf] <;> omega
theorem q_b (n : Int) (w : World) (h1 : -4294967296 < n) (h2 : n < 4294967296) : Calls Tryz.prog 95 #[.int .i64 n] w (Gives w fun r w' => IsQ w' r (n : Rat)) := by
  go_enter Tryz.func95, Tryz.ntmps95
  go_wp2_with fail
  refine Calls.mono (z_b n _ h1 h2) ?_
  rintro e w1 ⟨r, rfl, hn, hx1⟩
  go_wp2_with fail
  refine Calls.mono (z_b 1 _ (by omega) (by omega)) ?_
  rintro e w2 ⟨r, rfl, h1', hx2⟩
  replace hn := hn.ext hx2
  replace hx1 := hx1.trans hx2
  clear hx2
  obtain ⟨b5, A5, n5, c5, rfl⟩ := hn.cells
  obtain ⟨b6, A6, n6, c6, rfl⟩ := h1'.cells
  have hr := IsQ.mk_ hn h1' (q := (n : Rat)) rfl rfl
  clear hn h1'
  have hc1 := hx1.cells
  have hf1 := hx1.frozens
  have Hfin := Lib.hid (fin_q hr hx1.a1 (NoDig.at_ hx1 (g := w.heap.size + 0) (by simp) (by simp [isDig])) (by omega))
  clear hr
  go_wp2
  refine bodyPost_ret (v := .agg #[.bool b5, .slice A5 n5 c5, .bool b6, .slice A6 n6 c6]) (by simp [results, Tryz.results95, go_sem, hc1]) rfl ?_
  exact Hfin.out
end Go.Proofs.YtedoifjbgokmcaaGreat
namespace Go.Hp
open Go.RowKit
/-- A slice of ints. -/
def IntsV (w : World) (v : Value) (ns : List Int) : Prop := ∃ g c, v = .slice (some ⟨g, 0, none⟩) ns.length c ∧ ns.length ≤ c ∧ c ≤ 9223372036854775807 ∧ ∀ j (h : j < ns.length), w.cell? ⟨g, j, none⟩ = some (.int .i64 ns[j])
theorem IntsV.new (w : World) (t : TypeId) (ns : List Int) (h : ns.length ≤ 1000) : IntsV (w.alloc (.cells (ns.map fun n => Value.int .i64 n).toArray t)) (.slice (some ⟨w.heap.size, 0, none⟩) ns.length ns.length) ns :=
  ⟨_, _, rfl, Nat.le_refl _, by omega, fun j hj => by
    rw [cell_of_row _ w.heap.size j _ t (0, 0) (heap_alloc_new w _)]
    simp [hj]⟩
/-- The fractions of a list of ints. -/
def qs_ (ns : List Int) : List Rat := ns.map fun (n : Int) => (n : Rat)
theorem two_qs {w : World} {t : TypeId} {b b' : Bool} {A A' : Option Addr} {n c n' c' : Nat} {d d' : Bool} {E E' : Option Addr} {m e m' e' : Nat} {p q : Rat} (h1 : IsQ w (.agg #[.bool b, .slice A n c, .bool b', .slice A' n' c']) p) (h2 : IsQ w (.agg #[.bool d, .slice E m e, .bool d', .slice E' m' e']) q) :
    QsV 0 (w.alloc (.cells #[.bool b, .slice A n c, .bool b', .slice A' n' c', .bool d, .slice E m e, .bool d', .slice E' m' e'] t)) (.slice (some ⟨w.heap.size, 0, none⟩) 2 2) [p, q] := by
  have k1 := h1.ext ((Ext.refl w).alloc (.cells #[.bool b, .slice A n c, .bool b', .slice A' n' c', .bool d, .slice E m e, .bool d', .slice E' m' e'] t))
  have k2 := h2.ext ((Ext.refl w).alloc (.cells #[.bool b, .slice A n c, .bool b', .slice A' n' c', .bool d, .slice E m e, .bool d', .slice E' m' e'] t))
  refine ⟨_, 2, rfl, by simp, by omega, fun _ => ⟨w.heap.size, 0, rfl, Nat.zero_le _, fun j hj => ?_⟩⟩
  have hj2 : j < 2 := by simpa using hj
  match j, hj2 with
  | 0, _ => exact ⟨_, rfl, fun i hi => by
      rw [cell_of_row _ w.heap.size _ _ t (0, 0) (heap_alloc_new w _)]
      match i, hi with
      | 0, _ => rfl
      | 1, _ => rfl
      | 2, _ => rfl
      | 3, _ => rfl, k1⟩
  | 1, _ => exact ⟨_, rfl, fun i hi => by
      rw [cell_of_row _ w.heap.size _ _ t (0, 0) (heap_alloc_new w _)]
      match i, hi with
      | 0, _ => rfl
      | 1, _ => rfl
      | 2, _ => rfl
      | 3, _ => rfl, k2⟩
theorem QsV.at_ {base n c : Nat} {w : World} {A : Option Addr} {l : List Rat} (h : QsV base w (.slice A n c) l) {j : Nat} (hj : j < l.length) :
    ∃ g o b A1 n c b' A1' n' c', A = some ⟨g, o, none⟩ ∧ base ≤ g ∧ w.cell? ⟨g, o + j * 4, none⟩ = some (.bool b) ∧ w.cell? ⟨g, o + j * 4 + 1, none⟩ = some (.slice A1 n c) ∧ w.cell? ⟨g, o + j * 4 + 2, none⟩ = some (.bool b') ∧ w.cell? ⟨g, o + j * 4 + 3, none⟩ = some (.slice A1' n' c') ∧ IsQ w (.agg #[.bool b, .slice A1 n c, .bool b', .slice A1' n' c']) l[j] := by
  obtain ⟨A', c', e1, h2, h3, h4⟩ := h
  have e5 : A' = A := by injection e1 with h1; exact h1.symm
  subst e5
  exact QsAt.at_ h4 hj
end Go.Hp
namespace Go.Proofs.YtedoifjbgokmcaaGreat
open Go.RowKit Go.Hp
set_option maxRecDepth 20000 in
set_option maxHeartbeats 1000000 in
theorem qs_b (v : Value) (ns : List Int) (w : World) (hv : IntsV w v ns) (hn : ns.length ≤ 1000) (hs : ∀ n ∈ ns, -4294967296 < n ∧ n < 4294967296) : Calls Tryz.prog 44 #[v] w (Gives w fun r w' => QsV w.heap.size w' r (qs_ ns)) := by
  obtain ⟨g, c, rfl, h1, h2, h3⟩ := hv
  have H3 := Lib.hid (And.intro h3 hs); clear h3 hs
  go_enter Tryz.func44, Tryz.ntmps44
  go_wp2
  go_loopw [3, 4] (fun ov iv wr => ∃ (k : Nat), k ≤ ns.length ∧ iv = .int .i64 k ∧ OwnQ w.heap.size 40 wr ov ((qs_ ns).take k) ∧ Ext w wr) (fun _ iv _ => ns.length - (intOf iv).toNat)
  case atStart => exact ⟨0, Nat.zero_le _, rfl, OwnR.nil _ _ _ _ _, Ext.refl _⟩
  case round =>
    obtain ⟨k, hk, rfl, hown, hx⟩ := hrel
    have Hown0 := Lib.hid hown; clear hown
    by_cases hkl : k < ns.length
    · have q0 := hx.cell (H3.out.1 k hkl)
      obtain ⟨m, hm⟩ : ∃ m, m = ns[k] := ⟨_, rfl⟩
      rw [← hm] at q0
      have hb := H3.out.2 ns[k] (List.getElem_mem hkl)
      rw [← hm] at hb
      have Hm := Lib.hid hm; clear hm
      go_wp2_with fail
      refine Calls.mono (q_b m _ hb.1 hb.2) ?_
      rintro e w2 ⟨r, rfl, hr, hx2⟩
      obtain ⟨b5, A5, n5, c5, b6, A6, n6, c6, rfl⟩ := hr.cells
      have Hr := Lib.hid hr; clear hr
      have hown := Hown0.out.ext hx2
      have Hown := Lib.hid hown; clear hown
      replace hx := hx.trans hx2
      have hsz := hx.size
      have hlk : ((qs_ ns).take k).length ≤ 1000 := Nat.le_trans (List.length_take_le _ _) (by omega)
      clear hx2 q0 Hown0
      go_wp2_with (at_builtin; refine wpList_append_run rfl _ _ 22 rfl u3 (.slice (some ⟨w2.heap.size, 0, none⟩) 1 1) rfl rfl (append_rq w2 w.heap.size _ _ _ _ _ Hown.out Hr.out (by first | (rw [List.length_map, List.length_range]; omega) | omega) hsz rfl) ?_)
      first | intro v' w5 hown U | rintro v' w5 ⟨hown, U⟩
      replace hx := (Hown.out.ext ((Ext.refl w2).alloc _)).from_ U (hx.alloc _) (Nat.le_refl _)
      have Hown' := Lib.hid hown; clear hown U
      go_wp2
      go_roundw
      case rel => exact ⟨k + 1, by omega, by go_num, by
        have hl : k < (qs_ ns).length := by simpa [qs_] using hkl
        rw [List.take_succ_eq_append_getElem hl]
        have e : (qs_ ns)[k] = (m : Rat) := by simp [qs_, Hm.out]
        rw [e]; exact Hown'.out, hx⟩
      case measure => simp [intOf] <;> omega
    · obtain rfl : k = ns.length := by omega
      have hq := OwnQ.row Hown0.out
      rw [List.take_of_length_le (by simp [qs_])] at hq
      have Hq := Lib.hid hq; clear hq Hown0
      go_wp2
      go_ret
      exact Gives.mk Hq.out hx
set_option maxHeartbeats 1000000 in
theorem samerats_b (v u : Value) (l : List Rat) (b1 b2 : Nat) (w : World) (hv : QsV b1 w v l) (hu : QsV b2 w u l) (hn : l.length ≤ 1099511627776) : Calls Tryz.prog 12 #[v, u] w (Gives w fun r _ => r = .bool true) := by
  have HV := Lib.hid hv; have HU := Lib.hid hu
  obtain ⟨A, c, rfl⟩ := hv.len
  obtain ⟨E, d, rfl⟩ := hu.len
  clear hv hu
  go_enter Tryz.func12, Tryz.ntmps12
  go_wp2
  go_loopw [5] (fun iv wr => ∃ (k : Nat), k ≤ l.length ∧ iv = .int .i64 k ∧ Ext w wr) (fun iv _ => l.length - (intOf iv).toNat)
  case atStart => exact ⟨0, Nat.zero_le _, rfl, Ext.refl _⟩
  case round =>
    obtain ⟨k, hk, rfl, hx⟩ := hrel
    by_cases hkl : k < l.length
    · obtain ⟨g, o, b, A1, n, c1, b', A1', n', c1', rfl, _, q0, q1, q2, q3, hq⟩ := HV.out.at_ (j := k) hkl
      obtain ⟨g', o', bb, B1, m, d1, bb', B1', m', d1', rfl, _, r0, r1, r2, r3, hq'⟩ := HU.out.at_ (j := k) hkl
      replace q0 := hx.cell q0
      replace q1 := hx.cell q1
      replace q2 := hx.cell q2
      replace q3 := hx.cell q3
      replace r0 := hx.cell r0
      replace r1 := hx.cell r1
      replace r2 := hx.cell r2
      replace r3 := hx.cell r3
      have Hq := Lib.hid (And.intro hq hq'); clear hq hq'
      go_wp2_with fail
      refine wp_region_par (k := 8) (D := [17, 18, 19, 20, 21, 22, 23, 24]) (T := [[], [], [0, 1], [0, 1, 2], [], [], [4, 5], [4, 5, 6], [0, 1, 2, 3, 4, 5, 6, 7], [0, 1, 2, 3, 4, 5, 6, 7, 8]]) (EK := [0, 5, 1]) (EV := [?e1x0, ?e1x1, ?e1x2]) (VL := [(kv ?v1x0), (kv ?v1x1), (kv ?v1x2), (kv ?v1x3), (kv ?v1x4), (kv ?v1x5), (kv ?v1x6), (kv ?v1x7)]) (FL := fun γ w' => [True, True, True, True, True, True, True, True]) ?hE1 (by kernel_rfl) (by kernel_rfl) (by rfl) (by kernel_rfl) ?hloc1 ?hmono1 ?hstep1 ?htail1
      case hE1 => refine ⟨?_, ?_, ?_, trivial⟩ <;> (simp only [List.getElem?_toArray, List.getElem?_cons_succ, List.getElem?_cons_zero]; rfl)
      case hstep1 =>
        refine ⟨⟨⟨⟨⟨⟨⟨⟨trivial, ?_⟩, ?_⟩, ?_⟩, ?_⟩, ?_⟩, ?_⟩, ?_⟩, ?_⟩
        · intro γ w' he hf; clear hf; refine ⟨trivial, ?_⟩; intro R hR
          have hc := he.cells
          go_simp
          (try go_ints); (try (rw [if_neg (by omega)])); (try (rw [if_pos (by omega)])); (try go_simp); (try go_ints)
          refine hR _ _ (Ext.refl _) ?_ trivial
          rfl
        · intro γ w' he hf; clear hf; refine ⟨trivial, ?_⟩; intro R hR
          have hc := he.cells
          go_simp
          (try go_ints); (try (rw [if_neg (by omega)])); (try (rw [if_pos (by omega)])); (try go_simp); (try go_ints)
          refine hR _ _ (Ext.refl _) ?_ trivial
          rfl
        · intro γ w' he hf; clear hf; refine ⟨trivial, ?_⟩; intro R hR
          have hc := he.cells
          go_simp
          (try go_ints); (try (rw [if_neg (by omega)])); (try (rw [if_pos (by omega)])); (try go_simp); (try go_ints)
          refine hR _ _ (Ext.refl _) ?_ trivial
          rfl
        · intro γ w' he hf; clear hf; refine ⟨trivial, ?_⟩; intro R hR
          have hc := he.cells
          have cq0 := he.cell q0
          have cq1 := he.cell q1
          have cq2 := he.cell q2
          have cq3 := he.cell q3
          have cq4 := he.cell r0
          have cq5 := he.cell r1
          have cq6 := he.cell r2
          have cq7 := he.cell r3
          go_simp
          (try go_ints); (try (rw [if_neg (by omega)])); (try (rw [if_pos (by omega)])); (try go_simp); (try go_ints)
          refine hR _ _ (Ext.refl _) ?_ trivial
          rfl
        · intro γ w' he hf; clear hf; refine ⟨trivial, ?_⟩; intro R hR
          have hc := he.cells
          go_simp
          (try go_ints); (try (rw [if_neg (by omega)])); (try (rw [if_pos (by omega)])); (try go_simp); (try go_ints)
          refine hR _ _ (Ext.refl _) ?_ trivial
          rfl
        · intro γ w' he hf; clear hf; refine ⟨trivial, ?_⟩; intro R hR
          have hc := he.cells
          go_simp
          (try go_ints); (try (rw [if_neg (by omega)])); (try (rw [if_pos (by omega)])); (try go_simp); (try go_ints)
          refine hR _ _ (Ext.refl _) ?_ trivial
          rfl
        · intro γ w' he hf; clear hf; refine ⟨trivial, ?_⟩; intro R hR
          have hc := he.cells
          go_simp
          (try go_ints); (try (rw [if_neg (by omega)])); (try (rw [if_pos (by omega)])); (try go_simp); (try go_ints)
          refine hR _ _ (Ext.refl _) ?_ trivial
          rfl
        · intro γ w' he hf; clear hf; refine ⟨trivial, ?_⟩; intro R hR
          have hc := he.cells
          have cq0 := he.cell q0
          have cq1 := he.cell q1
          have cq2 := he.cell q2
          have cq3 := he.cell q3
          have cq4 := he.cell r0
          have cq5 := he.cell r1
          have cq6 := he.cell r2
          have cq7 := he.cell r3
          go_simp
          (try go_ints); (try (rw [if_neg (by omega)])); (try (rw [if_pos (by omega)])); (try go_simp); (try go_ints)
          refine hR _ _ (Ext.refl _) ?_ trivial
          rfl
      case hloc1 =>
        exact ⟨⟨⟨⟨⟨⟨⟨⟨trivial, (fun γ γ' h => ⟨rfl, fun _ => rfl⟩)⟩, (fun γ γ' h => ⟨rfl, fun _ => rfl⟩)⟩, (fun γ γ' h => ⟨rfl, fun _ => rfl⟩)⟩, (fun γ γ' h => ⟨rfl, fun _ => rfl⟩)⟩, (fun γ γ' h => ⟨rfl, fun _ => rfl⟩)⟩, (fun γ γ' h => ⟨rfl, fun _ => rfl⟩)⟩, (fun γ γ' h => ⟨rfl, fun _ => rfl⟩)⟩, (fun γ γ' h => ⟨rfl, fun _ => rfl⟩)⟩
      case hmono1 =>
        exact ⟨⟨⟨⟨⟨⟨⟨⟨trivial, (fun γ wA w' e h => h)⟩, (fun γ wA w' e h => h)⟩, (fun γ wA w' e h => h)⟩, (fun γ wA w' e h => h)⟩, (fun γ wA w' e h => h)⟩, (fun γ wA w' e h => h)⟩, (fun γ wA w' e h => h)⟩, (fun γ wA w' e h => h)⟩
      intro γ w1 hx1 hF
      clear hF
      simp only [fillAll, gV, kv, List.getD_cons_zero, List.getD_cons_succ, Act.put, List.setIfInBounds_toArray, List.set_cons_zero, List.set_cons_succ, List.toList_toArray, List.drop_succ_cons, List.drop_zero, List.drop_nil, Nat.zero_add, Nat.reduceAdd]
      clear γ
      go_wp2_with fail
      refine Calls.mono (samerat_b _ _ l[k] l[k] _ (Hq.out.1.ext (hx.trans hx1)) (Hq.out.2.ext (hx.trans hx1))) ?_
      rintro e w2 ⟨r, rfl, rfl, hx2⟩
      replace hx := (hx.trans hx1).trans hx2
      clear q0 q1 q2 q3 r0 r1 r2 r3 hx1 hx2
      go_wp2
      go_roundw
      case rel => exact ⟨k + 1, by omega, by go_num, hx⟩
      case measure => simp [intOf] <;> omega
    · obtain rfl : k = l.length := by omega
      clear HV HU
      go_wp2
      go_ret
      exact Gives.mk rfl hx
theorem samerats_p (v u : Value) (F : Nat → Rat) (b1 b2 : Nat) (w : World) (hv : IsP b1 w v F) (hu : IsP b2 w u F) (hn : pl F ≤ 1099511627776) : Calls Tryz.prog 12 #[v, u] w (Gives w fun r _ => r = .bool true) := by
  obtain ⟨l, h1, h2, h3⟩ := hv
  obtain ⟨m, k1, k2, k3⟩ := hu
  have : l = m := h2.uniq k2 (h3.trans k3.symm)
  subst this
  exact samerats_b v u l b1 b2 w h1 k1 (by rw [← h2.pl, h3]; exact hn)
end Go.Proofs.YtedoifjbgokmcaaGreat
namespace Go.Hp
theorem max_neg (n : Int) : max n (-n) = (n.natAbs : Int) := by omega
theorem tdiv_gcd (n d : Int) : n.tdiv ((Nat.gcd n.natAbs d.natAbs : Nat) : Int) = n / ((Int.gcd n d : Nat) : Int) := by
  rw [show Nat.gcd n.natAbs d.natAbs = Int.gcd n d from rfl]
  exact Int.tdiv_eq_ediv_of_dvd (Int.gcd_dvd_left ..)
end Go.Hp
namespace Go.Proofs.YtedoifjbgokmcaaGreat
open Go.RowKit Go.Hp
set_option maxHeartbeats 1000000 in
theorem frac_b (n d : Int) (w : World) (h1 : -2147483648 < n) (h2 : n < 2147483648) (h3 : 0 < d) (h4 : d < 2147483648) : Calls Tryz.prog 46 #[.int .i64 n, .int .i64 d] w (Gives w fun r w' => IsQ w' r (Rat.divInt n d)) := by
  have hb : decide (d < 0) = false := by simp; omega
  have Hm := Lib.hid (max_neg n)
  go_enter Tryz.func46, Tryz.ntmps46
  go_wp2
  go_loopw [5, 6] (fun av bv wr => ∃ (a b : Nat), av = .int .i64 a ∧ bv = .int .i64 b ∧ Nat.gcd a b = Nat.gcd n.natAbs d.natAbs ∧ a ≤ 2147483648 ∧ b ≤ 2147483648 ∧ Ext (w.alloc (.cells #[.bool false, .slice none 0 0, .bool false, .slice none 0 0] 40)) wr) (fun _ bv _ => (intOf bv).toNat)
  case atStart => exact ⟨n.natAbs, d.natAbs, by congr 1, by congr 1; omega, rfl, by omega, by omega, Ext.refl _⟩
  case round =>
    obtain ⟨a, b, rfl, rfl, hg, ha, hb', hx⟩ := hrel
    have Hg := Lib.hid hg; clear hg
    by_cases h0 : b = 0
    · have hb0 : ¬ (0 < (b : Int)) := by omega
      have hga : a = Nat.gcd n.natAbs d.natAbs := by rw [← Hg.out, h0, Nat.gcd_zero_right]
      have Hga := Lib.hid hga; clear hga h0
      have ha0 : 0 < a := by rw [Hga.out]; exact Nat.gcd_pos_of_pos_right _ (by omega)
      go_wp2_with fail
      have hq1 : n.tdiv (a : Int) = n / (Int.gcd n d : Nat) := by rw [Hga.out]; exact tdiv_gcd n d
      have hq2 : d / (a : Int) = d / (Int.gcd n d : Nat) := by rw [Hga.out]; rfl
      have hb1 : -4294967296 < n / ((Int.gcd n d : Nat) : Int) ∧ n / ((Int.gcd n d : Nat) : Int) < 4294967296 := by
        have h5 := Int.gcd_pos_of_ne_zero_right n (show d ≠ 0 by omega)
        have h6 := Int.natAbs_ediv_le_natAbs n ((Int.gcd n d : Nat) : Int)
        omega
      have hb2 : -4294967296 < d / ((Int.gcd n d : Nat) : Int) ∧ d / ((Int.gcd n d : Nat) : Int) < 4294967296 := by
        have h6 := Int.natAbs_ediv_le_natAbs d ((Int.gcd n d : Nat) : Int)
        omega
      have HQ := Lib.hid (And.intro (And.intro hq1 hq2) (And.intro hb1 hb2)); clear hq1 hq2 hb1 hb2
      refine wp_region_par (k := 7) (D := [24, 25, 26, 27, 28, 29, 30]) (T := [[], [], [0, 1], [0, 1, 2], [], [], [4, 5], [0, 1, 2, 3, 4, 5, 6], [0, 1, 2, 3, 4, 5, 6, 7], [0, 1, 2, 3, 4, 5, 6, 7, 8]]) (EK := [0, 5, 1]) (EV := [?e1x0, ?e1x1, ?e1x2]) (VL := [(kv ?v1x0), (kv ?v1x1), (kv ?v1x2), (fun γ => γ 3), (kv ?v1x4), (kv ?v1x5), (kv ?v1x6)]) (FL := fun γ w' => [True, True, True, IsZ w' (γ 3) (n / (Int.gcd n d : Nat)), True, True, True]) ?hE1 (by kernel_rfl) (by kernel_rfl) (by rfl) (by kernel_rfl) ?hloc1 ?hmono1 ?hstep1 ?htail1
      case hE1 => refine ⟨?_, ?_, ?_, trivial⟩ <;> (simp only [List.getElem?_toArray, List.getElem?_cons_succ, List.getElem?_cons_zero]; rfl)
      case hstep1 =>
        refine ⟨⟨⟨⟨⟨⟨⟨trivial, ?_⟩, ?_⟩, ?_⟩, ?_⟩, ?_⟩, ?_⟩, ?_⟩
        · intro γ w' he hf; clear hf; refine ⟨trivial, ?_⟩; intro R hR
          have hc := he.cells
          go_simp
          (try go_ints); (try (rw [if_neg (by omega)])); (try (rw [if_pos (by omega)])); (try go_simp); (try go_ints)
          refine hR _ _ (Ext.refl _) ?_ trivial
          rfl
        · intro γ w' he hf; clear hf; refine ⟨trivial, ?_⟩; intro R hR
          have hc := he.cells
          go_simp
          (try go_ints); (try (rw [if_neg (by omega)])); (try (rw [if_pos (by omega)])); (try go_simp); (try go_ints)
          refine hR _ _ (Ext.refl _) ?_ trivial
          rfl
        · intro γ w' he hf; clear hf; refine ⟨trivial, ?_⟩; intro R hR
          have hc := he.cells
          go_simp
          (try go_ints); (try (rw [if_neg (by omega)])); (try (rw [if_pos (by omega)])); (try go_simp); (try go_ints)
          refine hR _ _ (Ext.refl _) ?_ trivial
          rfl
        · intro γ w' he hf; clear hf; refine ⟨trivial, ?_⟩; intro R hR
          go_simp
          refine Calls.mono (show Calls _ _ _ w' (Gives w' fun r w'' => IsZ w'' (r) (n / (Int.gcd n d : Nat))) from (show Calls Tryz.prog 96 #[.int .i64 (n.tdiv (a : Int))] w' (Gives w' fun r w'' => IsZ w'' r (n / (Int.gcd n d : Nat))) by rw [HQ.out.1.1]; exact z_b _ w' HQ.out.2.1.1 HQ.out.2.1.2)) ?_
          rintro e w2 ⟨v, rfl, hv, hx⟩
          exact ⟨v, rfl, hR v w2 hx rfl hv⟩
        · intro γ w' he hf; clear hf; refine ⟨trivial, ?_⟩; intro R hR
          have hc := he.cells
          go_simp
          (try go_ints); (try (rw [if_neg (by omega)])); (try (rw [if_pos (by omega)])); (try go_simp); (try go_ints)
          refine hR _ _ (Ext.refl _) ?_ trivial
          rfl
        · intro γ w' he hf; clear hf; refine ⟨trivial, ?_⟩; intro R hR
          have hc := he.cells
          go_simp
          (try go_ints); (try (rw [if_neg (by omega)])); (try (rw [if_pos (by omega)])); (try go_simp); (try go_ints)
          refine hR _ _ (Ext.refl _) ?_ trivial
          rfl
        · intro γ w' he hf; clear hf; refine ⟨trivial, ?_⟩; intro R hR
          have hc := he.cells
          go_simp
          (try go_ints); (try (rw [if_neg (by omega)])); (try (rw [if_pos (by omega)])); (try go_simp); (try go_ints)
          refine hR _ _ (Ext.refl _) ?_ trivial
          rfl
      case hloc1 =>
        exact ⟨⟨⟨⟨⟨⟨⟨trivial, (fun γ γ' h => ⟨rfl, fun _ => rfl⟩)⟩, (fun γ γ' h => ⟨rfl, fun _ => rfl⟩)⟩, (fun γ γ' h => ⟨rfl, fun _ => rfl⟩)⟩, (fun γ γ' h => ⟨h 3 rfl, fun w' => (congrArg (fun a => IsZ w' (a) (n / (Int.gcd n d : Nat))) (h 3 rfl))⟩)⟩, (fun γ γ' h => ⟨rfl, fun _ => rfl⟩)⟩, (fun γ γ' h => ⟨rfl, fun _ => rfl⟩)⟩, (fun γ γ' h => ⟨rfl, fun _ => rfl⟩)⟩
      case hmono1 =>
        exact ⟨⟨⟨⟨⟨⟨⟨trivial, (fun γ wA w' e h => h)⟩, (fun γ wA w' e h => h)⟩, (fun γ wA w' e h => h)⟩, (fun γ wA w' e h => (show IsZ wA (γ 3) (n / (Int.gcd n d : Nat)) from h).ext e)⟩, (fun γ wA w' e h => h)⟩, (fun γ wA w' e h => h)⟩, (fun γ wA w' e h => h)⟩
      intro γ w1 hx1 hF
      have p3 : IsZ w1 (γ 3) (n / (Int.gcd n d : Nat)) := Each.get hF 3 (by decide)
      clear hF
      simp only [fillAll, gV, kv, List.getD_cons_zero, List.getD_cons_succ, Act.put, List.setIfInBounds_toArray, List.set_cons_zero, List.set_cons_succ, List.toList_toArray, List.drop_succ_cons, List.drop_zero, List.drop_nil, Nat.zero_add, Nat.reduceAdd]
      generalize γ 3 = g3 at *
      clear γ
      go_wp2_with fail
      refine Calls.mono (z_b _ _ (by rw [HQ.out.1.2]; exact HQ.out.2.2.1) (by rw [HQ.out.1.2]; exact HQ.out.2.2.2)) ?_
      rintro e w2 ⟨r, rfl, h1', hx2⟩
      rw [HQ.out.1.2] at h1'
      have hn := p3.ext hx2
      replace hx1 := (hx.trans hx1).trans hx2
      clear hx2 p3
      obtain ⟨b5, A5, n5, c5, rfl⟩ := hn.cells
      obtain ⟨b6, A6, n6, c6, rfl⟩ := h1'.cells
      have hp := divInt_parts (p := n) (q := d) h3
      have hr := IsQ.mk_ hn h1' (q := Rat.divInt n d) hp.1.symm hp.2.symm
      clear hn h1' hp
      have hc1 := hx1.cells
      have hf1 := hx1.frozens
      have Hfin := Lib.hid (fin_q hr hx1.a1 (NoDig.at_ hx1 (g := w.heap.size + 0) (by simp) (by simp [isDig])) (by omega))
      clear hr
      go_wp2
      refine bodyPost_ret (v := .agg #[.bool b5, .slice A5 n5 c5, .bool b6, .slice A6 n6 c6]) (by simp [results, Tryz.results46, go_sem, hc1]) rfl ?_
      exact Hfin.out
    · have hb0 : 0 < b := by omega
      have hp : (1 : Int) ≤ b := by omega
      go_wp2
      go_quiet (fail)
      go_wp2
      go_roundw
      case rel => exact ⟨b, a % b, by simp, by simp, by rw [gcd_step, Hg.out], by omega, by have := Nat.mod_lt a (show 0 < b by omega); omega, hx.drewN _⟩
      case measure =>
        have := Nat.mod_lt a (show 0 < b by omega)
        simp only [intOf, Array.getD, Int.toNat_natCast] <;> simp <;> omega
end Go.Proofs.YtedoifjbgokmcaaGreat
namespace Go.Hp
open Go.RowKit
theorem qs_pl {ns : List Int} (h : TopR (qs_ ns)) : pl (co (qs_ ns)) = ns.length := by rw [h.pl]; simp [qs_]
theorem TopR.of {l : List Rat} (h : co l (l.length - 1) ≠ 0) : TopR l := fun h0 => by rw [← co_lt]; exact h
theorem aw_top : TopR (qs_ [-2, -2, 2]) := TopR.of (by decide +kernel)
theorem aw_sums : ((List.range 3).map fun k => pws (pl (co (qs_ [-2, -2, 2])) - 1) (co (qs_ [-2, -2, 2])) (k + 1)) = qs_ [1, 3, 4] := by
  rw [qs_pl aw_top]
  decide +kernel
theorem aw_cd {ns : List Int} (h : ∀ q ∈ qs_ ns, qsz q ≤ 2) (hn : ns.length ≤ 3) : CD 10 (co (qs_ ns)) := by
  have hl : (qs_ ns).length = ns.length := by simp [qs_]
  refine (CD.of (n := 3) (k := 2) ((co_sup _).mono (by omega)) fun i _ => ?_).mono (by omega)
  rcases Nat.lt_or_ge i (qs_ ns).length with hi | hi
  · rw [co_lt hi]; exact h _ (List.getElem_mem hi)
  · rw [co_ge hi]; decide
theorem fun3 {F G : Nat → Rat} (hF : Sup 3 F) (hG : Sup 3 G) (h0 : F 0 = G 0) (h1 : F 1 = G 1) (h2 : F 2 = G 2) : F = G := by
  funext n
  match n with
  | 0 => exact h0
  | 1 => exact h1
  | 2 => exact h2
  | n + 3 => rw [hF _ (by omega), hG _ (by omega)]
theorem aw_div : pq (co (qs_ [0, 0, 1])) (co (qs_ [1, 2])) = co [Rat.divInt (-1) 4, Rat.divInt 1 2] ∧ pr (co (qs_ [0, 0, 1])) (co (qs_ [1, 2])) = co [Rat.divInt 1 4] := by
  have hG : TopR (qs_ [1, 2]) := TopR.of (by decide +kernel)
  have hpl : pl (co (qs_ [1, 2])) = 2 := qs_pl hG
  have h0 : co (qs_ [1, 2]) ≠ pz := fun e => by rw [e, pl_pz] at hpl; omega
  have := div_eq (F := co (qs_ [0, 0, 1])) (G := co (qs_ [1, 2])) (Q := co [Rat.divInt (-1) 4, Rat.divInt 1 2]) (R := co [Rat.divInt 1 4]) (Fin_.co _) (Fin_.co _) h0 (Fin_.co _) ?_ (by rw [hpl]; exact co_sup [Rat.divInt 1 4])
  · exact ⟨this.1.symm, this.2.symm⟩
  · have s1 : Sup 3 (cv (co [Rat.divInt (-1) 4, Rat.divInt 1 2]) (co (qs_ [1, 2]))) := (co_sup [Rat.divInt (-1) 4, Rat.divInt 1 2]).cv (co_sup (qs_ [1, 2]))
    refine fun3 (co_sup (qs_ [0, 0, 1])) (s1.pad ((co_sup [Rat.divInt 1 4]).mono (by decide))) ?_ ?_ ?_ <;> decide +kernel
theorem QsV.hasq {base : Nat} {w : World} {v : Value} {ns : List Int} (h : QsV base w v (qs_ ns)) (k : ∀ q ∈ qs_ ns, qsz q ≤ 2) : HsV 0 w v (qs_ ns) := QsV.has h fun q hq => by have := k q hq; omega
theorem IsP.of_list {base : Nat} {w : World} {v : Value} {l : List Rat} (h : QsV base w v l) (k : TopR l) : IsP base w v (co l) := ⟨l, h, k, rfl⟩
end Go.Hp
namespace Go.Proofs.YtedoifjbgokmcaaGreat
open Go.RowKit Go.Hp
set_option maxRecDepth 20000 in
set_option maxHeartbeats 4000000 in
theorem awake_b (w : World) : Calls Tryz.prog 8 #[] w (Gives w fun r _ => r = .bool true) := by
  have K1 := Lib.hid (show ∀ q ∈ qs_ [-2, -2, 2], qsz q ≤ 2 by decide +kernel)
  have K2 := Lib.hid (show ∀ q ∈ qs_ [0, 0, 1], qsz q ≤ 2 by decide +kernel)
  have K3 := Lib.hid (show ∀ q ∈ qs_ [1, 2], qsz q ≤ 2 by decide +kernel)
  have hp1 : pl (co (qs_ [-2, -2, 2])) = 3 := qs_pl aw_top
  have hp3 : pl (co (qs_ [1, 2])) = 2 := qs_pl (TopR.of (by decide +kernel))
  have hp2 : pl (co (qs_ [0, 0, 1])) = 3 := qs_pl (TopR.of (by decide +kernel))
  have n1 : co (qs_ [-2, -2, 2]) ≠ pz := fun e => by rw [e, pl_pz] at hp1; omega
  have n3 : co (qs_ [1, 2]) ≠ pz := fun e => by rw [e, pl_pz] at hp3; omega
  have HN := Lib.hid (And.intro n1 (And.intro n3 hp2)); clear n1 n3 hp1 hp2 hp3
  go_enter Tryz.func8, Tryz.ntmps8
  go_wp2_with fail
  refine Calls.mono (qs_b _ [-2, -2, 2] _ (IntsV.new w _ [-2, -2, 2] (by decide)) (by decide) (by decide)) ?_
  rintro e w1 ⟨r1, rfl, h1, hx⟩
  have H1 := Lib.hid (h1.hasq K1.out); clear h1
  replace hx := hx.a1
  go_wp2_with fail
  refine Calls.mono (powersums_p _ (qs_ [-2, -2, 2]) 3 10 _ H1.out HN.out.1 (by decide) (by decide) (aw_cd K1.out (by decide)) (by decide)) ?_
  rintro e w2 ⟨r2, rfl, ⟨a, rfl, ha⟩, hx2⟩
  rw [aw_sums] at ha
  have Ha := Lib.hid ha; clear ha H1
  replace hx := hx.trans hx2
  clear hx2
  go_wp2_with fail
  refine Calls.mono (qs_b _ [0, 0, 1] _ (IntsV.new w2 _ [0, 0, 1] (by decide)) (by decide) (by decide)) ?_
  rintro e w3 ⟨r3, rfl, h3, hx3⟩
  have H3 := Lib.hid (h3.hasq K2.out); clear h3
  replace hx := hx.trans hx3.a1
  have Ha := Lib.hid (Ha.out.ext hx3.a1)
  clear hx3
  go_wp2_with fail
  refine Calls.mono (qs_b _ [1, 2] _ (IntsV.new w3 _ [1, 2] (by decide)) (by decide) (by decide)) ?_
  rintro e w4 ⟨r4, rfl, h4, hx4⟩
  have H4 := Lib.hid (h4.hasq K3.out); clear h4
  replace hx := hx.trans hx4.a1
  have Ha := Lib.hid (Ha.out.ext hx4.a1)
  have H3 := Lib.hid (H3.out.ext hx4.a1)
  clear hx4
  go_wp2_with fail
  refine Calls.mono (divmod_p _ _ (qs_ [0, 0, 1]) (qs_ [1, 2]) 10 10 _ H3.out H4.out HN.out.2.1 (aw_cd K2.out (by decide)) (aw_cd K3.out (by decide)) (by decide) (by decide) (by rw [HN.out.2.2]; omega)) ?_
  rintro e w5 ⟨r5, rfl, ⟨qv, rv, rfl, hq, hr⟩, hx5⟩
  rw [aw_div.1] at hq
  rw [aw_div.2] at hr
  have Hqr := Lib.hid (And.intro hq hr); clear hq hr
  replace hx := hx.trans hx5
  have Ha := Lib.hid (Ha.out.ext hx5)
  clear hx5
  go_wp2_with fail
  refine Calls.mono (qs_b _ [1, 3, 4] _ (IntsV.new w5 _ [1, 3, 4] (by decide)) (by decide) (by decide)) ?_
  rintro e w6 ⟨r6, rfl, h6, hx6⟩
  have H6 := Lib.hid h6; clear h6
  replace hx := hx.trans hx6.a1
  have Ha := Lib.hid (Ha.out.ext hx6.a1)
  have Hqr := Lib.hid (And.intro (Hqr.out.1.ext hx6.a1) (Hqr.out.2.ext hx6.a1))
  clear hx6
  go_wp2_with fail
  refine Calls.mono (samerats_b _ _ (qs_ [1, 3, 4]) _ _ _ Ha.out H6.out (by decide)) ?_
  rintro e w7 ⟨r7, rfl, rfl, hx7⟩
  replace hx := hx.trans hx7
  have Hqr := Lib.hid (And.intro (Hqr.out.1.ext hx7) (Hqr.out.2.ext hx7))
  clear hx7
  go_wp2_with fail
  refine Calls.mono (frac_b (-1) 4 _ (by decide) (by decide) (by decide) (by decide)) ?_
  rintro e w8 ⟨r8, rfl, h8, hx8⟩
  have H8 := Lib.hid h8; clear h8
  replace hx := hx.trans hx8
  have Hqr := Lib.hid (And.intro (Hqr.out.1.ext hx8) (Hqr.out.2.ext hx8))
  clear hx8
  go_wp2_with fail
  refine Calls.mono (frac_b 1 2 _ (by decide) (by decide) (by decide) (by decide)) ?_
  rintro e w9 ⟨r9, rfl, h9, hx9⟩
  have h8 := H8.out.ext hx9
  replace hx := hx.trans hx9
  have Hqr := Lib.hid (And.intro (Hqr.out.1.ext hx9) (Hqr.out.2.ext hx9))
  obtain ⟨b5, A5, n5, c5, b6, A6, n6, c6, rfl⟩ := h8.cells
  obtain ⟨b7, A7, n7, c7, b8, A8, n8, c8, rfl⟩ := h9.cells
  have H2 := Lib.hid (two_qs (t := 40) h8 h9)
  clear hx9 h8 h9 H8
  have t2 : TopR [Rat.divInt (-1) 4, Rat.divInt 1 2] := TopR.of (by decide +kernel)
  have T2 := Lib.hid t2; clear t2
  go_wp2_with fail
  refine Calls.mono (samerats_p _ _ (co [Rat.divInt (-1) 4, Rat.divInt 1 2]) _ _ _ (Hqr.out.1.ext ((Ext.refl _).alloc _)) (IsP.of_list H2.out T2.out) (by rw [T2.out.pl]; decide)) ?_
  rintro e w10 ⟨r10, rfl, rfl, hx10⟩
  replace hx := hx.trans hx10.a1
  have Hqr := Lib.hid (Hqr.out.2.ext hx10.a1)
  clear hx10 H2 T2
  go_wp2_with fail
  refine Calls.mono (frac_b 1 4 _ (by decide) (by decide) (by decide) (by decide)) ?_
  rintro e w11 ⟨r11, rfl, h11, hx11⟩
  replace hx := hx.trans hx11
  have Hqr := Lib.hid (Hqr.out.ext hx11)
  clear hx11
  obtain ⟨b5, A5, n5, c5, b6, A6, n6, c6, rfl⟩ := h11.cells
  have H2 := Lib.hid (OwnQ.row (NewQ.own (NewQ.mk h11 (base := 0) (Nat.zero_le _) 40)))
  clear h11
  have t2 : TopR [Rat.divInt 1 4] := TopR.of (by decide +kernel)
  have T2 := Lib.hid t2; clear t2
  go_wp2_with fail
  refine Calls.mono (samerats_p _ _ (co [Rat.divInt 1 4]) _ _ _ (Hqr.out.ext ((Ext.refl _).alloc _)) (IsP.of_list H2.out T2.out) (by rw [T2.out.pl]; decide)) ?_
  rintro e w12 ⟨r12, rfl, rfl, hx12⟩
  replace hx := hx.trans hx12.a1
  clear hx12 H2 T2
  go_wp2
  go_ret
  exact Gives.mk rfl hx
end Go.Proofs.YtedoifjbgokmcaaGreat
namespace Go.Hp
open Go.RowKit
theorem addr_add (b o i : Nat) : (⟨b, o, none⟩ : Addr).add i = ⟨b, o + i, none⟩ := by unfold Addr.add; split <;> simp_all
/-- A fraction as it stands: sign and digits of the numerator and of the denominator. -/
abbrev Raw := Bool × List Nat × Bool × List Nat
def RawQ (w : World) (v : Value) (x : Raw) : Prop := ∃ A n c A' n' c', v = .agg #[.bool x.1, .slice A n c, .bool x.2.2.1, .slice A' n' c'] ∧ DigV w (.slice A n c) x.2.1 ∧ DigV w (.slice A' n' c') x.2.2.2
/-- A slice of fractions as they stand. -/
def PolyV (w : World) (v : Value) (l : List Raw) : Prop := RowV 4 RawQ 0 w v l
theorem RawQ.ext {w w' : World} {v : Value} {x : Raw} (h : RawQ w v x) (e : Ext w w') : RawQ w' v x := by
  obtain ⟨A, n, c, A', n', c', h1, h2, h3⟩ := h; exact ⟨A, n, c, A', n', c', h1, h2.ext e, h3.ext e⟩
theorem PolyV.ext {w w' : World} {v : Value} {l : List Raw} (h : PolyV w v l) (e : Ext w w') : PolyV w' v l := RowV.ext h e fun _ _ q => q.ext e
/-- No number of more than two digits. -/
def Small (x : Raw) : Prop := x.2.1.length ≤ 2 ∧ x.2.2.2.length ≤ 2
def ratOf (x : Raw) : Rat := Rat.divInt (iv x.1 x.2.1) (iv x.2.2.1 x.2.2.2)
theorem iv_abs (b : Bool) (ds : List Nat) : (iv b ds).natAbs = nv ds := by unfold iv; cases b <;> simp
theorem sz_dig {w : World} {v : Value} {ds : List Nat} (h : DigV w v ds) : sz (nv ds) ≤ ds.length := by
  obtain ⟨_, _, _, _, _, hA⟩ := h
  exact sz_nv hA.1
theorem RawQ.has {w : World} {v : Value} {x : Raw} (h : RawQ w v x) (hs : Small x) : HasQ w v (ratOf x) ∧ qsz (ratOf x) ≤ 2 := by
  obtain ⟨A, n, c, A', n', c', rfl, h2, h3⟩ := h
  have s1 := sz_dig h2
  have s2 := sz_dig h3
  obtain ⟨k1, k2⟩ := hs
  have e1 := iv_abs x.1 x.2.1
  have e2 := iv_abs x.2.2.1 x.2.2.2
  exact ⟨⟨_, A, n, c, _, A', n', c', _, _, rfl, ⟨_, _, ⟨_, rfl, h2⟩, rfl, by omega⟩, ⟨_, _, ⟨_, rfl, h3⟩, rfl, by omega⟩, by rw [e1]; omega, by rw [e2]; omega, rfl⟩,
    qsz_divInt (by rw [e1]; omega) (by rw [e2]; omega) (by omega)⟩
theorem PolyV.has {w : World} {v : Value} {l : List Raw} (h : PolyV w v l) (hs : ∀ x ∈ l, Small x) : HsV 0 w v (l.map ratOf) := by
  obtain ⟨A, c, h1, h2, h3, h4⟩ := h
  refine ⟨A, c, by simpa using h1, by simpa using h2, h3, fun h0 => ?_⟩
  obtain ⟨g, o, q1, q2, q3⟩ := h4 (by simpa using h0)
  refine ⟨g, o, q1, q2, fun j hj => ?_⟩
  have hj' : j < l.length := by simpa using hj
  obtain ⟨cs, r1, r2, r3⟩ := q3 j hj'
  refine ⟨cs, r1, r2, ?_⟩
  rw [List.getElem_map]
  exact (r3.has (hs _ (List.getElem_mem hj'))).1
theorem small_qsz {w : World} {v : Value} {l : List Raw} (h : PolyV w v l) (hs : ∀ x ∈ l, Small x) : ∀ i, qsz (co (l.map ratOf) i) ≤ 2 := by
  intro i
  obtain ⟨A, c, h1, h2, h3, h4⟩ := h
  rcases Nat.lt_or_ge i l.length with hi | hi
  · obtain ⟨g, o, q1, q2, q3⟩ := h4 (by omega)
    obtain ⟨cs, r1, r2, r3⟩ := q3 i hi
    rw [co_lt (by simpa using hi), List.getElem_map]
    exact (r3.has (hs _ (List.getElem_mem hi))).2
  · rw [co_ge (by simpa using hi)]; decide
theorem small_cd {w : World} {v : Value} {l : List Raw} {n : Nat} (h : PolyV w v l) (hs : ∀ x ∈ l, Small x) (hn : l.length ≤ n) : CD (1 + n * 3) (co (l.map ratOf)) :=
  CD.of (k := 2) ((co_sup _).mono (by simpa using hn)) fun i _ => small_qsz h hs i
theorem PolyV.len {w : World} {v : Value} {l : List Raw} (h : PolyV w v l) : ∃ A c, v = .slice A l.length c ∧ l.length ≤ c ∧ c ≤ 9223372036854775807 := by
  obtain ⟨A, c, h1, h2, h3, h4⟩ := h; exact ⟨A, c, h1, h2, h3⟩
theorem PolyV.at_ {w : World} {A : Option Addr} {n c : Nat} {l : List Raw} (h : PolyV w (.slice A n c) l) {j : Nat} (hj : j < l.length) :
    ∃ g o A1 n c A1' n' c', A = some ⟨g, o, none⟩ ∧ w.cell? ⟨g, o + j * 4, none⟩ = some (.bool l[j].1) ∧ w.cell? ⟨g, o + j * 4 + 1, none⟩ = some (.slice A1 n c) ∧ w.cell? ⟨g, o + j * 4 + 2, none⟩ = some (.bool l[j].2.2.1) ∧ w.cell? ⟨g, o + j * 4 + 3, none⟩ = some (.slice A1' n' c') ∧ n = l[j].2.1.length ∧ n' = l[j].2.2.2.length := by
  obtain ⟨A', c', e1, h2, h3, h4⟩ := h
  have e5 : A' = A := by injection e1 with h1; exact h1.symm
  subst e5
  obtain ⟨g, o, ha, hb, hc⟩ := h4 (by omega)
  obtain ⟨cs, q1, q2, q3⟩ := hc j hj
  obtain ⟨A1, n1, c1, A2, n2, c2, e, d1, d2⟩ := q3
  obtain rfl := agg4 e
  obtain ⟨_, _, f1, _⟩ := d1
  obtain ⟨_, _, f2, _⟩ := d2
  exact ⟨g, o, A1, n1, c1, A2, n2, c2, ha, q2 0 (by omega), q2 1 (by omega), q2 2 (by omega), q2 3 (by omega), by injection f1, by injection f2⟩
end Go.Hp
namespace Go.Proofs.YtedoifjbgokmcaaGreat
open Go.RowKit Go.Hp Go.Deep Go.ChangeShapes Go.ChangeAt
section
variable {H : Type} {enc : TypeId × Value → H} {w : World} {spare : Nat → Bool} {held : Bool}
theorem open_digs {fuel : Nat} {cs : List Value} {x : DataW H × List MemPlace} (h : DataW.trod enc Tryz.prog w 0 spare held fuel 36 cs = some x) : ∃ A n c ds, cs = [.slice A n c] ∧ DigV w (.slice A n c) ds := by
  rcases open_ints Tryz.underlying36 Tryz.underlying112 (by kernel_rfl) h with ⟨rfl, _⟩ | ⟨a, n, c, zs, rfl, _, hl, hm, hz, _, hcell, hwz⟩
  · exact ⟨none, 0, 0, [], rfl, none, 0, rfl, Nat.le_refl _, by omega, fun d hd => by simp at hd, fun h => by simp at h⟩
  · have hzl : n ≤ zs.length := by rw [hz]; split <;> omega
    have hw : ∀ z ∈ zs, 0 ≤ z ∧ z < 4294967296 := fun z hz => by
      have := hwz z hz
      simp [Lit.wf] at this
      have e1 : IntKind.u32.min = 0 := rfl
      have e2 : IntKind.u32.max = 4294967295 := rfl
      omega
    have hlen : ((zs.take n).map Int.toNat).length = n := by simp; omega
    refine ⟨some a, n, c, (zs.take n).map Int.toNat, rfl, some a, c, by rw [hlen], by rw [hlen]; exact hl, maxLen_le hm, ?_, fun _ => ⟨a, rfl, fun j hj => ?_⟩⟩
    · intro d hd
      obtain ⟨z, hz1, rfl⟩ := List.mem_map.1 hd
      have := hw z (List.mem_of_mem_take hz1)
      omega
    · rw [hlen] at hj
      have hjz : j < zs.length := by omega
      rw [hcell j hjz, List.getElem_map, List.getElem_take]
      have := hw zs[j] (List.getElem_mem hjz)
      rw [show zs.getD j 0 = zs[j] from by rw [List.getD_eq_getElem?_getD, List.getElem?_eq_getElem hjz]; rfl]
      congr 2; omega
set_option maxRecDepth 100000 in
theorem open_zraw {fuel : Nat} {cs : List Value} {x : DataW H × List MemPlace} (h : DataW.trod enc Tryz.prog w 0 spare held fuel 38 cs = some x) : ∃ b A n c ds, cs = [.bool b, .slice A n c] ∧ DigV w (.slice A n c) ds := by
  obtain ⟨y0, y1, n, _, hl, h0, h1⟩ := trod_struct2 Tryz.underlying38 h
  rw [show Tryz.prog.cellsOf 38 = 2 from by kernel_rfl] at hl
  match cs, hl with
  | [c0, c1], _ =>
    rw [show Tryz.prog.cellsOf 4 = 1 from by kernel_rfl] at h0
    rw [show Tryz.prog.cellsOf 36 = 1 from by kernel_rfl] at h1
    obtain ⟨b, e0, _⟩ := DataW.trod_bool Tryz.underlying4 h0
    obtain ⟨A, m, c, ds, e1, hd⟩ := open_digs h1
    simp at e0 e1
    subst e0 e1
    exact ⟨b, A, m, c, ds, rfl, hd⟩
set_option maxRecDepth 100000 in
theorem open_raw {fuel : Nat} {cs : List Value} {x : DataW H × List MemPlace} (h : DataW.trod enc Tryz.prog w 0 spare held fuel 40 cs = some x) : ∃ r : Raw, ∃ cs' : Array Value, cs = cs'.toList ∧ cs'.size = 4 ∧ RawQ w (.agg cs') r := by
  obtain ⟨y0, y1, n, _, hl, h0, h1⟩ := trod_struct2 Tryz.underlying40 h
  rw [show Tryz.prog.cellsOf 40 = 4 from by kernel_rfl] at hl
  match cs, hl with
  | [c0, c1, c2, c3], _ =>
    rw [show Tryz.prog.cellsOf 38 = 2 from by kernel_rfl] at h0 h1
    obtain ⟨b, A, m, c, ds, e0, hd⟩ := open_zraw h0
    obtain ⟨b', A', m', c', ds', e1, hd'⟩ := open_zraw h1
    simp at e0 e1
    obtain ⟨rfl, rfl⟩ := e0
    obtain ⟨rfl, rfl⟩ := e1
    exact ⟨(b, ds, b', ds'), #[.bool b, .slice A m c, .bool b', .slice A' m' c'], rfl, rfl, A, m, c, A', m', c', rfl, hd, hd'⟩
set_option maxRecDepth 100000 in
theorem open_poly {T fuel : Nat} {v : Value} {x : DataW H × List MemPlace} (hT : Tryz.prog.underlying T = some (.slice 40)) (h : DataW.trod enc Tryz.prog w 0 spare held fuel T v.cells.toList = some x) (hv : ∃ a n c, v = .slice a n c) : ∃ l : List Raw, PolyV w v l := by
  obtain ⟨a0, n0, c0, rfl⟩ := hv
  rcases open_slice hT h with ⟨hcs, _⟩ | ⟨a, n, c, m, k, D, Pl, hcs, _, hl, hm, hmm, _, hel⟩
  · simp [Value.cells] at hcs
    obtain ⟨rfl, rfl, rfl⟩ := hcs
    exact ⟨[], RowV.nil 4 RawQ 0 w⟩
  · simp [Value.cells] at hcs
    obtain ⟨rfl, rfl, rfl⟩ := hcs
    have hnm : n0 ≤ m := by rw [hmm]; split <;> omega
    rw [show Tryz.prog.cellsOf 40 = 4 from by kernel_rfl] at hel
    have key : ∀ i, i < n0 → ∃ r : Raw, ∃ cs : Array Value, cs.size = 4 ∧ (∀ j, j < 4 → w.cell? ((a.add (i * 4)).add j) = cs[j]?) ∧ RawQ w (.agg cs) r := fun i hi => by
      obtain ⟨cs', h1, h2⟩ := hel i (by omega)
      obtain ⟨r, cs, rfl, h3, h4⟩ := open_raw h2
      obtain ⟨_, h5, h6⟩ := World.cells?_some h1
      exact ⟨r, cs, h3, fun j hj => by rw [h6 j hj]; simp, h4⟩
    have hc : ∀ n', n' ≤ n0 → ∃ l : List Raw, l.length = n' ∧ ∀ i (h : i < l.length), ∃ cs : Array Value, cs.size = 4 ∧ (∀ j, j < 4 → w.cell? ((a.add (i * 4)).add j) = cs[j]?) ∧ RawQ w (.agg cs) l[i] := by
      intro n'
      induction n' with
      | zero => intro _; exact ⟨[], rfl, fun i h => by simp at h⟩
      | succ n' ih =>
        intro hn
        obtain ⟨l, hl1, hl2⟩ := ih (by omega)
        obtain ⟨r, cs, k1, k2, k3⟩ := key n' (by omega)
        refine ⟨l ++ [r], by simp [hl1], fun i hi => ?_⟩
        rcases Nat.lt_or_ge i l.length with h' | h'
        · rw [List.getElem_append_left h']; exact hl2 i h'
        · have e : i = n' := by simp at hi; omega
          subst e
          refine ⟨cs, k1, k2, ?_⟩
          rw [List.getElem_append_right h']
          simpa [hl1] using k3
    obtain ⟨l, hl1, hl2⟩ := hc n0 (Nat.le_refl _)
    refine ⟨l, some a, c0, by rw [hl1], by omega, maxLen_le hm, fun h0 => ?_⟩
    obtain ⟨b, off, spot⟩ := a
    obtain ⟨cs, k1, k2, k3⟩ := hl2 0 h0
    have hs : spot = none := by
      have := k2 0 (by omega)
      rw [Array.getElem?_eq_getElem (by omega)] at this
      simpa [Addr.add] using World.cell?_spot this
    subst hs
    refine ⟨b, off, rfl, Nat.zero_le _, fun j hj => ?_⟩
    obtain ⟨cs, k1, k2, k3⟩ := hl2 j hj
    refine ⟨cs, k1, fun i hi => ?_, k3⟩
    rw [← k2 i hi, addr_add, addr_add]
end
/-- The slices that long is handed. -/
def ListsV (w : World) (g : Nat) (vs : List (Value × List Raw)) : Prop := ∀ j (h : j < vs.length), w.cell? ⟨g, j, none⟩ = some vs[j].1 ∧ PolyV w vs[j].1 vs[j].2
/-- What long answers. -/
def LongOut (most : Nat) (vs : List (Value × List Raw)) (w : World) (e : Ending) (w' : World) : Prop := w = w' ∧ ∃ b : Bool, e = .returned (.bool b) ∧ (b = false → ∀ p ∈ vs, p.2.length ≤ most ∧ ∀ x ∈ p.2, Small x)
def Fine (most : Nat) (l : List Raw) : Prop := l.length ≤ most ∧ ∀ x ∈ l, Small x
set_option maxHeartbeats 2000000 in
theorem long_b (most : Nat) (g c : Nat) (vs : List (Value × List Raw)) (w : World) (hm : most ≤ 1000) (hn : vs.length ≤ 1000) (hc : vs.length ≤ c) (hv : ListsV w g vs) :
    Calls Tryz.prog 9 #[.int .i64 (most : Nat), .slice (some ⟨g, 0, none⟩) vs.length c] w (LongOut most vs w) := by
  have HV := Lib.hid hv; clear hv
  go_enter Tryz.func9, Tryz.ntmps9
  go_wp2
  go_loop [5] (fun iv => ∃ i : Nat, i ≤ vs.length ∧ iv = .int .i64 i ∧ ∀ j (h : j < vs.length), j < i → Fine most vs[j].2) (fun iv => vs.length - (intOf iv).toNat)
  case atStart => exact ⟨0, Nat.zero_le _, rfl, fun j h h' => by omega⟩
  case round =>
    obtain ⟨i, hi, rfl, hst⟩ := hrel
    have Hst := Lib.hid hst; clear hst
    by_cases hil : i < vs.length
    · obtain ⟨q, hp⟩ := HV.out i hil
      obtain ⟨A1, c1, e1, hl1, hl2⟩ := hp.len
      rw [e1] at q hp
      obtain ⟨l, hl⟩ : ∃ l, l = vs[i].2 := ⟨_, rfl⟩
      rw [← hl] at q hp hl1
      have Hl := Lib.hid (And.intro hl hp); clear hl hp e1
      by_cases hlong : most < l.length
      · skip
        go_wp2
        go_ret
        exact ⟨rfl, true, rfl, fun h => by cases h⟩
      · go_wp2
        go_loop [6] (fun kv => ∃ k : Nat, k ≤ l.length ∧ kv = .int .i64 k ∧ ∀ j (h : j < l.length), j < k → Small l[j]) (fun kv => l.length - (intOf kv).toNat)
        case atStart => exact ⟨0, Nat.zero_le _, rfl, fun j h h' => by omega⟩
        case round =>
          obtain ⟨k, hk, rfl, hsm⟩ := hrel
          have Hsm := Lib.hid hsm; clear hsm
          by_cases hkl : k < l.length
          · obtain ⟨g', o', B1, n, d1, B1', n', d1', rfl, r0, r1, r2, r3, e1, e2⟩ := Hl.out.2.at_ hkl
            have He := Lib.hid (And.intro e1 e2); clear e1 e2
            by_cases hx1 : 2 < n
            · skip
              go_wp2
              go_ret
              exact ⟨rfl, true, rfl, fun h => by cases h⟩
            · have hb1 : decide (2 < (n : Int)) = false := by simp; omega
              by_cases hx2 : 2 < n'
              · skip
                go_wp2
                go_ret
                exact ⟨rfl, true, rfl, fun h => by cases h⟩
              · have hb2 : decide (2 < (n' : Int)) = false := by simp; omega
                go_wp2
                go_round
                case rel => exact ⟨k + 1, by omega, by go_num, fun j h1 h2 => by
                  rcases Nat.lt_or_ge j k with h | h
                  · exact Hsm.out j h1 h
                  · obtain rfl : j = k := by omega
                    have := He.out
                    exact ⟨by omega, by omega⟩⟩
                case measure => simp [intOf] <;> omega
          · obtain rfl : k = l.length := by omega
            go_wp2
            go_round
            case rel => exact ⟨i + 1, by omega, by go_num, fun j h1 h2 => by
              rcases Nat.lt_or_ge j i with h | h
              · exact Hst.out j h1 h
              · obtain rfl : j = i := by omega
                rw [← Hl.out.1]
                exact ⟨by omega, fun x hx => by
                  obtain ⟨j, hj, rfl⟩ := List.getElem_of_mem hx
                  exact Hsm.out j hj hj⟩⟩
            case measure => simp [intOf] <;> omega
    · obtain rfl : i = vs.length := by omega
      go_wp2
      go_ret
      exact ⟨rfl, false, rfl, fun _ p hp => by
        obtain ⟨j, hj, rfl⟩ := List.getElem_of_mem hp
        exact Hst.out j hj hj⟩
end Go.Proofs.YtedoifjbgokmcaaGreat
namespace Go.Hp
open Go.RowKit
end Go.Hp
namespace Go.Proofs.YtedoifjbgokmcaaGreat
open Go.RowKit Go.Hp
end Go.Proofs.YtedoifjbgokmcaaGreat
namespace Go.Proofs.YtedoifjbgokmcaaGreat
open Go.RowKit Go.Hp
theorem listsV_two (w : World) (t : TypeId) {v u : Value} {l m : List Raw} (h : PolyV w v l) (k : PolyV w u m) {g : Nat} (hg : g = w.heap.size) : ListsV (w.alloc (.cells #[v, u] t)) g [(v, l), (u, m)] := by
  subst hg
  intro j hj
  have hj2 : j < 2 := by simpa using hj
  match j, hj2 with
  | 0, _ => exact ⟨by rw [cell_of_row _ w.heap.size 0 _ t (0, 0) (heap_alloc_new w _)]; rfl, h.ext ((Ext.refl w).alloc _)⟩
  | 1, _ => exact ⟨by rw [cell_of_row _ w.heap.size 1 _ t (0, 0) (heap_alloc_new w _)]; rfl, k.ext ((Ext.refl w).alloc _)⟩
end Go.Proofs.YtedoifjbgokmcaaGreat
namespace Go.Hp
open Go.RowKit
/-- A new slice of one fraction as it stands. -/
theorem polyV_one {w : World} {t : TypeId} {cs : Array Value} {x : Raw} (h : RawQ w (.agg cs) x) {g : Nat} (hg : g = w.heap.size) : PolyV (w.alloc (.cells cs t)) (.slice (some ⟨g, 0, none⟩) 1 1) [x] := by
  subst hg
  refine ⟨_, 1, rfl, by simp, by omega, fun _ => ⟨w.heap.size, 0, rfl, Nat.zero_le _, fun j hj => ?_⟩⟩
  have hj0 : j = 0 := by simpa using hj
  subst hj0
  refine ⟨cs, ?_, fun i hi => ?_, h.ext ((Ext.refl w).alloc _)⟩
  · obtain ⟨A, n, c, A', n', c', e, _⟩ := h
    obtain rfl := agg4 e; rfl
  · rw [cell_of_row _ w.heap.size _ cs t (0, 0) (heap_alloc_new w _)]; simp
theorem RawQ.cells {w : World} {v : Value} {x : Raw} (h : RawQ w v x) : ∃ b A n c b' A' n' c', v = .agg #[.bool b, .slice A n c, .bool b', .slice A' n' c'] := by
  obtain ⟨A, n, c, A', n', c', e, _⟩ := h; exact ⟨_, A, n, c, _, A', n', c', e⟩
end Go.Hp
namespace Go.Proofs.YtedoifjbgokmcaaGreat
open Go.RowKit Go.Hp
theorem listsV_three (w : World) (t : TypeId) {v u z : Value} {l m k : List Raw} (h1 : PolyV w v l) (h2 : PolyV w u m) (h3 : PolyV w z k) {g : Nat} (hg : g = w.heap.size) : ListsV (w.alloc (.cells #[v, u, z] t)) g [(v, l), (u, m), (z, k)] := by
  subst hg
  intro j hj
  have hj2 : j < 3 := by simpa using hj
  match j, hj2 with
  | 0, _ => exact ⟨by rw [cell_of_row _ w.heap.size 0 _ t (0, 0) (heap_alloc_new w _)]; rfl, h1.ext ((Ext.refl w).alloc _)⟩
  | 1, _ => exact ⟨by rw [cell_of_row _ w.heap.size 1 _ t (0, 0) (heap_alloc_new w _)]; rfl, h2.ext ((Ext.refl w).alloc _)⟩
  | 2, _ => exact ⟨by rw [cell_of_row _ w.heap.size 2 _ t (0, 0) (heap_alloc_new w _)]; rfl, h3.ext ((Ext.refl w).alloc _)⟩
set_option maxRecDepth 20000 in
set_option maxHeartbeats 16000000 in
theorem operations_law (v0 v1 v2 : Value) (l0 l1 : List Raw) (x : Raw) (w : World) (h0 : PolyV w v0 l0) (h1 : PolyV w v1 l1) (h2 : RawQ w v2 x) :
    Calls Tryz.prog 4 #[v0, v1, v2] w (Gives w fun r _ => r = .bool true) := by
  have H0 := Lib.hid h0; have H1 := Lib.hid h1; have H2 := Lib.hid h2
  obtain ⟨A0, c0, rfl, k1, k2⟩ := h0.len
  obtain ⟨A1, c1, rfl, k3, k4⟩ := h1.len
  obtain ⟨bb, B, bn, bc, bb', B', bn', bc', rfl⟩ := h2.cells
  clear h0 h1 h2
  go_enter Tryz.func4, Tryz.ntmps4
  go_wp2_with fail
  refine Calls.mono (awake_b _) ?_
  rintro e w1 ⟨r, rfl, rfl, hx⟩
  have ca0 := hx.box (g := w.heap.size) (i := 0) rfl rfl
  have ca1 := hx.box (g := w.heap.size) (i := 1) rfl rfl
  have ca2 := hx.box (g := w.heap.size) (i := 2) rfl rfl
  have ca3 := hx.box (g := w.heap.size) (i := 3) rfl rfl
  go_wp2_with fail
  refine Calls.mono (long_b 16 (w1.heap.size + 1) 3 [(_, l0), (_, l1), (_, [x])] _ (by decide) (by simp) (by simp) (listsV_three _ _ (H0.out.ext (hx.a1.alloc _)) (H1.out.ext (hx.a1.alloc _)) (polyV_one (H2.out.ext hx.a1) rfl) (by simp))) ?_
  rintro e w2 ⟨rfl, b, rfl, hb⟩
  replace hx := (hx.alloc (.cells #[.bool bb, .slice B bn bc, .bool bb', .slice B' bn' bc'] 40)).alloc (.cells #[.slice A0 l0.length c0, .slice A1 l1.length c1, .slice (some ⟨w1.heap.size, 0, none⟩) 1 1] 22)
  have Hb := Lib.hid hb; clear hb ca0 ca1 ca2 ca3
  cases b with
  | true =>
    go_wp2
    go_ret
    exact Gives.mk rfl hx.a1
  | false =>
    obtain ⟨hl0, hs0⟩ := Hb.out (by trivial) (.slice A0 l0.length c0, l0) (by simp)
    obtain ⟨hl1, hs1⟩ := Hb.out (by trivial) (.slice A1 l1.length c1, l1) (by simp)
    obtain ⟨-, hs2⟩ := Hb.out (by trivial) (.slice (some ⟨w1.heap.size, 0, none⟩) 1 1, [x]) (by simp)
    generalize (w1.alloc (.cells #[.bool bb, .slice B bn bc, .bool bb', .slice B' bn' bc'] 40)).alloc (.cells #[.slice A0 l0.length c0, .slice A1 l1.length c1, .slice (some ⟨w1.heap.size, 0, none⟩) 1 1] 22) = wb at hx ⊢
    simp only at hl0 hs0 hl1 hs1 hs2
    have P2 := Lib.hid (H2.out.has (hs2 x (by simp)))
    have P0 := Lib.hid (H0.out.has hs0); have P1 := Lib.hid (H1.out.has hs1)
    have HC := Lib.hid (And.intro (small_qsz H0.out hs0) (small_qsz H1.out hs1))
    have hll0 : (l0.map ratOf).length = l0.length := by simp
    have hll1 : (l1.map ratOf).length = l1.length := by simp
    obtain ⟨m0, hm0⟩ : ∃ m0, m0 = l0.map ratOf := ⟨_, rfl⟩
    obtain ⟨m1, hm1⟩ : ∃ m1, m1 = l1.map ratOf := ⟨_, rfl⟩
    obtain ⟨q, hq⟩ : ∃ q, q = ratOf x := ⟨_, rfl⟩
    rw [← hm0] at P0 HC hll0
    rw [← hm1] at P1 HC hll1
    rw [← hq] at P2
    rw [← hll0] at hl0 k1 P0 ⊢
    rw [← hll1] at hl1 k3 P1 ⊢
    clear hs0 hs1 hs2 hm0 hm1 hll0 hll1 Hb H0 H1 H2 hq
    have hp0 := pl_le (co_sup m0)
    have hp1 := pl_le (co_sup m1)
    have HK := Lib.hid (show pl (co m0) ≤ 16 ∧ pl (pad (co m0) (co m1)) ≤ 16 ∧ pl (psb (co m0) (co m1)) ≤ 16 ∧ pl (cv (co m0) (co m1)) ≤ 32 ∧ pl (psc q (co m0)) ≤ 16 ∧ pl (pd (co m0)) ≤ 16 ∧ (m0.length + 1) * (2 + 2 + 1) ≤ 17 * 5 ∧ (m0.length + m1.length) * (2 + 2 + 1) ≤ 32 * 5 by
      have s0 : Sup 16 (co m0) := (co_sup m0).mono (by omega)
      have s1 : Sup 16 (co m1) := (co_sup m1).mono (by omega)
      exact ⟨by omega, pl_le (s0.pad s1), pl_le (s0.psb s1), pl_le ((s0.cv s1).mono (by omega)), pl_le (s0.psc q), pl_le (fun i hi => by unfold pd; rw [s0 (i + 1) (by omega)]; exact Rat.mul_zero _), Nat.mul_le_mul_right _ (by omega), Nat.mul_le_mul_right _ (by omega)⟩)
    have ca0 := hx.box (g := w.heap.size) (i := 0) rfl rfl
    have ca1 := hx.box (g := w.heap.size) (i := 1) rfl rfl
    have ca2 := hx.box (g := w.heap.size) (i := 2) rfl rfl
    have ca3 := hx.box (g := w.heap.size) (i := 3) rfl rfl
    have Hx := Lib.hid hx.a1; clear hx
    go_wp2_with fail
    refine wp_region_par (k := 55) (D := [15, 16, 17, 18, 19, 20, 21, 22, 23, 24, 25, 26, 27, 28, 29, 30, 31, 32, 33, 34, 35, 36, 37, 38, 39, 40, 41, 42, 43, 44, 45, 46, 47, 48, 49, 50, 51, 52, 53, 54, 55, 56, 57, 58, 59, 60, 61, 62, 63, 64, 65, 66, 67, 68, 69]) (T := [[], [0], [], [0, 1, 2], [0, 1, 2, 3], [0, 1, 2, 3, 4], [0, 1, 2, 3, 4, 5], [0, 1, 2, 3, 4, 5, 6], [0, 1, 2, 3, 4, 5], [0, 1, 2, 3, 4, 5, 6, 7, 8], [0, 1, 2, 3, 4, 5, 6, 7, 8, 9], [0, 1, 2, 3, 4, 5, 6, 7, 8, 9, 10], [0, 1, 2, 3, 4, 5, 6, 7, 8, 9, 10, 11], [0, 1, 2, 3, 4, 5, 6, 7, 8, 9, 10, 11, 12], [0, 1, 2, 3, 4, 5, 6, 7, 8, 9, 10, 11, 12], [0, 1, 2, 3, 4, 5, 6, 7, 8, 9, 10, 11, 12, 13, 14], [0, 1, 2, 3, 4, 5, 6, 7, 8, 9, 10, 11, 12], [0, 1, 2, 3, 4, 5, 6, 7, 8, 9, 10, 11, 12], [0, 1, 2, 3, 4, 5, 6, 7, 8, 9, 10, 11, 12, 13, 14, 15, 16, 17], [0, 1, 2, 3, 4, 5, 6, 7, 8, 9, 10, 11, 12, 13, 14, 15, 16, 17, 18], [0, 1, 2, 3, 4, 5, 6, 7, 8, 9, 10, 11, 12, 13, 14, 15, 16, 17, 18, 19], [0, 1, 2, 3, 4, 5, 6, 7, 8, 9, 10, 11, 12, 13, 14, 15, 16, 17, 18, 19, 20], [0, 1, 2, 3, 4, 5, 6, 7, 8, 9, 10, 11, 12, 13, 14, 15, 16, 17, 18, 19, 20, 21], [0, 1, 2, 3, 4, 5, 6, 7, 8, 9, 10, 11, 12, 13, 14, 15, 16, 17, 18, 19, 20, 21], [0, 1, 2, 3, 4, 5, 6, 7, 8, 9, 10, 11, 12, 13, 14, 15, 16, 17, 18, 19, 20, 21, 22, 23], [0, 1, 2, 3, 4, 5, 6, 7, 8, 9, 10, 11, 12, 13, 14, 15, 16, 17, 18, 19, 20, 21], [0, 1, 2, 3, 4, 5, 6, 7, 8, 9, 10, 11, 12, 13, 14, 15, 16, 17, 18, 19, 20, 21], [0, 1, 2, 3, 4, 5, 6, 7, 8, 9, 10, 11, 12, 13, 14, 15, 16, 17, 18, 19, 20, 21, 22, 23, 24, 25, 26], [0, 1, 2, 3, 4, 5, 6, 7, 8, 9, 10, 11, 12, 13, 14, 15, 16, 17, 18, 19, 20, 21, 22, 23, 24, 25, 26, 27], [0, 1, 2, 3, 4, 5, 6, 7, 8, 9, 10, 11, 12, 13, 14, 15, 16, 17, 18, 19, 20, 21, 22, 23, 24, 25, 26, 27, 28], [0, 1, 2, 3, 4, 5, 6, 7, 8, 9, 10, 11, 12, 13, 14, 15, 16, 17, 18, 19, 20, 21, 22, 23, 24, 25, 26, 27, 28, 29], [0, 1, 2, 3, 4, 5, 6, 7, 8, 9, 10, 11, 12, 13, 14, 15, 16, 17, 18, 19, 20, 21, 22, 23, 24, 25, 26, 27, 28, 29, 30], [0, 1, 2, 3, 4, 5, 6, 7, 8, 9, 10, 11, 12, 13, 14, 15, 16, 17, 18, 19, 20, 21, 22, 23, 24, 25, 26, 27, 28, 29, 30], [0, 1, 2, 3, 4, 5, 6, 7, 8, 9, 10, 11, 12, 13, 14, 15, 16, 17, 18, 19, 20, 21, 22, 23, 24, 25, 26, 27, 28, 29, 30, 31, 32], [0, 1, 2, 3, 4, 5, 6, 7, 8, 9, 10, 11, 12, 13, 14, 15, 16, 17, 18, 19, 20, 21, 22, 23, 24, 25, 26, 27, 28, 29, 30], [0, 1, 2, 3, 4, 5, 6, 7, 8, 9, 10, 11, 12, 13, 14, 15, 16, 17, 18, 19, 20, 21, 22, 23, 24, 25, 26, 27, 28, 29, 30], [0, 1, 2, 3, 4, 5, 6, 7, 8, 9, 10, 11, 12, 13, 14, 15, 16, 17, 18, 19, 20, 21, 22, 23, 24, 25, 26, 27, 28, 29, 30, 31, 32, 33, 34, 35], [0, 1, 2, 3, 4, 5, 6, 7, 8, 9, 10, 11, 12, 13, 14, 15, 16, 17, 18, 19, 20, 21, 22, 23, 24, 25, 26, 27, 28, 29, 30, 31, 32, 33, 34, 35, 36], [0, 1, 2, 3, 4, 5, 6, 7, 8, 9, 10, 11, 12, 13, 14, 15, 16, 17, 18, 19, 20, 21, 22, 23, 24, 25, 26, 27, 28, 29, 30, 31, 32, 33, 34, 35, 36, 37], [0, 1, 2, 3, 4, 5, 6, 7, 8, 9, 10, 11, 12, 13, 14, 15, 16, 17, 18, 19, 20, 21, 22, 23, 24, 25, 26, 27, 28, 29, 30, 31, 32, 33, 34, 35, 36, 37, 38], [0, 1, 2, 3, 4, 5, 6, 7, 8, 9, 10, 11, 12, 13, 14, 15, 16, 17, 18, 19, 20, 21, 22, 23, 24, 25, 26, 27, 28, 29, 30, 31, 32, 33, 34, 35, 36, 37, 38, 39], [0, 1, 2, 3, 4, 5, 6, 7, 8, 9, 10, 11, 12, 13, 14, 15, 16, 17, 18, 19, 20, 21, 22, 23, 24, 25, 26, 27, 28, 29, 30, 31, 32, 33, 34, 35, 36, 37, 38, 39], [0, 1, 2, 3, 4, 5, 6, 7, 8, 9, 10, 11, 12, 13, 14, 15, 16, 17, 18, 19, 20, 21, 22, 23, 24, 25, 26, 27, 28, 29, 30, 31, 32, 33, 34, 35, 36, 37, 38, 39, 40, 41], [0, 1, 2, 3, 4, 5, 6, 7, 8, 9, 10, 11, 12, 13, 14, 15, 16, 17, 18, 19, 20, 21, 22, 23, 24, 25, 26, 27, 28, 29, 30, 31, 32, 33, 34, 35, 36, 37, 38, 39], [0, 1, 2, 3, 4, 5, 6, 7, 8, 9, 10, 11, 12, 13, 14, 15, 16, 17, 18, 19, 20, 21, 22, 23, 24, 25, 26, 27, 28, 29, 30, 31, 32, 33, 34, 35, 36, 37, 38, 39], [0, 1, 2, 3, 4, 5, 6, 7, 8, 9, 10, 11, 12, 13, 14, 15, 16, 17, 18, 19, 20, 21, 22, 23, 24, 25, 26, 27, 28, 29, 30, 31, 32, 33, 34, 35, 36, 37, 38, 39, 40, 41, 42, 43, 44], [0, 1, 2, 3, 4, 5, 6, 7, 8, 9, 10, 11, 12, 13, 14, 15, 16, 17, 18, 19, 20, 21, 22, 23, 24, 25, 26, 27, 28, 29, 30, 31, 32, 33, 34, 35, 36, 37, 38, 39, 40, 41, 42, 43, 44, 45], [0, 1, 2, 3, 4, 5, 6, 7, 8, 9, 10, 11, 12, 13, 14, 15, 16, 17, 18, 19, 20, 21, 22, 23, 24, 25, 26, 27, 28, 29, 30, 31, 32, 33, 34, 35, 36, 37, 38, 39, 40, 41, 42, 43, 44, 45, 46], [0, 1, 2, 3, 4, 5, 6, 7, 8, 9, 10, 11, 12, 13, 14, 15, 16, 17, 18, 19, 20, 21, 22, 23, 24, 25, 26, 27, 28, 29, 30, 31, 32, 33, 34, 35, 36, 37, 38, 39, 40, 41, 42, 43, 44, 45, 46, 47], [0, 1, 2, 3, 4, 5, 6, 7, 8, 9, 10, 11, 12, 13, 14, 15, 16, 17, 18, 19, 20, 21, 22, 23, 24, 25, 26, 27, 28, 29, 30, 31, 32, 33, 34, 35, 36, 37, 38, 39, 40, 41, 42, 43, 44, 45, 46, 47, 48], [0, 1, 2, 3, 4, 5, 6, 7, 8, 9, 10, 11, 12, 13, 14, 15, 16, 17, 18, 19, 20, 21, 22, 23, 24, 25, 26, 27, 28, 29, 30, 31, 32, 33, 34, 35, 36, 37, 38, 39, 40, 41, 42, 43, 44, 45, 46, 47, 48, 49], [0, 1, 2, 3, 4, 5, 6, 7, 8, 9, 10, 11, 12, 13, 14, 15, 16, 17, 18, 19, 20, 21, 22, 23, 24, 25, 26, 27, 28, 29, 30, 31, 32, 33, 34, 35, 36, 37, 38, 39, 40, 41, 42, 43, 44, 45, 46, 47, 48], [0, 1, 2, 3, 4, 5, 6, 7, 8, 9, 10, 11, 12, 13, 14, 15, 16, 17, 18, 19, 20, 21, 22, 23, 24, 25, 26, 27, 28, 29, 30, 31, 32, 33, 34, 35, 36, 37, 38, 39, 40, 41, 42, 43, 44, 45, 46, 47, 48, 49, 50, 51], [0, 1, 2, 3, 4, 5, 6, 7, 8, 9, 10, 11, 12, 13, 14, 15, 16, 17, 18, 19, 20, 21, 22, 23, 24, 25, 26, 27, 28, 29, 30, 31, 32, 33, 34, 35, 36, 37, 38, 39, 40, 41, 42, 43, 44, 45, 46, 47, 48, 49, 50, 51, 52], [0, 1, 2, 3, 4, 5, 6, 7, 8, 9, 10, 11, 12, 13, 14, 15, 16, 17, 18, 19, 20, 21, 22, 23, 24, 25, 26, 27, 28, 29, 30, 31, 32, 33, 34, 35, 36, 37, 38, 39, 40, 41, 42, 43, 44, 45, 46, 47, 48, 49, 50, 51, 52, 53], [0, 1, 2, 3, 4, 5, 6, 7, 8, 9, 10, 11, 12, 13, 14, 15, 16, 17, 18, 19, 20, 21, 22, 23, 24, 25, 26, 27, 28, 29, 30, 31, 32, 33, 34, 35, 36, 37, 38, 39, 40, 41, 42, 43, 44, 45, 46, 47, 48, 49, 50, 51, 52, 53, 54]]) (EK := [0, 1, 5]) (EV := [?e1x0, ?e1x1, ?e1x2]) (VL := [(kv ?v1x0), (fun γ => γ 1), (kv ?v1x2), (fun γ => γ 3), (kv (.bool true)), (kv ?v1x5), (kv ?v1x6), (kv (.int .i64 ((pl (co m0) : Int) - 1))), (kv ?v1x8), (kv (.int .i64 ((pl (co m0) : Int) - 1))), (kv ?v1x10), (kv ?v1x11), (kv ?v1x12), (kv ?v1x13), (kv ?v1x14), (fun γ => γ 15), (kv ?v1x16), (kv ?v1x17), (fun γ => γ 18), (kv (.bool true)), (kv ?v1x20), (kv ?v1x21), (kv ?v1x22), (kv ?v1x23), (fun γ => γ 24), (kv ?v1x25), (kv ?v1x26), (fun γ => γ 27), (kv (.bool true)), (kv ?v1x29), (kv ?v1x30), (kv ?v1x31), (kv ?v1x32), (fun γ => γ 33), (kv ?v1x34), (kv ?v1x35), (fun γ => γ 36), (kv (.bool true)), (kv ?v1x38), (kv ?v1x39), (kv ?v1x40), (kv ?v1x41), (fun γ => γ 42), (kv ?v1x43), (kv ?v1x44), (fun γ => γ 45), (kv (.bool true)), (kv ?v1x47), (kv ?v1x48), (kv ?v1x49), (fun γ => γ 50), (kv ?v1x51), (fun γ => γ 52), (kv (.bool true)), (kv ?v1x54)]) (FL := fun γ w' => [True, IsP 0 w' (γ 1) (co m0), True, IsP 0 w' (γ 3) (co m0), True, True, True, True, True, True, True, True, True, True, True, IsP 0 w' (γ 15) (pad (co m0) (co m1)), True, True, IsP 0 w' (γ 18) (pad (co m0) (co m1)), True, True, True, True, True, IsP 0 w' (γ 24) (psb (co m0) (co m1)), True, True, IsP 0 w' (γ 27) (psb (co m0) (co m1)), True, True, True, True, True, IsP 0 w' (γ 33) (cv (co m0) (co m1)), True, True, IsP 0 w' (γ 36) (cv (co m0) (co m1)), True, True, True, True, True, IsP 0 w' (γ 42) (psc q (co m0)), True, True, IsP 0 w' (γ 45) (psc q (co m0)), True, True, True, True, IsP 0 w' (γ 50) (pd (co m0)), True, IsP 0 w' (γ 52) (pd (co m0)), True, True]) ?hE1 (by kernel_rfl) (by kernel_rfl) (by rfl) (by kernel_rfl) ?hloc1 ?hmono1 ?hstep1 ?htail1
    case hE1 => refine ⟨?_, ?_, ?_, trivial⟩ <;> (simp only [List.getElem?_toArray, List.getElem?_cons_succ, List.getElem?_cons_zero]; rfl)
    case hstep1 =>
      refine ⟨⟨⟨⟨⟨⟨⟨⟨⟨⟨⟨⟨⟨⟨⟨⟨⟨⟨⟨⟨⟨⟨⟨⟨⟨⟨⟨⟨⟨⟨⟨⟨⟨⟨⟨⟨⟨⟨⟨⟨⟨⟨⟨⟨⟨⟨⟨⟨⟨⟨⟨⟨⟨⟨⟨trivial, ?_⟩, ?_⟩, ?_⟩, ?_⟩, ?_⟩, ?_⟩, ?_⟩, ?_⟩, ?_⟩, ?_⟩, ?_⟩, ?_⟩, ?_⟩, ?_⟩, ?_⟩, ?_⟩, ?_⟩, ?_⟩, ?_⟩, ?_⟩, ?_⟩, ?_⟩, ?_⟩, ?_⟩, ?_⟩, ?_⟩, ?_⟩, ?_⟩, ?_⟩, ?_⟩, ?_⟩, ?_⟩, ?_⟩, ?_⟩, ?_⟩, ?_⟩, ?_⟩, ?_⟩, ?_⟩, ?_⟩, ?_⟩, ?_⟩, ?_⟩, ?_⟩, ?_⟩, ?_⟩, ?_⟩, ?_⟩, ?_⟩, ?_⟩, ?_⟩, ?_⟩, ?_⟩, ?_⟩, ?_⟩
      · intro γ w' he hf; clear hf; refine ⟨trivial, ?_⟩; intro R hR
        have hc := he.cells
        go_simp
        (try go_ints); (try (rw [if_neg (by omega)])); (try (rw [if_pos (by omega)])); (try go_simp); (try go_ints)
        refine hR _ _ (Ext.refl _) ?_ trivial
        rfl
      · intro γ w' he hf; clear hf; refine ⟨trivial, ?_⟩; intro R hR
        go_simp
        refine Calls.mono (show Calls _ _ _ w' (Gives w' fun r w'' => IsP 0 w'' (r) (co m0)) from Gives.imp (normal_p _ m0 w' (P0.out.ext (Hx.out.trans he)) (by omega)) fun _ _ h => h.base_le (Nat.zero_le _)) ?_
        rintro e w2 ⟨v, rfl, hv, hx⟩
        exact ⟨v, rfl, hR v w2 hx rfl hv⟩
      · intro γ w' he hf; clear hf; refine ⟨trivial, ?_⟩; intro R hR
        have hc := he.cells
        go_simp
        (try go_ints); (try (rw [if_neg (by omega)])); (try (rw [if_pos (by omega)])); (try go_simp); (try go_ints)
        refine hR _ _ (Ext.refl _) ?_ trivial
        rfl
      · intro γ w' he hf; have f1 : IsP 0 w' (γ 1) (co m0) := hf 1 (by decide); clear hf; refine ⟨trivial, ?_⟩; intro R hR
        go_simp
        refine Calls.mono (show Calls _ _ _ w' (Gives w' fun r w'' => IsP 0 w'' (r) (co m0)) from Gives.imp (normal_rp _ m0 w' (P0.out.ext (Hx.out.trans he)) (by omega)) fun _ _ h => h.base_le (Nat.zero_le _)) ?_
        rintro e w2 ⟨v, rfl, hv, hx⟩
        exact ⟨v, rfl, hR v w2 hx rfl hv⟩
      · intro γ w' he hf; have f1 : IsP 0 w' (γ 1) (co m0) := hf 1 (by decide); have f3 : IsP 0 w' (γ 3) (co m0) := hf 3 (by decide); clear hf; refine ⟨trivial, ?_⟩; intro R hR
        go_simp
        refine Calls.mono (show Calls _ _ _ w' (Gives w' fun r _ => r = .bool true) from samerats_p _ _ _ _ _ w' f1 f3 (by have := HK.out.1; omega)) ?_
        rintro e w2 ⟨v, rfl, rfl, hx⟩
        exact ⟨_, rfl, hR _ w2 hx rfl trivial⟩
      · intro γ w' he hf; have f1 : IsP 0 w' (γ 1) (co m0) := hf 1 (by decide); have f3 : IsP 0 w' (γ 3) (co m0) := hf 3 (by decide); clear hf; refine ⟨trivial, ?_⟩; intro R hR
        have hc := he.cells
        go_simp
        (try go_ints); (try (rw [if_neg (by omega)])); (try (rw [if_pos (by omega)])); (try go_simp); (try go_ints)
        refine hR _ _ (Ext.refl _) ?_ trivial
        rfl
      · intro γ w' he hf; have f1 : IsP 0 w' (γ 1) (co m0) := hf 1 (by decide); have f3 : IsP 0 w' (γ 3) (co m0) := hf 3 (by decide); clear hf; refine ⟨rfl, ?_⟩; intro R hR
        have hc := he.cells
        go_simp
        (try go_ints); (try (rw [if_neg (by omega)])); (try (rw [if_pos (by omega)])); (try go_simp); (try go_ints)
        refine hR _ _ (Ext.refl _) ?_ trivial
        rfl
      · intro γ w' he hf; have f1 : IsP 0 w' (γ 1) (co m0) := hf 1 (by decide); have f3 : IsP 0 w' (γ 3) (co m0) := hf 3 (by decide); clear hf; refine ⟨rfl, ?_⟩; intro R hR
        go_simp
        refine Calls.mono (show Calls _ _ _ w' (Gives w' fun r _ => r = .int .i64 ((pl (co m0) : Int) - 1)) from degree_p _ m0 w' (P0.out.ext (Hx.out.trans he)) (by omega)) ?_
        rintro e w2 ⟨v, rfl, rfl, hx⟩
        exact ⟨_, rfl, hR _ w2 hx rfl trivial⟩
      · intro γ w' he hf; have f1 : IsP 0 w' (γ 1) (co m0) := hf 1 (by decide); have f3 : IsP 0 w' (γ 3) (co m0) := hf 3 (by decide); clear hf; refine ⟨rfl, ?_⟩; intro R hR
        have hc := he.cells
        go_simp
        (try go_ints); (try (rw [if_neg (by omega)])); (try (rw [if_pos (by omega)])); (try go_simp); (try go_ints)
        refine hR _ _ (Ext.refl _) ?_ trivial
        rfl
      · intro γ w' he hf; have f1 : IsP 0 w' (γ 1) (co m0) := hf 1 (by decide); have f3 : IsP 0 w' (γ 3) (co m0) := hf 3 (by decide); clear hf; refine ⟨rfl, ?_⟩; intro R hR
        go_simp
        refine Calls.mono (show Calls _ _ _ w' (Gives w' fun r _ => r = .int .i64 ((pl (co m0) : Int) - 1)) from degree_rp _ m0 w' (P0.out.ext (Hx.out.trans he)) (by omega)) ?_
        rintro e w2 ⟨v, rfl, rfl, hx⟩
        exact ⟨_, rfl, hR _ w2 hx rfl trivial⟩
      · intro γ w' he hf; have f1 : IsP 0 w' (γ 1) (co m0) := hf 1 (by decide); have f3 : IsP 0 w' (γ 3) (co m0) := hf 3 (by decide); clear hf; refine ⟨rfl, ?_⟩; intro R hR
        have hc := he.cells
        go_simp
        (try go_ints); (try (rw [if_neg (by omega)])); (try (rw [if_pos (by omega)])); (try go_simp); (try go_ints)
        refine hR _ _ (Ext.refl _) ?_ trivial
        rfl
      · intro γ w' he hf; have f1 : IsP 0 w' (γ 1) (co m0) := hf 1 (by decide); have f3 : IsP 0 w' (γ 3) (co m0) := hf 3 (by decide); clear hf; refine ⟨trivial, ?_⟩; intro R hR
        have hc := he.cells
        go_simp
        (try go_ints); (try (rw [if_neg (by omega)])); (try (rw [if_pos (by omega)])); (try go_simp); (try go_ints)
        refine hR _ _ (Ext.refl _) ?_ trivial
        rfl
      · intro γ w' he hf; have f1 : IsP 0 w' (γ 1) (co m0) := hf 1 (by decide); have f3 : IsP 0 w' (γ 3) (co m0) := hf 3 (by decide); clear hf; refine ⟨trivial, ?_⟩; intro R hR
        have hc := he.cells
        go_simp
        (try go_ints); (try (rw [if_neg (by omega)])); (try (rw [if_pos (by omega)])); (try go_simp); (try go_ints)
        refine hR _ _ (Ext.refl _) ?_ trivial
        rfl
      · intro γ w' he hf; have f1 : IsP 0 w' (γ 1) (co m0) := hf 1 (by decide); have f3 : IsP 0 w' (γ 3) (co m0) := hf 3 (by decide); clear hf; refine ⟨rfl, ?_⟩; intro R hR
        have hc := he.cells
        go_simp
        (try go_ints); (try (rw [if_neg (by omega)])); (try (rw [if_pos (by omega)])); (try go_simp); (try go_ints)
        refine hR _ _ (Ext.refl _) ?_ trivial
        rfl
      · intro γ w' he hf; have f1 : IsP 0 w' (γ 1) (co m0) := hf 1 (by decide); have f3 : IsP 0 w' (γ 3) (co m0) := hf 3 (by decide); clear hf; refine ⟨rfl, ?_⟩; intro R hR
        have hc := he.cells
        go_simp
        (try go_ints); (try (rw [if_neg (by omega)])); (try (rw [if_pos (by omega)])); (try go_simp); (try go_ints)
        refine hR _ _ (Ext.refl _) ?_ trivial
        rfl
      · intro γ w' he hf; have f1 : IsP 0 w' (γ 1) (co m0) := hf 1 (by decide); have f3 : IsP 0 w' (γ 3) (co m0) := hf 3 (by decide); clear hf; refine ⟨rfl, ?_⟩; intro R hR
        go_simp
        refine Calls.mono (show Calls _ _ _ w' (Gives w' fun r w'' => IsP 0 w'' (r) (pad (co m0) (co m1))) from Gives.imp (add_p _ _ m0 m1 w' (P0.out.ext (Hx.out.trans he)) (P1.out.ext (Hx.out.trans he)) (by omega) (by omega)) fun _ _ h => h.base_le (Nat.zero_le _)) ?_
        rintro e w2 ⟨v, rfl, hv, hx⟩
        exact ⟨v, rfl, hR v w2 hx rfl hv⟩
      · intro γ w' he hf; have f1 : IsP 0 w' (γ 1) (co m0) := hf 1 (by decide); have f3 : IsP 0 w' (γ 3) (co m0) := hf 3 (by decide); clear hf; refine ⟨rfl, ?_⟩; intro R hR
        have hc := he.cells
        go_simp
        (try go_ints); (try (rw [if_neg (by omega)])); (try (rw [if_pos (by omega)])); (try go_simp); (try go_ints)
        refine hR _ _ (Ext.refl _) ?_ trivial
        rfl
      · intro γ w' he hf; have f1 : IsP 0 w' (γ 1) (co m0) := hf 1 (by decide); have f3 : IsP 0 w' (γ 3) (co m0) := hf 3 (by decide); clear hf; refine ⟨rfl, ?_⟩; intro R hR
        have hc := he.cells
        go_simp
        (try go_ints); (try (rw [if_neg (by omega)])); (try (rw [if_pos (by omega)])); (try go_simp); (try go_ints)
        refine hR _ _ (Ext.refl _) ?_ trivial
        rfl
      · intro γ w' he hf; have f1 : IsP 0 w' (γ 1) (co m0) := hf 1 (by decide); have f3 : IsP 0 w' (γ 3) (co m0) := hf 3 (by decide); have f15 : IsP 0 w' (γ 15) (pad (co m0) (co m1)) := hf 15 (by decide); clear hf; refine ⟨rfl, ?_⟩; intro R hR
        go_simp
        refine Calls.mono (show Calls _ _ _ w' (Gives w' fun r w'' => IsP 0 w'' (r) (pad (co m0) (co m1))) from Gives.imp (add_rp _ _ m0 m1 2 2 w' (P0.out.ext (Hx.out.trans he)) (P1.out.ext (Hx.out.trans he)) HC.out.1 HC.out.2 (by omega) (by omega) (by omega)) fun _ _ h => h.base_le (Nat.zero_le _)) ?_
        rintro e w2 ⟨v, rfl, hv, hx⟩
        exact ⟨v, rfl, hR v w2 hx rfl hv⟩
      · intro γ w' he hf; have f1 : IsP 0 w' (γ 1) (co m0) := hf 1 (by decide); have f3 : IsP 0 w' (γ 3) (co m0) := hf 3 (by decide); have f15 : IsP 0 w' (γ 15) (pad (co m0) (co m1)) := hf 15 (by decide); have f18 : IsP 0 w' (γ 18) (pad (co m0) (co m1)) := hf 18 (by decide); clear hf; refine ⟨rfl, ?_⟩; intro R hR
        go_simp
        refine Calls.mono (show Calls _ _ _ w' (Gives w' fun r _ => r = .bool true) from samerats_p _ _ _ _ _ w' f15 f18 (by have := HK.out.2.1; omega)) ?_
        rintro e w2 ⟨v, rfl, rfl, hx⟩
        exact ⟨_, rfl, hR _ w2 hx rfl trivial⟩
      · intro γ w' he hf; have f1 : IsP 0 w' (γ 1) (co m0) := hf 1 (by decide); have f3 : IsP 0 w' (γ 3) (co m0) := hf 3 (by decide); have f15 : IsP 0 w' (γ 15) (pad (co m0) (co m1)) := hf 15 (by decide); have f18 : IsP 0 w' (γ 18) (pad (co m0) (co m1)) := hf 18 (by decide); clear hf; refine ⟨trivial, ?_⟩; intro R hR
        have hc := he.cells
        go_simp
        (try go_ints); (try (rw [if_neg (by omega)])); (try (rw [if_pos (by omega)])); (try go_simp); (try go_ints)
        refine hR _ _ (Ext.refl _) ?_ trivial
        rfl
      · intro γ w' he hf; have f1 : IsP 0 w' (γ 1) (co m0) := hf 1 (by decide); have f3 : IsP 0 w' (γ 3) (co m0) := hf 3 (by decide); have f15 : IsP 0 w' (γ 15) (pad (co m0) (co m1)) := hf 15 (by decide); have f18 : IsP 0 w' (γ 18) (pad (co m0) (co m1)) := hf 18 (by decide); clear hf; refine ⟨trivial, ?_⟩; intro R hR
        have hc := he.cells
        go_simp
        (try go_ints); (try (rw [if_neg (by omega)])); (try (rw [if_pos (by omega)])); (try go_simp); (try go_ints)
        refine hR _ _ (Ext.refl _) ?_ trivial
        rfl
      · intro γ w' he hf; have f1 : IsP 0 w' (γ 1) (co m0) := hf 1 (by decide); have f3 : IsP 0 w' (γ 3) (co m0) := hf 3 (by decide); have f15 : IsP 0 w' (γ 15) (pad (co m0) (co m1)) := hf 15 (by decide); have f18 : IsP 0 w' (γ 18) (pad (co m0) (co m1)) := hf 18 (by decide); clear hf; refine ⟨rfl, ?_⟩; intro R hR
        have hc := he.cells
        go_simp
        (try go_ints); (try (rw [if_neg (by omega)])); (try (rw [if_pos (by omega)])); (try go_simp); (try go_ints)
        refine hR _ _ (Ext.refl _) ?_ trivial
        rfl
      · intro γ w' he hf; have f1 : IsP 0 w' (γ 1) (co m0) := hf 1 (by decide); have f3 : IsP 0 w' (γ 3) (co m0) := hf 3 (by decide); have f15 : IsP 0 w' (γ 15) (pad (co m0) (co m1)) := hf 15 (by decide); have f18 : IsP 0 w' (γ 18) (pad (co m0) (co m1)) := hf 18 (by decide); clear hf; refine ⟨rfl, ?_⟩; intro R hR
        have hc := he.cells
        go_simp
        (try go_ints); (try (rw [if_neg (by omega)])); (try (rw [if_pos (by omega)])); (try go_simp); (try go_ints)
        refine hR _ _ (Ext.refl _) ?_ trivial
        rfl
      · intro γ w' he hf; have f1 : IsP 0 w' (γ 1) (co m0) := hf 1 (by decide); have f3 : IsP 0 w' (γ 3) (co m0) := hf 3 (by decide); have f15 : IsP 0 w' (γ 15) (pad (co m0) (co m1)) := hf 15 (by decide); have f18 : IsP 0 w' (γ 18) (pad (co m0) (co m1)) := hf 18 (by decide); clear hf; refine ⟨rfl, ?_⟩; intro R hR
        go_simp
        refine Calls.mono (show Calls _ _ _ w' (Gives w' fun r w'' => IsP 0 w'' (r) (psb (co m0) (co m1))) from Gives.imp (sub_p _ _ m0 m1 w' (P0.out.ext (Hx.out.trans he)) (P1.out.ext (Hx.out.trans he)) (by omega) (by omega)) fun _ _ h => h.base_le (Nat.zero_le _)) ?_
        rintro e w2 ⟨v, rfl, hv, hx⟩
        exact ⟨v, rfl, hR v w2 hx rfl hv⟩
      · intro γ w' he hf; have f1 : IsP 0 w' (γ 1) (co m0) := hf 1 (by decide); have f3 : IsP 0 w' (γ 3) (co m0) := hf 3 (by decide); have f15 : IsP 0 w' (γ 15) (pad (co m0) (co m1)) := hf 15 (by decide); have f18 : IsP 0 w' (γ 18) (pad (co m0) (co m1)) := hf 18 (by decide); clear hf; refine ⟨rfl, ?_⟩; intro R hR
        have hc := he.cells
        go_simp
        (try go_ints); (try (rw [if_neg (by omega)])); (try (rw [if_pos (by omega)])); (try go_simp); (try go_ints)
        refine hR _ _ (Ext.refl _) ?_ trivial
        rfl
      · intro γ w' he hf; have f1 : IsP 0 w' (γ 1) (co m0) := hf 1 (by decide); have f3 : IsP 0 w' (γ 3) (co m0) := hf 3 (by decide); have f15 : IsP 0 w' (γ 15) (pad (co m0) (co m1)) := hf 15 (by decide); have f18 : IsP 0 w' (γ 18) (pad (co m0) (co m1)) := hf 18 (by decide); clear hf; refine ⟨rfl, ?_⟩; intro R hR
        have hc := he.cells
        go_simp
        (try go_ints); (try (rw [if_neg (by omega)])); (try (rw [if_pos (by omega)])); (try go_simp); (try go_ints)
        refine hR _ _ (Ext.refl _) ?_ trivial
        rfl
      · intro γ w' he hf; have f1 : IsP 0 w' (γ 1) (co m0) := hf 1 (by decide); have f3 : IsP 0 w' (γ 3) (co m0) := hf 3 (by decide); have f15 : IsP 0 w' (γ 15) (pad (co m0) (co m1)) := hf 15 (by decide); have f18 : IsP 0 w' (γ 18) (pad (co m0) (co m1)) := hf 18 (by decide); have f24 : IsP 0 w' (γ 24) (psb (co m0) (co m1)) := hf 24 (by decide); clear hf; refine ⟨rfl, ?_⟩; intro R hR
        go_simp
        refine Calls.mono (show Calls _ _ _ w' (Gives w' fun r w'' => IsP 0 w'' (r) (psb (co m0) (co m1))) from Gives.imp (sub_rp _ _ m0 m1 2 2 w' (P0.out.ext (Hx.out.trans he)) (P1.out.ext (Hx.out.trans he)) HC.out.1 HC.out.2 (by omega) (by omega) (by omega)) fun _ _ h => h.base_le (Nat.zero_le _)) ?_
        rintro e w2 ⟨v, rfl, hv, hx⟩
        exact ⟨v, rfl, hR v w2 hx rfl hv⟩
      · intro γ w' he hf; have f1 : IsP 0 w' (γ 1) (co m0) := hf 1 (by decide); have f3 : IsP 0 w' (γ 3) (co m0) := hf 3 (by decide); have f15 : IsP 0 w' (γ 15) (pad (co m0) (co m1)) := hf 15 (by decide); have f18 : IsP 0 w' (γ 18) (pad (co m0) (co m1)) := hf 18 (by decide); have f24 : IsP 0 w' (γ 24) (psb (co m0) (co m1)) := hf 24 (by decide); have f27 : IsP 0 w' (γ 27) (psb (co m0) (co m1)) := hf 27 (by decide); clear hf; refine ⟨rfl, ?_⟩; intro R hR
        go_simp
        refine Calls.mono (show Calls _ _ _ w' (Gives w' fun r _ => r = .bool true) from samerats_p _ _ _ _ _ w' f24 f27 (by have := HK.out.2.2.1; omega)) ?_
        rintro e w2 ⟨v, rfl, rfl, hx⟩
        exact ⟨_, rfl, hR _ w2 hx rfl trivial⟩
      · intro γ w' he hf; have f1 : IsP 0 w' (γ 1) (co m0) := hf 1 (by decide); have f3 : IsP 0 w' (γ 3) (co m0) := hf 3 (by decide); have f15 : IsP 0 w' (γ 15) (pad (co m0) (co m1)) := hf 15 (by decide); have f18 : IsP 0 w' (γ 18) (pad (co m0) (co m1)) := hf 18 (by decide); have f24 : IsP 0 w' (γ 24) (psb (co m0) (co m1)) := hf 24 (by decide); have f27 : IsP 0 w' (γ 27) (psb (co m0) (co m1)) := hf 27 (by decide); clear hf; refine ⟨trivial, ?_⟩; intro R hR
        have hc := he.cells
        go_simp
        (try go_ints); (try (rw [if_neg (by omega)])); (try (rw [if_pos (by omega)])); (try go_simp); (try go_ints)
        refine hR _ _ (Ext.refl _) ?_ trivial
        rfl
      · intro γ w' he hf; have f1 : IsP 0 w' (γ 1) (co m0) := hf 1 (by decide); have f3 : IsP 0 w' (γ 3) (co m0) := hf 3 (by decide); have f15 : IsP 0 w' (γ 15) (pad (co m0) (co m1)) := hf 15 (by decide); have f18 : IsP 0 w' (γ 18) (pad (co m0) (co m1)) := hf 18 (by decide); have f24 : IsP 0 w' (γ 24) (psb (co m0) (co m1)) := hf 24 (by decide); have f27 : IsP 0 w' (γ 27) (psb (co m0) (co m1)) := hf 27 (by decide); clear hf; refine ⟨trivial, ?_⟩; intro R hR
        have hc := he.cells
        go_simp
        (try go_ints); (try (rw [if_neg (by omega)])); (try (rw [if_pos (by omega)])); (try go_simp); (try go_ints)
        refine hR _ _ (Ext.refl _) ?_ trivial
        rfl
      · intro γ w' he hf; have f1 : IsP 0 w' (γ 1) (co m0) := hf 1 (by decide); have f3 : IsP 0 w' (γ 3) (co m0) := hf 3 (by decide); have f15 : IsP 0 w' (γ 15) (pad (co m0) (co m1)) := hf 15 (by decide); have f18 : IsP 0 w' (γ 18) (pad (co m0) (co m1)) := hf 18 (by decide); have f24 : IsP 0 w' (γ 24) (psb (co m0) (co m1)) := hf 24 (by decide); have f27 : IsP 0 w' (γ 27) (psb (co m0) (co m1)) := hf 27 (by decide); clear hf; refine ⟨rfl, ?_⟩; intro R hR
        have hc := he.cells
        go_simp
        (try go_ints); (try (rw [if_neg (by omega)])); (try (rw [if_pos (by omega)])); (try go_simp); (try go_ints)
        refine hR _ _ (Ext.refl _) ?_ trivial
        rfl
      · intro γ w' he hf; have f1 : IsP 0 w' (γ 1) (co m0) := hf 1 (by decide); have f3 : IsP 0 w' (γ 3) (co m0) := hf 3 (by decide); have f15 : IsP 0 w' (γ 15) (pad (co m0) (co m1)) := hf 15 (by decide); have f18 : IsP 0 w' (γ 18) (pad (co m0) (co m1)) := hf 18 (by decide); have f24 : IsP 0 w' (γ 24) (psb (co m0) (co m1)) := hf 24 (by decide); have f27 : IsP 0 w' (γ 27) (psb (co m0) (co m1)) := hf 27 (by decide); clear hf; refine ⟨rfl, ?_⟩; intro R hR
        have hc := he.cells
        go_simp
        (try go_ints); (try (rw [if_neg (by omega)])); (try (rw [if_pos (by omega)])); (try go_simp); (try go_ints)
        refine hR _ _ (Ext.refl _) ?_ trivial
        rfl
      · intro γ w' he hf; have f1 : IsP 0 w' (γ 1) (co m0) := hf 1 (by decide); have f3 : IsP 0 w' (γ 3) (co m0) := hf 3 (by decide); have f15 : IsP 0 w' (γ 15) (pad (co m0) (co m1)) := hf 15 (by decide); have f18 : IsP 0 w' (γ 18) (pad (co m0) (co m1)) := hf 18 (by decide); have f24 : IsP 0 w' (γ 24) (psb (co m0) (co m1)) := hf 24 (by decide); have f27 : IsP 0 w' (γ 27) (psb (co m0) (co m1)) := hf 27 (by decide); clear hf; refine ⟨rfl, ?_⟩; intro R hR
        go_simp
        refine Calls.mono (show Calls _ _ _ w' (Gives w' fun r w'' => IsP 0 w'' (r) (cv (co m0) (co m1))) from Gives.imp (mul_p _ _ m0 m1 2 2 w' (P0.out.ext (Hx.out.trans he)) (P1.out.ext (Hx.out.trans he)) HC.out.1 HC.out.2 (by omega) (by omega) (by have := HK.out.2.2.2.2.2.2.1; omega)) fun _ _ h => h.base_le (Nat.zero_le _)) ?_
        rintro e w2 ⟨v, rfl, hv, hx⟩
        exact ⟨v, rfl, hR v w2 hx rfl hv⟩
      · intro γ w' he hf; have f1 : IsP 0 w' (γ 1) (co m0) := hf 1 (by decide); have f3 : IsP 0 w' (γ 3) (co m0) := hf 3 (by decide); have f15 : IsP 0 w' (γ 15) (pad (co m0) (co m1)) := hf 15 (by decide); have f18 : IsP 0 w' (γ 18) (pad (co m0) (co m1)) := hf 18 (by decide); have f24 : IsP 0 w' (γ 24) (psb (co m0) (co m1)) := hf 24 (by decide); have f27 : IsP 0 w' (γ 27) (psb (co m0) (co m1)) := hf 27 (by decide); clear hf; refine ⟨rfl, ?_⟩; intro R hR
        have hc := he.cells
        go_simp
        (try go_ints); (try (rw [if_neg (by omega)])); (try (rw [if_pos (by omega)])); (try go_simp); (try go_ints)
        refine hR _ _ (Ext.refl _) ?_ trivial
        rfl
      · intro γ w' he hf; have f1 : IsP 0 w' (γ 1) (co m0) := hf 1 (by decide); have f3 : IsP 0 w' (γ 3) (co m0) := hf 3 (by decide); have f15 : IsP 0 w' (γ 15) (pad (co m0) (co m1)) := hf 15 (by decide); have f18 : IsP 0 w' (γ 18) (pad (co m0) (co m1)) := hf 18 (by decide); have f24 : IsP 0 w' (γ 24) (psb (co m0) (co m1)) := hf 24 (by decide); have f27 : IsP 0 w' (γ 27) (psb (co m0) (co m1)) := hf 27 (by decide); clear hf; refine ⟨rfl, ?_⟩; intro R hR
        have hc := he.cells
        go_simp
        (try go_ints); (try (rw [if_neg (by omega)])); (try (rw [if_pos (by omega)])); (try go_simp); (try go_ints)
        refine hR _ _ (Ext.refl _) ?_ trivial
        rfl
      · intro γ w' he hf; have f1 : IsP 0 w' (γ 1) (co m0) := hf 1 (by decide); have f3 : IsP 0 w' (γ 3) (co m0) := hf 3 (by decide); have f15 : IsP 0 w' (γ 15) (pad (co m0) (co m1)) := hf 15 (by decide); have f18 : IsP 0 w' (γ 18) (pad (co m0) (co m1)) := hf 18 (by decide); have f24 : IsP 0 w' (γ 24) (psb (co m0) (co m1)) := hf 24 (by decide); have f27 : IsP 0 w' (γ 27) (psb (co m0) (co m1)) := hf 27 (by decide); have f33 : IsP 0 w' (γ 33) (cv (co m0) (co m1)) := hf 33 (by decide); clear hf; refine ⟨rfl, ?_⟩; intro R hR
        go_simp
        refine Calls.mono (show Calls _ _ _ w' (Gives w' fun r w'' => IsP 0 w'' (r) (cv (co m0) (co m1))) from Gives.imp (mul_rp _ _ m0 m1 2 2 w' (P0.out.ext (Hx.out.trans he)) (P1.out.ext (Hx.out.trans he)) HC.out.1 HC.out.2 (by have := HK.out.2.2.2.2.2.2.2; omega) (by omega) (by omega)) fun _ _ h => h.base_le (Nat.zero_le _)) ?_
        rintro e w2 ⟨v, rfl, hv, hx⟩
        exact ⟨v, rfl, hR v w2 hx rfl hv⟩
      · intro γ w' he hf; have f1 : IsP 0 w' (γ 1) (co m0) := hf 1 (by decide); have f3 : IsP 0 w' (γ 3) (co m0) := hf 3 (by decide); have f15 : IsP 0 w' (γ 15) (pad (co m0) (co m1)) := hf 15 (by decide); have f18 : IsP 0 w' (γ 18) (pad (co m0) (co m1)) := hf 18 (by decide); have f24 : IsP 0 w' (γ 24) (psb (co m0) (co m1)) := hf 24 (by decide); have f27 : IsP 0 w' (γ 27) (psb (co m0) (co m1)) := hf 27 (by decide); have f33 : IsP 0 w' (γ 33) (cv (co m0) (co m1)) := hf 33 (by decide); have f36 : IsP 0 w' (γ 36) (cv (co m0) (co m1)) := hf 36 (by decide); clear hf; refine ⟨rfl, ?_⟩; intro R hR
        go_simp
        refine Calls.mono (show Calls _ _ _ w' (Gives w' fun r _ => r = .bool true) from samerats_p _ _ _ _ _ w' f33 f36 (by have := HK.out.2.2.2.1; omega)) ?_
        rintro e w2 ⟨v, rfl, rfl, hx⟩
        exact ⟨_, rfl, hR _ w2 hx rfl trivial⟩
      · intro γ w' he hf; have f1 : IsP 0 w' (γ 1) (co m0) := hf 1 (by decide); have f3 : IsP 0 w' (γ 3) (co m0) := hf 3 (by decide); have f15 : IsP 0 w' (γ 15) (pad (co m0) (co m1)) := hf 15 (by decide); have f18 : IsP 0 w' (γ 18) (pad (co m0) (co m1)) := hf 18 (by decide); have f24 : IsP 0 w' (γ 24) (psb (co m0) (co m1)) := hf 24 (by decide); have f27 : IsP 0 w' (γ 27) (psb (co m0) (co m1)) := hf 27 (by decide); have f33 : IsP 0 w' (γ 33) (cv (co m0) (co m1)) := hf 33 (by decide); have f36 : IsP 0 w' (γ 36) (cv (co m0) (co m1)) := hf 36 (by decide); clear hf; refine ⟨trivial, ?_⟩; intro R hR
        have hc := he.cells
        go_simp
        (try go_ints); (try (rw [if_neg (by omega)])); (try (rw [if_pos (by omega)])); (try go_simp); (try go_ints)
        refine hR _ _ (Ext.refl _) ?_ trivial
        rfl
      · intro γ w' he hf; have f1 : IsP 0 w' (γ 1) (co m0) := hf 1 (by decide); have f3 : IsP 0 w' (γ 3) (co m0) := hf 3 (by decide); have f15 : IsP 0 w' (γ 15) (pad (co m0) (co m1)) := hf 15 (by decide); have f18 : IsP 0 w' (γ 18) (pad (co m0) (co m1)) := hf 18 (by decide); have f24 : IsP 0 w' (γ 24) (psb (co m0) (co m1)) := hf 24 (by decide); have f27 : IsP 0 w' (γ 27) (psb (co m0) (co m1)) := hf 27 (by decide); have f33 : IsP 0 w' (γ 33) (cv (co m0) (co m1)) := hf 33 (by decide); have f36 : IsP 0 w' (γ 36) (cv (co m0) (co m1)) := hf 36 (by decide); clear hf; refine ⟨trivial, ?_⟩; intro R hR
        have hc := he.cells
        go_simp
        (try go_ints); (try (rw [if_neg (by omega)])); (try (rw [if_pos (by omega)])); (try go_simp); (try go_ints)
        refine hR _ _ (Ext.refl _) ?_ trivial
        rfl
      · intro γ w' he hf; have f1 : IsP 0 w' (γ 1) (co m0) := hf 1 (by decide); have f3 : IsP 0 w' (γ 3) (co m0) := hf 3 (by decide); have f15 : IsP 0 w' (γ 15) (pad (co m0) (co m1)) := hf 15 (by decide); have f18 : IsP 0 w' (γ 18) (pad (co m0) (co m1)) := hf 18 (by decide); have f24 : IsP 0 w' (γ 24) (psb (co m0) (co m1)) := hf 24 (by decide); have f27 : IsP 0 w' (γ 27) (psb (co m0) (co m1)) := hf 27 (by decide); have f33 : IsP 0 w' (γ 33) (cv (co m0) (co m1)) := hf 33 (by decide); have f36 : IsP 0 w' (γ 36) (cv (co m0) (co m1)) := hf 36 (by decide); clear hf; refine ⟨rfl, ?_⟩; intro R hR
        have hc := he.cells
        go_simp
        (try go_ints); (try (rw [if_neg (by omega)])); (try (rw [if_pos (by omega)])); (try go_simp); (try go_ints)
        refine hR _ _ (Ext.refl _) ?_ trivial
        rfl
      · intro γ w' he hf; have f1 : IsP 0 w' (γ 1) (co m0) := hf 1 (by decide); have f3 : IsP 0 w' (γ 3) (co m0) := hf 3 (by decide); have f15 : IsP 0 w' (γ 15) (pad (co m0) (co m1)) := hf 15 (by decide); have f18 : IsP 0 w' (γ 18) (pad (co m0) (co m1)) := hf 18 (by decide); have f24 : IsP 0 w' (γ 24) (psb (co m0) (co m1)) := hf 24 (by decide); have f27 : IsP 0 w' (γ 27) (psb (co m0) (co m1)) := hf 27 (by decide); have f33 : IsP 0 w' (γ 33) (cv (co m0) (co m1)) := hf 33 (by decide); have f36 : IsP 0 w' (γ 36) (cv (co m0) (co m1)) := hf 36 (by decide); clear hf; refine ⟨rfl, ?_⟩; intro R hR
        have hc := he.cells
        have cq0 := he.cell ca0
        have cq1 := he.cell ca1
        have cq2 := he.cell ca2
        have cq3 := he.cell ca3
        go_simp
        (try go_ints); (try (rw [if_neg (by omega)])); (try (rw [if_pos (by omega)])); (try go_simp); (try go_ints)
        refine hR _ _ (Ext.refl _) ?_ trivial
        rfl
      · intro γ w' he hf; have f1 : IsP 0 w' (γ 1) (co m0) := hf 1 (by decide); have f3 : IsP 0 w' (γ 3) (co m0) := hf 3 (by decide); have f15 : IsP 0 w' (γ 15) (pad (co m0) (co m1)) := hf 15 (by decide); have f18 : IsP 0 w' (γ 18) (pad (co m0) (co m1)) := hf 18 (by decide); have f24 : IsP 0 w' (γ 24) (psb (co m0) (co m1)) := hf 24 (by decide); have f27 : IsP 0 w' (γ 27) (psb (co m0) (co m1)) := hf 27 (by decide); have f33 : IsP 0 w' (γ 33) (cv (co m0) (co m1)) := hf 33 (by decide); have f36 : IsP 0 w' (γ 36) (cv (co m0) (co m1)) := hf 36 (by decide); clear hf; refine ⟨rfl, ?_⟩; intro R hR
        go_simp
        refine Calls.mono (show Calls _ _ _ w' (Gives w' fun r w'' => IsP 0 w'' (r) (psc q (co m0))) from Gives.imp (scale_p _ _ m0 q w' (P0.out.ext (Hx.out.trans he)) (P2.out.1.ext (Hx.out.trans he)) (by omega)) fun _ _ h => h.base_le (Nat.zero_le _)) ?_
        rintro e w2 ⟨v, rfl, hv, hx⟩
        exact ⟨v, rfl, hR v w2 hx rfl hv⟩
      · intro γ w' he hf; have f1 : IsP 0 w' (γ 1) (co m0) := hf 1 (by decide); have f3 : IsP 0 w' (γ 3) (co m0) := hf 3 (by decide); have f15 : IsP 0 w' (γ 15) (pad (co m0) (co m1)) := hf 15 (by decide); have f18 : IsP 0 w' (γ 18) (pad (co m0) (co m1)) := hf 18 (by decide); have f24 : IsP 0 w' (γ 24) (psb (co m0) (co m1)) := hf 24 (by decide); have f27 : IsP 0 w' (γ 27) (psb (co m0) (co m1)) := hf 27 (by decide); have f33 : IsP 0 w' (γ 33) (cv (co m0) (co m1)) := hf 33 (by decide); have f36 : IsP 0 w' (γ 36) (cv (co m0) (co m1)) := hf 36 (by decide); clear hf; refine ⟨rfl, ?_⟩; intro R hR
        have hc := he.cells
        go_simp
        (try go_ints); (try (rw [if_neg (by omega)])); (try (rw [if_pos (by omega)])); (try go_simp); (try go_ints)
        refine hR _ _ (Ext.refl _) ?_ trivial
        rfl
      · intro γ w' he hf; have f1 : IsP 0 w' (γ 1) (co m0) := hf 1 (by decide); have f3 : IsP 0 w' (γ 3) (co m0) := hf 3 (by decide); have f15 : IsP 0 w' (γ 15) (pad (co m0) (co m1)) := hf 15 (by decide); have f18 : IsP 0 w' (γ 18) (pad (co m0) (co m1)) := hf 18 (by decide); have f24 : IsP 0 w' (γ 24) (psb (co m0) (co m1)) := hf 24 (by decide); have f27 : IsP 0 w' (γ 27) (psb (co m0) (co m1)) := hf 27 (by decide); have f33 : IsP 0 w' (γ 33) (cv (co m0) (co m1)) := hf 33 (by decide); have f36 : IsP 0 w' (γ 36) (cv (co m0) (co m1)) := hf 36 (by decide); clear hf; refine ⟨rfl, ?_⟩; intro R hR
        have hc := he.cells
        have cq0 := he.cell ca0
        have cq1 := he.cell ca1
        have cq2 := he.cell ca2
        have cq3 := he.cell ca3
        go_simp
        (try go_ints); (try (rw [if_neg (by omega)])); (try (rw [if_pos (by omega)])); (try go_simp); (try go_ints)
        refine hR _ _ (Ext.refl _) ?_ trivial
        rfl
      · intro γ w' he hf; have f1 : IsP 0 w' (γ 1) (co m0) := hf 1 (by decide); have f3 : IsP 0 w' (γ 3) (co m0) := hf 3 (by decide); have f15 : IsP 0 w' (γ 15) (pad (co m0) (co m1)) := hf 15 (by decide); have f18 : IsP 0 w' (γ 18) (pad (co m0) (co m1)) := hf 18 (by decide); have f24 : IsP 0 w' (γ 24) (psb (co m0) (co m1)) := hf 24 (by decide); have f27 : IsP 0 w' (γ 27) (psb (co m0) (co m1)) := hf 27 (by decide); have f33 : IsP 0 w' (γ 33) (cv (co m0) (co m1)) := hf 33 (by decide); have f36 : IsP 0 w' (γ 36) (cv (co m0) (co m1)) := hf 36 (by decide); have f42 : IsP 0 w' (γ 42) (psc q (co m0)) := hf 42 (by decide); clear hf; refine ⟨rfl, ?_⟩; intro R hR
        go_simp
        refine Calls.mono (show Calls _ _ _ w' (Gives w' fun r w'' => IsP 0 w'' (r) (psc q (co m0))) from Gives.imp (scale_rp _ _ m0 q 2 w' (P0.out.ext (Hx.out.trans he)) (P2.out.1.ext (Hx.out.trans he)) HC.out.1 (by have := P2.out.2; omega) (by omega)) fun _ _ h => h.base_le (Nat.zero_le _)) ?_
        rintro e w2 ⟨v, rfl, hv, hx⟩
        exact ⟨v, rfl, hR v w2 hx rfl hv⟩
      · intro γ w' he hf; have f1 : IsP 0 w' (γ 1) (co m0) := hf 1 (by decide); have f3 : IsP 0 w' (γ 3) (co m0) := hf 3 (by decide); have f15 : IsP 0 w' (γ 15) (pad (co m0) (co m1)) := hf 15 (by decide); have f18 : IsP 0 w' (γ 18) (pad (co m0) (co m1)) := hf 18 (by decide); have f24 : IsP 0 w' (γ 24) (psb (co m0) (co m1)) := hf 24 (by decide); have f27 : IsP 0 w' (γ 27) (psb (co m0) (co m1)) := hf 27 (by decide); have f33 : IsP 0 w' (γ 33) (cv (co m0) (co m1)) := hf 33 (by decide); have f36 : IsP 0 w' (γ 36) (cv (co m0) (co m1)) := hf 36 (by decide); have f42 : IsP 0 w' (γ 42) (psc q (co m0)) := hf 42 (by decide); have f45 : IsP 0 w' (γ 45) (psc q (co m0)) := hf 45 (by decide); clear hf; refine ⟨rfl, ?_⟩; intro R hR
        go_simp
        refine Calls.mono (show Calls _ _ _ w' (Gives w' fun r _ => r = .bool true) from samerats_p _ _ _ _ _ w' f42 f45 (by have := HK.out.2.2.2.2.1; omega)) ?_
        rintro e w2 ⟨v, rfl, rfl, hx⟩
        exact ⟨_, rfl, hR _ w2 hx rfl trivial⟩
      · intro γ w' he hf; have f1 : IsP 0 w' (γ 1) (co m0) := hf 1 (by decide); have f3 : IsP 0 w' (γ 3) (co m0) := hf 3 (by decide); have f15 : IsP 0 w' (γ 15) (pad (co m0) (co m1)) := hf 15 (by decide); have f18 : IsP 0 w' (γ 18) (pad (co m0) (co m1)) := hf 18 (by decide); have f24 : IsP 0 w' (γ 24) (psb (co m0) (co m1)) := hf 24 (by decide); have f27 : IsP 0 w' (γ 27) (psb (co m0) (co m1)) := hf 27 (by decide); have f33 : IsP 0 w' (γ 33) (cv (co m0) (co m1)) := hf 33 (by decide); have f36 : IsP 0 w' (γ 36) (cv (co m0) (co m1)) := hf 36 (by decide); have f42 : IsP 0 w' (γ 42) (psc q (co m0)) := hf 42 (by decide); have f45 : IsP 0 w' (γ 45) (psc q (co m0)) := hf 45 (by decide); clear hf; refine ⟨trivial, ?_⟩; intro R hR
        have hc := he.cells
        go_simp
        (try go_ints); (try (rw [if_neg (by omega)])); (try (rw [if_pos (by omega)])); (try go_simp); (try go_ints)
        refine hR _ _ (Ext.refl _) ?_ trivial
        rfl
      · intro γ w' he hf; have f1 : IsP 0 w' (γ 1) (co m0) := hf 1 (by decide); have f3 : IsP 0 w' (γ 3) (co m0) := hf 3 (by decide); have f15 : IsP 0 w' (γ 15) (pad (co m0) (co m1)) := hf 15 (by decide); have f18 : IsP 0 w' (γ 18) (pad (co m0) (co m1)) := hf 18 (by decide); have f24 : IsP 0 w' (γ 24) (psb (co m0) (co m1)) := hf 24 (by decide); have f27 : IsP 0 w' (γ 27) (psb (co m0) (co m1)) := hf 27 (by decide); have f33 : IsP 0 w' (γ 33) (cv (co m0) (co m1)) := hf 33 (by decide); have f36 : IsP 0 w' (γ 36) (cv (co m0) (co m1)) := hf 36 (by decide); have f42 : IsP 0 w' (γ 42) (psc q (co m0)) := hf 42 (by decide); have f45 : IsP 0 w' (γ 45) (psc q (co m0)) := hf 45 (by decide); clear hf; refine ⟨trivial, ?_⟩; intro R hR
        have hc := he.cells
        go_simp
        (try go_ints); (try (rw [if_neg (by omega)])); (try (rw [if_pos (by omega)])); (try go_simp); (try go_ints)
        refine hR _ _ (Ext.refl _) ?_ trivial
        rfl
      · intro γ w' he hf; have f1 : IsP 0 w' (γ 1) (co m0) := hf 1 (by decide); have f3 : IsP 0 w' (γ 3) (co m0) := hf 3 (by decide); have f15 : IsP 0 w' (γ 15) (pad (co m0) (co m1)) := hf 15 (by decide); have f18 : IsP 0 w' (γ 18) (pad (co m0) (co m1)) := hf 18 (by decide); have f24 : IsP 0 w' (γ 24) (psb (co m0) (co m1)) := hf 24 (by decide); have f27 : IsP 0 w' (γ 27) (psb (co m0) (co m1)) := hf 27 (by decide); have f33 : IsP 0 w' (γ 33) (cv (co m0) (co m1)) := hf 33 (by decide); have f36 : IsP 0 w' (γ 36) (cv (co m0) (co m1)) := hf 36 (by decide); have f42 : IsP 0 w' (γ 42) (psc q (co m0)) := hf 42 (by decide); have f45 : IsP 0 w' (γ 45) (psc q (co m0)) := hf 45 (by decide); clear hf; refine ⟨rfl, ?_⟩; intro R hR
        have hc := he.cells
        go_simp
        (try go_ints); (try (rw [if_neg (by omega)])); (try (rw [if_pos (by omega)])); (try go_simp); (try go_ints)
        refine hR _ _ (Ext.refl _) ?_ trivial
        rfl
      · intro γ w' he hf; have f1 : IsP 0 w' (γ 1) (co m0) := hf 1 (by decide); have f3 : IsP 0 w' (γ 3) (co m0) := hf 3 (by decide); have f15 : IsP 0 w' (γ 15) (pad (co m0) (co m1)) := hf 15 (by decide); have f18 : IsP 0 w' (γ 18) (pad (co m0) (co m1)) := hf 18 (by decide); have f24 : IsP 0 w' (γ 24) (psb (co m0) (co m1)) := hf 24 (by decide); have f27 : IsP 0 w' (γ 27) (psb (co m0) (co m1)) := hf 27 (by decide); have f33 : IsP 0 w' (γ 33) (cv (co m0) (co m1)) := hf 33 (by decide); have f36 : IsP 0 w' (γ 36) (cv (co m0) (co m1)) := hf 36 (by decide); have f42 : IsP 0 w' (γ 42) (psc q (co m0)) := hf 42 (by decide); have f45 : IsP 0 w' (γ 45) (psc q (co m0)) := hf 45 (by decide); clear hf; refine ⟨rfl, ?_⟩; intro R hR
        go_simp
        refine Calls.mono (show Calls _ _ _ w' (Gives w' fun r w'' => IsP 0 w'' (r) (pd (co m0))) from Gives.imp (derivative_p _ m0 w' (P0.out.ext (Hx.out.trans he)) (by omega)) fun _ _ h => h.base_le (Nat.zero_le _)) ?_
        rintro e w2 ⟨v, rfl, hv, hx⟩
        exact ⟨v, rfl, hR v w2 hx rfl hv⟩
      · intro γ w' he hf; have f1 : IsP 0 w' (γ 1) (co m0) := hf 1 (by decide); have f3 : IsP 0 w' (γ 3) (co m0) := hf 3 (by decide); have f15 : IsP 0 w' (γ 15) (pad (co m0) (co m1)) := hf 15 (by decide); have f18 : IsP 0 w' (γ 18) (pad (co m0) (co m1)) := hf 18 (by decide); have f24 : IsP 0 w' (γ 24) (psb (co m0) (co m1)) := hf 24 (by decide); have f27 : IsP 0 w' (γ 27) (psb (co m0) (co m1)) := hf 27 (by decide); have f33 : IsP 0 w' (γ 33) (cv (co m0) (co m1)) := hf 33 (by decide); have f36 : IsP 0 w' (γ 36) (cv (co m0) (co m1)) := hf 36 (by decide); have f42 : IsP 0 w' (γ 42) (psc q (co m0)) := hf 42 (by decide); have f45 : IsP 0 w' (γ 45) (psc q (co m0)) := hf 45 (by decide); clear hf; refine ⟨rfl, ?_⟩; intro R hR
        have hc := he.cells
        go_simp
        (try go_ints); (try (rw [if_neg (by omega)])); (try (rw [if_pos (by omega)])); (try go_simp); (try go_ints)
        refine hR _ _ (Ext.refl _) ?_ trivial
        rfl
      · intro γ w' he hf; have f1 : IsP 0 w' (γ 1) (co m0) := hf 1 (by decide); have f3 : IsP 0 w' (γ 3) (co m0) := hf 3 (by decide); have f15 : IsP 0 w' (γ 15) (pad (co m0) (co m1)) := hf 15 (by decide); have f18 : IsP 0 w' (γ 18) (pad (co m0) (co m1)) := hf 18 (by decide); have f24 : IsP 0 w' (γ 24) (psb (co m0) (co m1)) := hf 24 (by decide); have f27 : IsP 0 w' (γ 27) (psb (co m0) (co m1)) := hf 27 (by decide); have f33 : IsP 0 w' (γ 33) (cv (co m0) (co m1)) := hf 33 (by decide); have f36 : IsP 0 w' (γ 36) (cv (co m0) (co m1)) := hf 36 (by decide); have f42 : IsP 0 w' (γ 42) (psc q (co m0)) := hf 42 (by decide); have f45 : IsP 0 w' (γ 45) (psc q (co m0)) := hf 45 (by decide); have f50 : IsP 0 w' (γ 50) (pd (co m0)) := hf 50 (by decide); clear hf; refine ⟨rfl, ?_⟩; intro R hR
        go_simp
        refine Calls.mono (show Calls _ _ _ w' (Gives w' fun r w'' => IsP 0 w'' (r) (pd (co m0))) from Gives.imp (derivative_rp _ m0 2 w' (P0.out.ext (Hx.out.trans he)) HC.out.1 (by omega) (by omega)) fun _ _ h => h.base_le (Nat.zero_le _)) ?_
        rintro e w2 ⟨v, rfl, hv, hx⟩
        exact ⟨v, rfl, hR v w2 hx rfl hv⟩
      · intro γ w' he hf; have f1 : IsP 0 w' (γ 1) (co m0) := hf 1 (by decide); have f3 : IsP 0 w' (γ 3) (co m0) := hf 3 (by decide); have f15 : IsP 0 w' (γ 15) (pad (co m0) (co m1)) := hf 15 (by decide); have f18 : IsP 0 w' (γ 18) (pad (co m0) (co m1)) := hf 18 (by decide); have f24 : IsP 0 w' (γ 24) (psb (co m0) (co m1)) := hf 24 (by decide); have f27 : IsP 0 w' (γ 27) (psb (co m0) (co m1)) := hf 27 (by decide); have f33 : IsP 0 w' (γ 33) (cv (co m0) (co m1)) := hf 33 (by decide); have f36 : IsP 0 w' (γ 36) (cv (co m0) (co m1)) := hf 36 (by decide); have f42 : IsP 0 w' (γ 42) (psc q (co m0)) := hf 42 (by decide); have f45 : IsP 0 w' (γ 45) (psc q (co m0)) := hf 45 (by decide); have f50 : IsP 0 w' (γ 50) (pd (co m0)) := hf 50 (by decide); have f52 : IsP 0 w' (γ 52) (pd (co m0)) := hf 52 (by decide); clear hf; refine ⟨rfl, ?_⟩; intro R hR
        go_simp
        refine Calls.mono (show Calls _ _ _ w' (Gives w' fun r _ => r = .bool true) from samerats_p _ _ _ _ _ w' f50 f52 (by have := HK.out.2.2.2.2.2.1; omega)) ?_
        rintro e w2 ⟨v, rfl, rfl, hx⟩
        exact ⟨_, rfl, hR _ w2 hx rfl trivial⟩
      · intro γ w' he hf; have f1 : IsP 0 w' (γ 1) (co m0) := hf 1 (by decide); have f3 : IsP 0 w' (γ 3) (co m0) := hf 3 (by decide); have f15 : IsP 0 w' (γ 15) (pad (co m0) (co m1)) := hf 15 (by decide); have f18 : IsP 0 w' (γ 18) (pad (co m0) (co m1)) := hf 18 (by decide); have f24 : IsP 0 w' (γ 24) (psb (co m0) (co m1)) := hf 24 (by decide); have f27 : IsP 0 w' (γ 27) (psb (co m0) (co m1)) := hf 27 (by decide); have f33 : IsP 0 w' (γ 33) (cv (co m0) (co m1)) := hf 33 (by decide); have f36 : IsP 0 w' (γ 36) (cv (co m0) (co m1)) := hf 36 (by decide); have f42 : IsP 0 w' (γ 42) (psc q (co m0)) := hf 42 (by decide); have f45 : IsP 0 w' (γ 45) (psc q (co m0)) := hf 45 (by decide); have f50 : IsP 0 w' (γ 50) (pd (co m0)) := hf 50 (by decide); have f52 : IsP 0 w' (γ 52) (pd (co m0)) := hf 52 (by decide); clear hf; refine ⟨trivial, ?_⟩; intro R hR
        have hc := he.cells
        go_simp
        (try go_ints); (try (rw [if_neg (by omega)])); (try (rw [if_pos (by omega)])); (try go_simp); (try go_ints)
        refine hR _ _ (Ext.refl _) ?_ trivial
        rfl
    case hloc1 =>
      exact ⟨⟨⟨⟨⟨⟨⟨⟨⟨⟨⟨⟨⟨⟨⟨⟨⟨⟨⟨⟨⟨⟨⟨⟨⟨⟨⟨⟨⟨⟨⟨⟨⟨⟨⟨⟨⟨⟨⟨⟨⟨⟨⟨⟨⟨⟨⟨⟨⟨⟨⟨⟨⟨⟨⟨trivial, (fun γ γ' h => ⟨rfl, fun _ => rfl⟩)⟩, (fun γ γ' h => ⟨h 1 rfl, fun w' => (congrArg (fun a => IsP 0 w' (a) (co m0)) (h 1 rfl))⟩)⟩, (fun γ γ' h => ⟨rfl, fun _ => rfl⟩)⟩, (fun γ γ' h => ⟨h 3 rfl, fun w' => (congrArg (fun a => IsP 0 w' (a) (co m0)) (h 3 rfl))⟩)⟩, (fun γ γ' h => ⟨rfl, fun _ => rfl⟩)⟩, (fun γ γ' h => ⟨rfl, fun _ => rfl⟩)⟩, (fun γ γ' h => ⟨rfl, fun _ => rfl⟩)⟩, (fun γ γ' h => ⟨rfl, fun _ => rfl⟩)⟩, (fun γ γ' h => ⟨rfl, fun _ => rfl⟩)⟩, (fun γ γ' h => ⟨rfl, fun _ => rfl⟩)⟩, (fun γ γ' h => ⟨rfl, fun _ => rfl⟩)⟩, (fun γ γ' h => ⟨rfl, fun _ => rfl⟩)⟩, (fun γ γ' h => ⟨rfl, fun _ => rfl⟩)⟩, (fun γ γ' h => ⟨rfl, fun _ => rfl⟩)⟩, (fun γ γ' h => ⟨rfl, fun _ => rfl⟩)⟩, (fun γ γ' h => ⟨h 15 rfl, fun w' => (congrArg (fun a => IsP 0 w' (a) (pad (co m0) (co m1))) (h 15 rfl))⟩)⟩, (fun γ γ' h => ⟨rfl, fun _ => rfl⟩)⟩, (fun γ γ' h => ⟨rfl, fun _ => rfl⟩)⟩, (fun γ γ' h => ⟨h 18 rfl, fun w' => (congrArg (fun a => IsP 0 w' (a) (pad (co m0) (co m1))) (h 18 rfl))⟩)⟩, (fun γ γ' h => ⟨rfl, fun _ => rfl⟩)⟩, (fun γ γ' h => ⟨rfl, fun _ => rfl⟩)⟩, (fun γ γ' h => ⟨rfl, fun _ => rfl⟩)⟩, (fun γ γ' h => ⟨rfl, fun _ => rfl⟩)⟩, (fun γ γ' h => ⟨rfl, fun _ => rfl⟩)⟩, (fun γ γ' h => ⟨h 24 rfl, fun w' => (congrArg (fun a => IsP 0 w' (a) (psb (co m0) (co m1))) (h 24 rfl))⟩)⟩, (fun γ γ' h => ⟨rfl, fun _ => rfl⟩)⟩, (fun γ γ' h => ⟨rfl, fun _ => rfl⟩)⟩, (fun γ γ' h => ⟨h 27 rfl, fun w' => (congrArg (fun a => IsP 0 w' (a) (psb (co m0) (co m1))) (h 27 rfl))⟩)⟩, (fun γ γ' h => ⟨rfl, fun _ => rfl⟩)⟩, (fun γ γ' h => ⟨rfl, fun _ => rfl⟩)⟩, (fun γ γ' h => ⟨rfl, fun _ => rfl⟩)⟩, (fun γ γ' h => ⟨rfl, fun _ => rfl⟩)⟩, (fun γ γ' h => ⟨rfl, fun _ => rfl⟩)⟩, (fun γ γ' h => ⟨h 33 rfl, fun w' => (congrArg (fun a => IsP 0 w' (a) (cv (co m0) (co m1))) (h 33 rfl))⟩)⟩, (fun γ γ' h => ⟨rfl, fun _ => rfl⟩)⟩, (fun γ γ' h => ⟨rfl, fun _ => rfl⟩)⟩, (fun γ γ' h => ⟨h 36 rfl, fun w' => (congrArg (fun a => IsP 0 w' (a) (cv (co m0) (co m1))) (h 36 rfl))⟩)⟩, (fun γ γ' h => ⟨rfl, fun _ => rfl⟩)⟩, (fun γ γ' h => ⟨rfl, fun _ => rfl⟩)⟩, (fun γ γ' h => ⟨rfl, fun _ => rfl⟩)⟩, (fun γ γ' h => ⟨rfl, fun _ => rfl⟩)⟩, (fun γ γ' h => ⟨rfl, fun _ => rfl⟩)⟩, (fun γ γ' h => ⟨h 42 rfl, fun w' => (congrArg (fun a => IsP 0 w' (a) (psc q (co m0))) (h 42 rfl))⟩)⟩, (fun γ γ' h => ⟨rfl, fun _ => rfl⟩)⟩, (fun γ γ' h => ⟨rfl, fun _ => rfl⟩)⟩, (fun γ γ' h => ⟨h 45 rfl, fun w' => (congrArg (fun a => IsP 0 w' (a) (psc q (co m0))) (h 45 rfl))⟩)⟩, (fun γ γ' h => ⟨rfl, fun _ => rfl⟩)⟩, (fun γ γ' h => ⟨rfl, fun _ => rfl⟩)⟩, (fun γ γ' h => ⟨rfl, fun _ => rfl⟩)⟩, (fun γ γ' h => ⟨rfl, fun _ => rfl⟩)⟩, (fun γ γ' h => ⟨h 50 rfl, fun w' => (congrArg (fun a => IsP 0 w' (a) (pd (co m0))) (h 50 rfl))⟩)⟩, (fun γ γ' h => ⟨rfl, fun _ => rfl⟩)⟩, (fun γ γ' h => ⟨h 52 rfl, fun w' => (congrArg (fun a => IsP 0 w' (a) (pd (co m0))) (h 52 rfl))⟩)⟩, (fun γ γ' h => ⟨rfl, fun _ => rfl⟩)⟩, (fun γ γ' h => ⟨rfl, fun _ => rfl⟩)⟩
    case hmono1 =>
      exact ⟨⟨⟨⟨⟨⟨⟨⟨⟨⟨⟨⟨⟨⟨⟨⟨⟨⟨⟨⟨⟨⟨⟨⟨⟨⟨⟨⟨⟨⟨⟨⟨⟨⟨⟨⟨⟨⟨⟨⟨⟨⟨⟨⟨⟨⟨⟨⟨⟨⟨⟨⟨⟨⟨⟨trivial, (fun γ wA w' e h => h)⟩, (fun γ wA w' e h => (show IsP 0 wA (γ 1) (co m0) from h).ext e)⟩, (fun γ wA w' e h => h)⟩, (fun γ wA w' e h => (show IsP 0 wA (γ 3) (co m0) from h).ext e)⟩, (fun γ wA w' e h => h)⟩, (fun γ wA w' e h => h)⟩, (fun γ wA w' e h => h)⟩, (fun γ wA w' e h => h)⟩, (fun γ wA w' e h => h)⟩, (fun γ wA w' e h => h)⟩, (fun γ wA w' e h => h)⟩, (fun γ wA w' e h => h)⟩, (fun γ wA w' e h => h)⟩, (fun γ wA w' e h => h)⟩, (fun γ wA w' e h => h)⟩, (fun γ wA w' e h => (show IsP 0 wA (γ 15) (pad (co m0) (co m1)) from h).ext e)⟩, (fun γ wA w' e h => h)⟩, (fun γ wA w' e h => h)⟩, (fun γ wA w' e h => (show IsP 0 wA (γ 18) (pad (co m0) (co m1)) from h).ext e)⟩, (fun γ wA w' e h => h)⟩, (fun γ wA w' e h => h)⟩, (fun γ wA w' e h => h)⟩, (fun γ wA w' e h => h)⟩, (fun γ wA w' e h => h)⟩, (fun γ wA w' e h => (show IsP 0 wA (γ 24) (psb (co m0) (co m1)) from h).ext e)⟩, (fun γ wA w' e h => h)⟩, (fun γ wA w' e h => h)⟩, (fun γ wA w' e h => (show IsP 0 wA (γ 27) (psb (co m0) (co m1)) from h).ext e)⟩, (fun γ wA w' e h => h)⟩, (fun γ wA w' e h => h)⟩, (fun γ wA w' e h => h)⟩, (fun γ wA w' e h => h)⟩, (fun γ wA w' e h => h)⟩, (fun γ wA w' e h => (show IsP 0 wA (γ 33) (cv (co m0) (co m1)) from h).ext e)⟩, (fun γ wA w' e h => h)⟩, (fun γ wA w' e h => h)⟩, (fun γ wA w' e h => (show IsP 0 wA (γ 36) (cv (co m0) (co m1)) from h).ext e)⟩, (fun γ wA w' e h => h)⟩, (fun γ wA w' e h => h)⟩, (fun γ wA w' e h => h)⟩, (fun γ wA w' e h => h)⟩, (fun γ wA w' e h => h)⟩, (fun γ wA w' e h => (show IsP 0 wA (γ 42) (psc q (co m0)) from h).ext e)⟩, (fun γ wA w' e h => h)⟩, (fun γ wA w' e h => h)⟩, (fun γ wA w' e h => (show IsP 0 wA (γ 45) (psc q (co m0)) from h).ext e)⟩, (fun γ wA w' e h => h)⟩, (fun γ wA w' e h => h)⟩, (fun γ wA w' e h => h)⟩, (fun γ wA w' e h => h)⟩, (fun γ wA w' e h => (show IsP 0 wA (γ 50) (pd (co m0)) from h).ext e)⟩, (fun γ wA w' e h => h)⟩, (fun γ wA w' e h => (show IsP 0 wA (γ 52) (pd (co m0)) from h).ext e)⟩, (fun γ wA w' e h => h)⟩, (fun γ wA w' e h => h)⟩
    intro γ w3 hx3 hF
    have p1 : IsP 0 w3 (γ 1) (co m0) := Each.get hF 1 (by decide)
    have p3 : IsP 0 w3 (γ 3) (co m0) := Each.get hF 3 (by decide)
    have p15 : IsP 0 w3 (γ 15) (pad (co m0) (co m1)) := Each.get hF 15 (by decide)
    have p18 : IsP 0 w3 (γ 18) (pad (co m0) (co m1)) := Each.get hF 18 (by decide)
    have p24 : IsP 0 w3 (γ 24) (psb (co m0) (co m1)) := Each.get hF 24 (by decide)
    have p27 : IsP 0 w3 (γ 27) (psb (co m0) (co m1)) := Each.get hF 27 (by decide)
    have p33 : IsP 0 w3 (γ 33) (cv (co m0) (co m1)) := Each.get hF 33 (by decide)
    have p36 : IsP 0 w3 (γ 36) (cv (co m0) (co m1)) := Each.get hF 36 (by decide)
    have p42 : IsP 0 w3 (γ 42) (psc q (co m0)) := Each.get hF 42 (by decide)
    have p45 : IsP 0 w3 (γ 45) (psc q (co m0)) := Each.get hF 45 (by decide)
    have p50 : IsP 0 w3 (γ 50) (pd (co m0)) := Each.get hF 50 (by decide)
    have p52 : IsP 0 w3 (γ 52) (pd (co m0)) := Each.get hF 52 (by decide)
    clear hF
    simp only [fillAll, gV, kv, List.getD_cons_zero, List.getD_cons_succ, Act.put, List.setIfInBounds_toArray, List.set_cons_zero, List.set_cons_succ, List.toList_toArray, List.drop_succ_cons, List.drop_zero, List.drop_nil, Nat.zero_add, Nat.reduceAdd]
    generalize γ 1 = g1 at *
    generalize γ 3 = g3 at *
    generalize γ 15 = g15 at *
    generalize γ 18 = g18 at *
    generalize γ 24 = g24 at *
    generalize γ 27 = g27 at *
    generalize γ 33 = g33 at *
    generalize γ 36 = g36 at *
    generalize γ 42 = g42 at *
    generalize γ 45 = g45 at *
    generalize γ 50 = g50 at *
    generalize γ 52 = g52 at *
    clear γ
    clear p1 p3 p15 p18 p24 p27 p33 p36 p42 p45 p50 p52 ca0 ca1 ca2 ca3
    go_wp2
    go_ret
    exact Gives.mk rfl (Hx.out.trans hx3)
end Go.Proofs.YtedoifjbgokmcaaGreat
namespace Go.Hp
/-- The greatest common divisor and the cofactors that the document determines. -/
def XgVal (F G D U V : Nat → Rat) : Prop := (G = pz ∧ D = mn F ∧ U = cs (1 / ld F) pz ∧ V = pz) ∨ (G ≠ pz ∧ IsX F G D U V)
/-- How long the numbers are. -/
def XgSz (F G D U V : Nat → Rat) : Prop := (∀ i, qsz (U i) ≤ 8505257129) ∧ pl U ≤ 7 ∧ (∀ i, qsz (V i) ≤ 8519878572) ∧ pl V ≤ 15 ∧ (∀ i, qsz (cv U F i) ≤ 8505257152) ∧ (∀ i, qsz (cv V G i) ≤ 8519878205) ∧ pl D ≤ 7 ∧ Fin_ U ∧ Fin_ V
theorem XgVal.uniq {F G D U V D' U' V' : Nat → Rat} (hG : Fin_ G) (h : XgVal F G D U V) (k : XgVal F G D' U' V') : D = D' ∧ U = U' ∧ V = V' := by
  rcases h with ⟨h0, h1, h2, h3⟩ | ⟨h0, h⟩
  · rcases k with ⟨k0, k1, k2, k3⟩ | ⟨k0, k⟩
    · exact ⟨h1.trans k1.symm, h2.trans k2.symm, h3.trans k3.symm⟩
    · exact absurd h0 k0
  · rcases k with ⟨k0, k1, k2, k3⟩ | ⟨k0, k⟩
    · exact absurd k0 h0
    · exact h.uniq hG h0 k
theorem cs_pz_cv (a : Rat) (F : Nat → Rat) : cv (cs a pz) F = psc a F := by
  rw [cs_cv, pz_cv]
  funext n
  cases n <;> simp only [pad, psc, cs, pz] <;> grind
theorem XgVal.bezout {F G D U V : Nat → Rat} (h : XgVal F G D U V) : pad (cv U F) (cv V G) = D := by
  rcases h with ⟨rfl, rfl, rfl, rfl⟩ | ⟨h0, h⟩
  · rw [cs_pz_cv, pz_cv]
    funext n; simp only [pad, pz, mn]; grind
  · exact h.2.2.2.1
theorem inv_qsz {F : Nat → Rat} {s : Nat} (h : CD s F) : qsz (1 / ld F) ≤ s := by
  have e : 1 / ld F = (ld F)⁻¹ := by rw [Rat.div_def, Rat.one_mul]
  rw [e]; exact Nat.le_trans (qsz_inv _) (h.elem _)
theorem XgVal.low {F : Nat → Rat} (hF : Fin_ F) (cF : CD 22 F) (lF : pl F ≤ 7) : XgVal F pz (mn F) (cs (1 / ld F) pz) pz ∧ XgSz F pz (mn F) (cs (1 / ld F) pz) pz := by
  have hq := inv_qsz cF
  have hs : Sup 1 (cs (1 / ld F) pz) := (Sup.pz 0).cs _
  have h0 : ∀ i, qsz (pz i) = 1 := fun i => qsz_zero
  refine ⟨.inl ⟨rfl, rfl, rfl, rfl⟩, fun i => ?_, by have := pl_le hs; omega, fun i => by rw [h0]; omega, by rw [pl_pz]; omega, fun i => ?_, fun i => by rw [pz_cv, h0]; omega, by rw [mn_pl hF]; exact lF, ⟨1, hs⟩, Fin_.pz⟩
  · cases i with
    | zero => show qsz (1 / ld F) ≤ _; omega
    | succ i => show qsz 0 ≤ _; rw [qsz_zero]; omega
  · rw [cs_pz_cv]
    have := cF.mn.elem i
    show qsz (mn F i) ≤ _
    omega
theorem XgVal.high {F0 G0 R S U N : Nat → Rat} {j : Nat} (h : XgSt F0 G0 j R S U N) (h0 : S = pz) (hF : Fin_ F0) (hG : Fin_ G0) (hg : G0 ≠ pz) (cF : CD 22 F0) (cG : CD 22 G0) (lF : pl F0 ≤ 7) (lG : pl G0 ≤ 7) :
    XgVal F0 G0 (mn R) (pr (psc (1 / ld R) U) (pq G0 (mn R))) (pq (psb (mn R) (cv (pr (psc (1 / ld R) U) (pq G0 (mn R))) F0)) G0) ∧
    XgSz F0 G0 (mn R) (pr (psc (1 / ld R) U) (pq G0 (mn R))) (pq (psb (mn R) (cv (pr (psc (1 / ld R) U) (pq G0 (mn R))) F0)) G0) := by
  obtain ⟨d4, cR, cD, cU, cU1, lU, pR, lR, q0, cQ, lQ, cU2, lU2, cX, lX, cV, hX⟩ := h.end_ h0 hF hG hg cF cG lF
  obtain ⟨hI, fU, fV, hb, hs⟩ := hX
  have hRf : Fin_ R := h.1.1
  have e1 : cv (pq (psb (mn R) (cv (pr (psc (1 / ld R) U) (pq G0 (mn R))) F0)) G0) G0 = psb (mn R) (cv (pr (psc (1 / ld R) U) (pq G0 (mn R))) F0) := by
    funext n
    have := congrFun hb n
    simp only [pad, psb] at this ⊢
    grind
  have hXf : Fin_ (psb (mn R) (cv (pr (psc (1 / ld R) U) (pq G0 (mn R))) F0)) := (mn_fin hRf).psb (fU.cv hF)
  refine ⟨.inr ⟨hg, hI, fU, fV, hb, hs⟩, fun i => cU2.elem i, lU2, cV, pl_le (pq_sup (n := 15) ((pl_sup hXf).mono (by omega)) hG hg), fun i => ?_, fun i => by rw [e1]; exact cX.elem i, by rw [mn_pl hRf]; exact lR, fU, fV⟩
  exact (CD.cv (pl_sup fU) (by omega) cU2 cF).elem i
end Go.Hp
namespace Go.Hp
open Go.RowKit
def slen : Value → Nat | .slice _ n _ => n | _ => 0
theorem IsP.empty (base : Nat) (w : World) (A : Option Addr) (c : Nat) (hc : c ≤ 9223372036854775807) : IsP base w (.slice A 0 c) pz :=
  ⟨[], ⟨A, c, rfl, Nat.zero_le _, hc, fun h => absurd h (by simp)⟩, fun h => absurd h (by simp), co_nil⟩
theorem IsP.shape {base : Nat} {w : World} {v : Value} {F : Nat → Rat} (h : IsP base w v F) : ∃ A c, v = .slice A (pl F) c ∧ pl F ≤ c ∧ c ≤ 9223372036854775807 := by
  obtain ⟨A, c, l, e, k1, k2, _⟩ := h.form; exact ⟨A, c, e, k1, k2⟩
theorem co_single (a : Rat) : co [a] = cs a pz := by rw [co_cons, co_nil]
theorem IsP.single {base : Nat} {w : World} {v : Value} {a : Rat} (h : QsV base w v [a]) (h0 : a ≠ 0) : IsP base w v (cs a pz) :=
  ⟨[a], h, fun _ => by simpa using h0, co_single a⟩
end Go.Hp
namespace Go.Proofs.YtedoifjbgokmcaaGreat
open Go.RowKit Go.Hp
theorem mul_pP (v u : Value) (F G : Nat → Rat) (s t : Nat) (w : World) (hv : IsP 0 w v F) (hu : IsP 0 w u G) (hs : ∀ i, qsz (F i) ≤ s) (ht : ∀ i, qsz (G i) ≤ t) (hn : pl F ≤ 274877906944) (hm : pl G ≤ 274877906944) (h0 : s ≤ 274877906944) (h00 : t ≤ 274877906944) (hst : 1 + (pl F + 1) * (s + t + 1) ≤ 274877906944) :
    Calls Tryz.prog 25 #[v, u] w (Gives w fun r w' => IsP w.heap.size w' r (cv F G)) := by
  obtain ⟨l, h1, h2, h3, rfl⟩ := hv.hs (fun i => by have := hs i; omega)
  obtain ⟨m, k1, k2, k3, rfl⟩ := hu.hs (fun i => by have := ht i; omega)
  rw [← h2] at hst
  exact mul_p v u l m s t w h1 k1 hs ht (by omega) (by omega) hst
theorem sub_pP (v u : Value) (F G : Nat → Rat) (w : World) (hv : IsP 0 w v F) (hu : IsP 0 w u G) (hs : ∀ i, qsz (F i) ≤ 274877906944) (ht : ∀ i, qsz (G i) ≤ 274877906944) (hn : pl F ≤ 274877906944) (hm : pl G ≤ 274877906944) :
    Calls Tryz.prog 23 #[v, u] w (Gives w fun r w' => IsP w.heap.size w' r (psb F G)) := by
  obtain ⟨l, h1, h2, h3, rfl⟩ := hv.hs hs
  obtain ⟨m, k1, k2, k3, rfl⟩ := hu.hs ht
  exact sub_p v u l m w h1 k1 (by omega) (by omega)
theorem scale_pP (v u : Value) (F : Nat → Rat) (ra : Rat) (w : World) (hv : IsP 0 w v F) (hu : HasQ w u ra) (hs : ∀ i, qsz (F i) ≤ 274877906944) (hn : pl F ≤ 274877906944) :
    Calls Tryz.prog 27 #[v, u] w (Gives w fun r w' => IsP w.heap.size w' r (psc ra F)) := by
  obtain ⟨l, h1, h2, h3, rfl⟩ := hv.hs hs
  exact scale_p v u l ra w h1 hu (by omega)
set_option maxRecDepth 20000 in
set_option maxHeartbeats 4000000 in
theorem gcd_p (v u : Value) (l m : List Rat) (w : World) (hv : HsV 0 w v l) (hu : HsV 0 w u m) (cF : CD 22 (co l)) (cG : CD 22 (co m)) (lF : l.length ≤ 7) (lG : m.length ≤ 7) :
    Calls Tryz.prog 33 #[v, u] w (Gives w fun r w' => ∃ D, IsG (co l) (co m) D ∧ pl D ≤ 7 ∧ IsP w.heap.size w' r D) := by
  have HV := Lib.hid hv; have HU := Lib.hid hu
  obtain ⟨A, c, rfl⟩ := hv.len
  obtain ⟨E, d, rfl⟩ := hu.len
  clear hv hu
  have hst := GcSt.start (Fin_.co l) (Fin_.co m) cF cG (Nat.le_trans (pl_le (co_sup l)) lF) (Nat.le_trans (pl_le (co_sup m)) lG)
  have Hst := Lib.hid hst; clear hst cF cG
  go_enter Tryz.func33, Tryz.ntmps33
  go_wp2_with fail
  refine Calls.mono (normal_p _ l _ HV.out (by omega)) ?_
  rintro e w1 ⟨r1, rfl, hr1, hx1⟩
  have Hr1 := Lib.hid hr1; clear hr1
  go_wp2_with fail
  refine Calls.mono (normal_p _ m _ (HU.out.ext hx1) (by omega)) ?_
  rintro e w2 ⟨r2, rfl, hr2, hx2⟩
  have Hr := Lib.hid (And.intro ((Hr1.out.ext hx2).base_le (Nat.zero_le _)) (hr2.base_le (Nat.zero_le _)))
  have Hx := Lib.hid (hx1.trans hx2)
  clear Hr1 hr2 hx1 hx2
  go_wp2
  go_loopw [0, 1] (fun fv gv wr => ∃ (j : Nat) (F G : Nat → Rat), GcSt (co l) (co m) j F G ∧ IsP 0 wr fv F ∧ IsP 0 wr gv G ∧ Ext w wr) (fun _ gv _ => slen gv)
  case atStart => exact ⟨0, _, _, Hst.out, Hr.out.1, Hr.out.2, Hx.out⟩
  case round =>
    clear Hr Hx Hst
    obtain ⟨j, F, G, hst, hf, hg, hx⟩ := hrel
    have hgf := hg.fin
    obtain ⟨A1, c1, e1, _, _⟩ := hf.shape
    obtain ⟨A2, c2, e2, _, _⟩ := hg.shape
    subst e1 e2
    have Hfg := Lib.hid (And.intro hst (And.intro hf hg)); clear hst hf hg
    by_cases h0 : pl G = 0
    · have hz : G = pz := (pl_zero hgf).1 h0
      have hI := Hfg.out.1.end_ hz
      have hn0 : ¬ (0 < ((pl G : Nat) : Int)) := by omega
      have HI := Lib.hid (And.intro hI h0); clear hI hz h0 hgf
      have hpF : pl F ≤ 7 := Hfg.out.1.2.2.2.2.2.1
      have hj : j ≤ 7 := by have := Hfg.out.1.2.2.2.2.2.2; omega
      have hb := gcb_le hj
      go_wp2_with fail
      refine Calls.mono (monic_p _ F (gcb 44 j) _ Hfg.out.2.1 Hfg.out.1.2.2.2.1 (by omega) (by omega)) ?_
      rintro e w3 ⟨r3, rfl, hr3, hx3⟩
      have hsz := hx.size
      have Hr3 := Lib.hid hr3; clear hr3
      go_wp2
      go_ret
      exact Gives.mk ⟨_, HI.out.1, by rw [mn_pl Hfg.out.1.1]; exact hpF, Hr3.out.base_le (by omega)⟩ (hx.trans hx3)
    · have hz : G ≠ pz := fun e => h0 (by rw [e, pl_pz])
      have hroom := Hfg.out.1.room hz
      have hstep := Hfg.out.1.step hz
      have hp2 : 2 * (gcb 44 j + 1) ≤ (pl F + 2) * (gcb 44 j + 1) := Nat.mul_le_mul_right _ (by omega)
      have hpF : pl F ≤ 7 := Hfg.out.1.2.2.2.2.2.1
      have hpos : 0 < pl G := by omega
      have hmnp := mn_pl (pr_fin Hfg.out.1.1 hgf (F := F) (G := G))
      have hlt : pl (mn (pr F G)) < pl G := by
        rw [hmnp]
        have := pl_le (pr_sup Hfg.out.1.1 hgf hz)
        omega
      have HR := Lib.hid (And.intro hroom (And.intro hstep (And.intro hz (And.intro hp2 hlt)))); clear hroom hstep hz hp2 hgf hmnp hlt
      go_wp2_with fail
      refine Calls.mono (divide_p _ _ F G (gcb 44 j) (gcb 44 j) _ Hfg.out.2.1 Hfg.out.2.2 HR.out.2.2.1 Hfg.out.1.2.2.2.1 Hfg.out.1.2.2.2.2.1 (by omega) (by have := HR.out.1.2.1; omega)) ?_
      rintro e w3 ⟨r3, rfl, ⟨a, b, rfl, ha, hb⟩, hx3⟩
      have Hb := Lib.hid (hb.base_le (Nat.zero_le _)); clear ha hb
      have Hg := Lib.hid (Hfg.out.2.2.ext hx3)
      replace hx := hx.trans hx3
      clear hx3
      go_wp2_with fail
      refine Calls.mono (monic_p _ (pr F G) (9 * gcb 44 j + 8) _ Hb.out HR.out.1.2.2.2 (by have := HR.out.1.2.1; have := HR.out.2.2.2.1; omega) (by have := HR.out.1.2.2.1; omega)) ?_
      rintro e w4 ⟨r4, rfl, hr4, hx4⟩
      obtain ⟨A4, c4, e4, _, _⟩ := hr4.shape
      subst e4
      have Hr4 := Lib.hid (hr4.base_le (Nat.zero_le _)); clear hr4
      have Hg' := Lib.hid (Hg.out.ext hx4)
      replace hx := hx.trans hx4
      clear hx4
      go_wp2
      go_roundw
      case rel => exact ⟨j + 1, G, _, HR.out.2.1, Hg'.out, Hr4.out, hx⟩
      case measure => have := HR.out.2.2.2.2; simpa [slen] using this
end Go.Proofs.YtedoifjbgokmcaaGreat
