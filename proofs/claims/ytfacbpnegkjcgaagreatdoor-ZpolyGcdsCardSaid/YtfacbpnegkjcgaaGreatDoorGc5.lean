/- The statement ZpolyGcds holds: for every three polynomials over the integers the law returns true, and the arguments read afterwards as before. Package-level tables as the program's text lays them (the card ties them); no other condition. -/
import Derived.Test.YtfacbpnegkjcgaaGreatDoorGc1
import Derived.Test.YtfacbpnegkjcgaaGreatDoorGc2
import Derived.Test.YtfacbpnegkjcgaaGreatDoorGc3
import Derived.Test.YtfacbpnegkjcgaaGreatDoorGc4
import Derived.Test.YtfacbpnegkjcgaaGreatDoorRows
import Derived.Test.YtfacbpnegkjcgaaGreatDoorCards
import Derived.Test.YtfacbpnegkjcgaaGreatDoorTie
import Derived.WalkKit
import Derived.ProofKit
import Derived.LaidMore
import Derived.OpenShut
import Derived.ShutString
import Derived.ChangeOld
import Derived.Below
import Derived.SevenTiedAt
import Derived.Stop.Joined
set_option linter.unusedVariables false
set_option linter.unusedSimpArgs false
namespace Go.Hp
open Go.RowKit
theorem div_at {F : Nat → Rat} {a : Int} (hz : ZI F) (ha : a ≠ 0) (i : Nat) (hd : a ∣ (F i).num) : psc (1 / (a : Rat)) F i = (((F i).num / a : Int) : Rat) := by
  obtain ⟨k, hk⟩ := hd
  have ha' : (a : Rat) ≠ 0 := fun e => ha (by exact_mod_cast e)
  rw [hk, Int.mul_ediv_cancel_left _ ha]
  show 1 / (a : Rat) * F i = _
  rw [hz.num i, hk, Rat.intCast_mul]
  grind
theorem lzf_hz {base : Nat} {w : World} {v : Value} {n : Nat} {F : Nat → Rat} {e : TypeId} (h : OwnZ base e w v (lzf n F)) (hs : ∀ i, qsz (F i) ≤ 1099511627776) : HzV 0 w v (lzf n F) :=
  ZsV.has h.row fun x hx => by
    obtain ⟨i, hi, rfl⟩ := List.getElem_of_mem hx
    rw [lzf_get]
    have := hs i
    unfold qsz at this; omega
end Go.Hp
namespace Go.Proofs.YtfacbpnegkjcgaaGreatDoor
open Go.RowKit Go.Hp
theorem append_nz (W : World) (v x : Value) (base b ty : Nat) (l : List Int) (q : Int) (h : OwnZ base 28 W v l) (hx : NewZ W x b q 28) (hn : l.length ≤ 1099511627776) (hb : base ≤ W.heap.size) :
    ∃ v' w', (Builtin.append_ #[22, 22] ty #[v, x]).run Tryz.prog W = .ok v' w' ∧ (OwnZ base 28 w' v' (l ++ [q]) ∧ Upd (blk v) W w') := by
  obtain ⟨g, cs, rfl, h1, h2, h3, h4⟩ := hx
  obtain ⟨i0, hi, hz0, hz1, hz2⟩ := info_parts info_int
  have ho := IsZ.one h4
  obtain ⟨v', w', a, b, c⟩ := OwnR.append (P := Tryz.prog) h 22 ty i0 _ 32 Tryz.underlying22 hi hz0 hz1 hz2 rfl (by simp [nodig, isDig, Value.cells]) (by decide) ⟨g, 0, none⟩ 1 cs h3 h4 h2.news ho.1 ho.2.1 (small_lenz hn) (by omega) hb (fun _ _ _ k hq => IsZ.kd hq k)
  exact ⟨v', w', a, b, c⟩
set_option maxHeartbeats 1000000 in
theorem content_rz (v : Value) (l : List Int) (w : World) (hv : HzV 0 w v l) (hs : ∀ i, qsz (cz l i) ≤ 549755813888) (hn : l.length ≤ 1099511627776) : Calls Tryz.prog 16 #[v] w (Gives w fun r w' => IsZ w' r (cn (cz l) : Nat)) := by
  obtain ⟨A, c, rfl, hl, hc, hA⟩ := hv
  have HA : Hid (HzAt 0 w A l) := Lib.hid hA; clear hA
  have HS := Lib.hid hs; clear hs
  rw [cn_eq (cz_sup l)]
  go_enter Tryz.func16, Tryz.ntmps16
  go_wp2_with fail
  refine Calls.mono (of_r 0 _ (by omega) (by omega)) ?_
  rintro e w1 ⟨r, rfl, hr, hx1⟩
  obtain ⟨b5, A5, n5, c5, rfl⟩ := hr.cells
  have ea := (Box.new w 28 #[.bool false, .slice none 0 0] (by simp [isDig])).ext hx1
  obtain ⟨W0, eW, eb, x0⟩ := Box.made w1 28 #[.bool b5, .slice A5 n5 c5] (by simp [isDig])
  replace hr := hr.kd x0.kd
  replace ea := ea.ext x0
  have hs1 := hx1.size
  have hx := hx1.a1.trans x0
  have hgb : w.heap.size < w1.heap.size := by simp at hs1; omega
  go_wp2
  rw [← eW]
  clear eW x0 hx1 hs1
  generalize w1.heap.size = gb at *
  go_loopw [4] (fun iv wr => ∃ k : Nat, k ≤ l.length ∧ iv = .int .i64 k ∧ Box wr w.heap.size 28 #[.bool false, .slice none 0 0] ∧ BoxZ wr gb 28 (ct k (cz l) : Nat) ∧ Ext w wr) (fun iv _ => l.length - (intOf iv).toNat)
  case atStart => exact ⟨0, Nat.zero_le _, rfl, ea, BoxZ.mk eb hr, hx⟩
  case round =>
    clear hx ea eb hr
    obtain ⟨k, hk, rfl, ea, ⟨b, B, bn, bc, eb, hb⟩, hx⟩ := hrel
    have Hb := Lib.hid hb; clear hb
    by_cases hkl : k < l.length
    · obtain ⟨g, o, b1, A1, n, c1, rfl, _, q0, q1, hq⟩ := HA.out.at_ (j := k) hkl
      replace q0 := hx.cell q0
      replace q1 := hx.cell q1
      have Hq := Lib.hid (hq.kd hx.kd); clear hq
      have hsk := cn_sz HS.out k
      have hqk := HS.out k
      rw [cz_lt hkl, qsz_cast] at hqk
      have HK := Lib.hid (And.intro hsk hqk); clear hsk hqk
      obtain ⟨r0, r1⟩ := eb.cells2
      have e1 : Int.gcd (ct k (cz l) : Nat) l[k] = ct (k + 1) (cz l) := by rw [ct_succ, cz_lt hkl]; rfl
      have He := Lib.hid e1; clear e1
      go_wp2_with fail
      refine wp_region_par (k := 6) (D := [12, 13, 14, 15, 16, 17]) (T := [[], [], [], [1, 2], [1, 2, 3], [0, 1, 2, 3, 4], [0, 1, 2, 3, 4, 5]]) (EK := [3, 0, 4]) (EV := [?e1x0, ?e1x1, ?e1x2]) (VL := [(kv ?v1x0), (kv ?v1x1), (kv ?v1x2), (kv ?v1x3), (kv ?v1x4), (fun γ => γ 5)]) (FL := fun γ w' => [True, True, True, True, True, IsZ w' (γ 5) (ct (k + 1) (cz l) : Nat)]) ?hE1 (by kernel_rfl) (by kernel_rfl) (by rfl) (by kernel_rfl) ?hloc1 ?hmono1 ?hstep1 ?htail1
      case hE1 => refine ⟨?_, ?_, ?_, trivial⟩ <;> (simp only [List.getElem?_toArray, List.getElem?_cons_succ, List.getElem?_cons_zero]; rfl)
      case hstep1 =>
        refine ⟨⟨⟨⟨⟨⟨trivial, ?_⟩, ?_⟩, ?_⟩, ?_⟩, ?_⟩, ?_⟩
        · intro γ w' he hf; clear hf; refine ⟨trivial, ?_⟩; intro R hR
          have hc := he.cells
          have cq0 := he.cell q0
          have cq1 := he.cell q1
          have cq2 := he.cell r0
          have cq3 := he.cell r1
          go_simp
          (try go_ints); (try (rw [if_neg (by omega)])); (try (rw [if_pos (by omega)])); (try go_simp); (try go_ints)
          refine hR _ _ (Ext.refl _) ?_ trivial
          rfl
        · intro γ w' he hf; clear hf; refine ⟨trivial, ?_⟩; intro R hR
          have hc := he.cells
          go_simp
          (try go_ints); (try (rw [if_neg (by omega)])); (try (rw [if_pos (by omega)])); (try go_simp); (try go_ints)
          refine hR _ _ (Ext.refl _) ?_ trivial
          rfl
        · intro γ w' he hf; clear hf; refine ⟨trivial, ?_⟩; intro R hR
          have hc := he.cells
          go_simp
          (try go_ints); (try (rw [if_neg (by omega)])); (try (rw [if_pos (by omega)])); (try go_simp); (try go_ints)
          refine hR _ _ (Ext.refl _) ?_ trivial
          rfl
        · intro γ w' he hf; clear hf; refine ⟨trivial, ?_⟩; intro R hR
          have hc := he.cells
          go_simp
          (try go_ints); (try (rw [if_neg (by omega)])); (try (rw [if_pos (by omega)])); (try go_simp); (try go_ints)
          refine hR _ _ (Ext.refl _) ?_ trivial
          rfl
        · intro γ w' he hf; clear hf; refine ⟨trivial, ?_⟩; intro R hR
          have hc := he.cells
          have cq0 := he.cell q0
          have cq1 := he.cell q1
          have cq2 := he.cell r0
          have cq3 := he.cell r1
          go_simp
          (try go_ints); (try (rw [if_neg (by omega)])); (try (rw [if_pos (by omega)])); (try go_simp); (try go_ints)
          refine hR _ _ (Ext.refl _) ?_ trivial
          rfl
        · intro γ w' he hf; clear hf; refine ⟨trivial, ?_⟩; intro R hR
          go_simp
          refine Calls.mono (show Calls _ _ _ w' (Gives w' fun r w'' => IsZ w'' (r) (ct (k + 1) (cz l) : Nat)) from He.out ▸ gcd_r _ _ (ct k (cz l) : Nat) l[k] w' ((Hb.out.kd he.kd).has (by have := HK.out.1; simp; omega)) (Hq.out.kd he.kd) (by have := HK.out.1; simp; omega) (by have := HK.out.2; omega)) ?_
          rintro e w2 ⟨v, rfl, hv, hx⟩
          exact ⟨v, rfl, hR v w2 hx rfl hv⟩
      case hloc1 =>
        exact ⟨⟨⟨⟨⟨⟨trivial, (fun γ γ' h => ⟨rfl, fun _ => rfl⟩)⟩, (fun γ γ' h => ⟨rfl, fun _ => rfl⟩)⟩, (fun γ γ' h => ⟨rfl, fun _ => rfl⟩)⟩, (fun γ γ' h => ⟨rfl, fun _ => rfl⟩)⟩, (fun γ γ' h => ⟨rfl, fun _ => rfl⟩)⟩, (fun γ γ' h => ⟨h 5 rfl, fun w' => (congrArg (fun a => IsZ w' (a) (ct (k + 1) (cz l) : Nat)) (h 5 rfl))⟩)⟩
      case hmono1 =>
        exact ⟨⟨⟨⟨⟨⟨trivial, (fun γ wA w' e h => h)⟩, (fun γ wA w' e h => h)⟩, (fun γ wA w' e h => h)⟩, (fun γ wA w' e h => h)⟩, (fun γ wA w' e h => h)⟩, (fun γ wA w' e h => (show IsZ wA (γ 5) (ct (k + 1) (cz l) : Nat) from h).ext e)⟩
      intro γ w2 hx2 hF
      have p5 : IsZ w2 (γ 5) (ct (k + 1) (cz l) : Nat) := Each.get hF 5 (by decide)
      clear hF
      simp only [fillAll, gV, kv, List.getD_cons_zero, List.getD_cons_succ, Act.put, List.setIfInBounds_toArray, List.set_cons_zero, List.set_cons_succ, List.toList_toArray, List.drop_succ_cons, List.drop_zero, List.drop_nil, Nat.zero_add, Nat.reduceAdd]
      generalize γ 5 = g5 at *
      clear γ
      obtain ⟨b6, A6, n6, c6, rfl⟩ := p5.cells
      replace ea := ea.ext hx2
      replace eb := eb.ext hx2
      replace hx := hx.trans hx2
      clear hx2 q0 q1 r0 r1 He HK Hb Hq
      obtain ⟨ceb0, ceb1⟩ := eb.cells2
      have feb := eb.frozen
      go_wp2
      obtain ⟨W3, eW, eb', U⟩ := eb.put2 (.bool b6) (.slice A6 n6 c6) rfl rfl
      rw [← eW]
      clear eW eb
      replace p5 := p5.kd U.kd
      replace ea := ea.upd U (by simp <;> omega)
      replace hx := U.from_ hx (by simp <;> omega)
      have eb := eb'
      clear U eb'
      go_roundw
      case rel => exact ⟨k + 1, by omega, by go_num, ea, BoxZ.mk eb p5, hx⟩
      case measure => simp [intOf]; omega
    · obtain rfl : k = l.length := by omega
      obtain ⟨cea0, cea1⟩ := ea.cells2
      have fea := ea.frozen
      obtain ⟨ceb0, ceb1⟩ := eb.cells2
      have feb := eb.frozen
      go_wp2
      have hr := Hb.out
      obtain ⟨W3, eW, ea', U⟩ := ea.put2 (.bool b) (.slice B bn bc) rfl rfl
      rw [← eW]
      clear eW ea
      replace hr := hr.kd U.kd
      replace hx := U.from_ hx (by simp <;> omega)
      have ea := ea'
      clear U ea'
      clear cea0 cea1
      obtain ⟨cea0, cea1⟩ := ea.cells2
      have fea := ea.frozen
      refine bodyPost_ret (v := .agg #[.bool b, .slice B bn bc]) (by simp [results, Tryz.results16, go_sem, cea0, cea1]) rfl ?_
      exact Gives.mk hr hx
set_option maxRecDepth 20000 in
set_option maxHeartbeats 2000000 in
theorem over_rz (v u : Value) (l : List Int) (a : Int) (w : World) (hv : HzV 0 w v l) (hu : HasZ w u a) (hs : ∀ i, qsz (cz l i) ≤ 549755813888) (sa : sz a.natAbs ≤ 549755813888) (ha : a ≠ 0) (hd : ∀ i, a ∣ (cz l i).num) (hn : l.length ≤ 549755813888) :
    Calls Tryz.prog 67 #[v, u] w (Gives w fun r w' => IsZP w.heap.size w' r (psc (1 / (a : Rat)) (cz l))) := by
  have HU := Lib.hid hu
  obtain ⟨b1, A1, n1, c1, rfl⟩ := hu.cells
  obtain ⟨A, c, rfl, hl, hc, hA⟩ := hv
  clear hu
  have HA : Hid (HzAt 0 w A l) := Lib.hid hA; clear hA
  obtain ⟨G, hG⟩ : ∃ G, G = psc (1 / (a : Rat)) (cz l) := ⟨_, rfl⟩
  have hGi : ∀ i, G i = (((cz l i).num / a : Int) : Rat) := fun i => by rw [hG]; exact div_at (ZI.cz l) ha i (hd i)
  have hGs : Sup l.length G := by rw [hG]; exact (cz_sup l).psc _
  have hGq : ∀ i, qsz (G i) ≤ 549755813888 := fun i => by
    rw [hGi, qsz_cast]
    have h1 := sz_ediv (hd i); have h2 := hs i
    unfold qsz at h2; omega
  rw [← hG]
  have HG := Lib.hid (And.intro hGi (And.intro hGs (And.intro hGq (show ZI G from fun i => ⟨_, hGi i⟩)))); clear hG hGi hGs hGq
  have HS := Lib.hid (And.intro hs (And.intro ha hd)); clear hs ha hd
  go_enter Tryz.func67, Tryz.ntmps67
  go_wp2
  go_loopw [5, 6] (fun ov iv wr => ∃ (k : Nat), k ≤ l.length ∧ iv = .int .i64 k ∧ OwnZ (w.heap.size + 1) 28 wr ov (lzf k G) ∧ Ext (w.alloc (.cells #[.bool b1, .slice A1 n1 c1] 28)) wr) (fun _ iv _ => l.length - (intOf iv).toNat)
  case atStart => exact ⟨0, Nat.zero_le _, rfl, OwnR.nil _ _ _ _ _, Ext.refl _⟩
  case round =>
    obtain ⟨k, hk, rfl, hown, hx⟩ := hrel
    by_cases hkl : k < l.length
    · obtain ⟨g, o, b, A2, n, c2, rfl, _, q0, q1, hq⟩ := HA.out.at_ (j := k) hkl
      replace q0 := hx.a1.cell q0
      replace q1 := hx.a1.cell q1
      have ca0 := hx.box (g := w.heap.size) (i := 0) rfl rfl
      have ca1 := hx.box (g := w.heap.size) (i := 1) rfl rfl
      have hqk := HS.out.1 k
      rw [cz_lt hkl, qsz_cast] at hqk
      have hGk : l[k] / a = (G k).num := by rw [HG.out.1, cz_lt hkl]; rfl
      have Hq := Lib.hid (And.intro hq (And.intro hqk hGk)); clear hq hqk hGk
      have Hown := Lib.hid hown; clear hown
      go_wp2_with fail
      refine wp_region_par (k := 8) (D := [13, 14, 15, 16, 17, 18, 19, 20]) (T := [[], [], [], [1, 2], [1, 2, 3], [], [1, 2, 3, 4, 5], [1, 2, 3, 4, 5, 6], [0, 1, 2, 3, 4, 5, 6, 7], [0, 1, 2, 3, 4, 5, 6, 7, 8]]) (EK := [5, 0, 6, 3]) (EV := [?e2x0, ?e2x1, ?e2x2, ?e2x3]) (VL := [(kv ?v2x0), (kv ?v2x1), (kv ?v2x2), (kv ?v2x3), (kv ?v2x4), (kv ?v2x5), (fun γ => γ 6), (fun γ => γ 7)]) (FL := fun γ w' => [True, True, True, True, True, True, IsZ w' (γ 6) (G k).num, NewZ w' (γ 7) (wr.heap.size) ((G k).num) 28]) ?hE2 (by kernel_rfl) (by kernel_rfl) (by rfl) (by kernel_rfl) ?hloc2 ?hmono2 ?hstep2 ?htail2
      case hE2 => refine ⟨?_, ?_, ?_, ?_, trivial⟩ <;> (simp only [List.getElem?_toArray, List.getElem?_cons_succ, List.getElem?_cons_zero]; rfl)
      case hstep2 =>
        refine ⟨⟨⟨⟨⟨⟨⟨⟨trivial, ?_⟩, ?_⟩, ?_⟩, ?_⟩, ?_⟩, ?_⟩, ?_⟩, ?_⟩
        · intro γ w' he hf; clear hf; refine ⟨trivial, ?_⟩; intro R hR
          have hc := he.cells
          go_simp
          (try go_ints); (try (rw [if_neg (by omega)])); (try (rw [if_pos (by omega)])); (try go_simp); (try go_ints)
          refine hR _ _ (Ext.refl _) ?_ trivial
          rfl
        · intro γ w' he hf; clear hf; refine ⟨trivial, ?_⟩; intro R hR
          have hc := he.cells
          go_simp
          (try go_ints); (try (rw [if_neg (by omega)])); (try (rw [if_pos (by omega)])); (try go_simp); (try go_ints)
          refine hR _ _ (Ext.refl _) ?_ trivial
          rfl
        · intro γ w' he hf; clear hf; refine ⟨trivial, ?_⟩; intro R hR
          have hc := he.cells
          go_simp
          (try go_ints); (try (rw [if_neg (by omega)])); (try (rw [if_pos (by omega)])); (try go_simp); (try go_ints)
          refine hR _ _ (Ext.refl _) ?_ trivial
          rfl
        · intro γ w' he hf; clear hf; refine ⟨trivial, ?_⟩; intro R hR
          have hc := he.cells
          go_simp
          (try go_ints); (try (rw [if_neg (by omega)])); (try (rw [if_pos (by omega)])); (try go_simp); (try go_ints)
          refine hR _ _ (Ext.refl _) ?_ trivial
          rfl
        · intro γ w' he hf; clear hf; refine ⟨trivial, ?_⟩; intro R hR
          have hc := he.cells
          have cq0 := he.cell q0
          have cq1 := he.cell q1
          have cq2 := he.cell ca0
          have cq3 := he.cell ca1
          go_simp
          (try go_ints); (try (rw [if_neg (by omega)])); (try (rw [if_pos (by omega)])); (try go_simp); (try go_ints)
          refine hR _ _ (Ext.refl _) ?_ trivial
          rfl
        · intro γ w' he hf; clear hf; refine ⟨trivial, ?_⟩; intro R hR
          have hc := he.cells
          have cq0 := he.cell q0
          have cq1 := he.cell q1
          have cq2 := he.cell ca0
          have cq3 := he.cell ca1
          go_simp
          (try go_ints); (try (rw [if_neg (by omega)])); (try (rw [if_pos (by omega)])); (try go_simp); (try go_ints)
          refine hR _ _ (Ext.refl _) ?_ trivial
          rfl
        · intro γ w' he hf; clear hf; refine ⟨trivial, ?_⟩; intro R hR
          go_simp
          refine Calls.mono (show Calls _ _ _ w' (Gives w' fun r w'' => IsZ w'' (r) (G k).num) from Hq.out.2.2 ▸ exact_r _ _ _ _ w' (Hq.out.1.kd (hx.a1.trans he).kd) (HU.out.kd (hx.a1.trans he).kd) HS.out.2.1 (by have := Hq.out.2.1; omega) sa) ?_
          rintro e w2 ⟨v, rfl, hv, hx⟩
          exact ⟨v, rfl, hR v w2 hx rfl hv⟩
        · intro γ w' he hf; have f6 : IsZ w' (γ 6) (G k).num := hf 6 (by decide); clear hf; refine ⟨trivial, ?_⟩; intro R hR
          refine IsZ.el f6 fun b5 A5 n5 c5 e6 f6' => ?_
          clear f6
          go_simp
          exact hR _ _ ((Ext.refl _).alloc _) rfl (NewZ.mk f6' (Nat.le_trans (by simp) he.size) _)
      case hloc2 =>
        exact ⟨⟨⟨⟨⟨⟨⟨⟨trivial, (fun γ γ' h => ⟨rfl, fun _ => rfl⟩)⟩, (fun γ γ' h => ⟨rfl, fun _ => rfl⟩)⟩, (fun γ γ' h => ⟨rfl, fun _ => rfl⟩)⟩, (fun γ γ' h => ⟨rfl, fun _ => rfl⟩)⟩, (fun γ γ' h => ⟨rfl, fun _ => rfl⟩)⟩, (fun γ γ' h => ⟨rfl, fun _ => rfl⟩)⟩, (fun γ γ' h => ⟨h 6 rfl, fun w' => (congrArg (fun a => IsZ w' (a) (G k).num) (h 6 rfl))⟩)⟩, (fun γ γ' h => ⟨h 7 rfl, fun w' => (congrArg (fun a => NewZ w' (a) (wr.heap.size) ((G k).num) 28) (h 7 rfl))⟩)⟩
      case hmono2 =>
        exact ⟨⟨⟨⟨⟨⟨⟨⟨trivial, (fun γ wA w' e h => h)⟩, (fun γ wA w' e h => h)⟩, (fun γ wA w' e h => h)⟩, (fun γ wA w' e h => h)⟩, (fun γ wA w' e h => h)⟩, (fun γ wA w' e h => h)⟩, (fun γ wA w' e h => (show IsZ wA (γ 6) (G k).num from h).ext e)⟩, (fun γ wA w' e h => (show NewZ wA (γ 7) (wr.heap.size) ((G k).num) 28 from h).ext e)⟩
      intro γ w1 hx1 hF
      have p6 : IsZ w1 (γ 6) (G k).num := Each.get hF 6 (by decide)
      have p7 : NewZ w1 (γ 7) (wr.heap.size) ((G k).num) 28 := Each.get hF 7 (by decide)
      clear hF
      simp only [fillAll, gV, kv, List.getD_cons_zero, List.getD_cons_succ, Act.put, List.setIfInBounds_toArray, List.set_cons_zero, List.set_cons_succ, List.toList_toArray, List.drop_succ_cons, List.drop_zero, List.drop_nil, Nat.zero_add, Nat.reduceAdd]
      generalize γ 6 = g6 at *
      generalize γ 7 = g7 at *
      clear γ
      have hs : w.heap.size + 1 ≤ wr.heap.size := by have := hx.size; simpa using this
      have hs1 := hx1.size
      refine wpList_append_run rfl _ _ 22 rfl u5 g7 rfl rfl (append_nz w1 _ _ (w.heap.size + 1) _ _ _ _ (Hown.out.ext hx1) p7 (by rw [lzf_len]; omega) (by omega)) ?_
      rintro v' w2 ⟨hown, U⟩
      replace hx := (Hown.out.ext hx1).from_ U (hx.trans hx1) (by simp)
      have Hown' := Lib.hid hown; clear hown U p7 p6 q0 q1 ca0 ca1
      go_wp2
      go_roundw
      case rel => exact ⟨k + 1, by omega, by go_num, by rw [lzf_succ]; exact Hown'.out, hx⟩
      case measure => simp [intOf] <;> omega
    · obtain rfl : k = l.length := by omega
      have hh := lzf_hz hown (fun i => by have := HG.out.2.2.1 i; omega)
      obtain ⟨A2, c2, e2⟩ := hh.len
      rw [lzf_len] at e2
      rw [e2] at hh
      clear hown
      subst e2
      have hczl := cz_lzf HG.out.2.2.2 HG.out.2.1
      have HH := Lib.hid (And.intro hh hczl); clear hh hczl
      go_wp2_with fail
      refine Calls.mono (normal_rz _ _ _ HH.out.1 (by rw [lzf_len]; omega)) ?_
      rintro e w9 ⟨r, rfl, hr, hx9⟩
      rw [HH.out.2] at hr
      have hsz := hx.a1.size
      have Hr := Lib.hid hr; clear hr
      go_wp2
      go_ret
      exact Gives.mk (Hr.out.base_le hsz) (hx.a1.trans hx9)
set_option maxHeartbeats 1000000 in
theorem primitive_rz (v : Value) (l : List Int) (w : World) (hv : HzV 0 w v l) (hs : ∀ i, qsz (cz l i) ≤ 549755813888) (hn : l.length ≤ 549755813888) :
    Calls Tryz.prog 18 #[v] w (Gives w fun r w' => IsZP w.heap.size w' r (pp (cz l))) := by
  have HV := Lib.hid hv
  obtain ⟨A, c, rfl⟩ := hv.len
  clear hv
  have hfin := Fin_.cz l; have hzi := ZI.cz l
  have HX := Lib.hid (And.intro hs (And.intro hfin hzi)); clear hs hfin hzi
  go_enter Tryz.func18, Tryz.ntmps18
  go_wp2_with fail
  refine Calls.mono (content_rz _ l _ HV.out HX.out.1 (by omega)) ?_
  rintro e w1 ⟨r1, rfl, hr1, hx1⟩
  obtain ⟨b5, A5, n5, c5, rfl⟩ := hr1.cells
  obtain ⟨W0, eW, eb, x0⟩ := Box.made w1 28 #[.bool b5, .slice A5 n5 c5] (by simp [isDig])
  replace hr1 := hr1.kd x0.kd
  have hs1 := hx1.size
  replace hx1 := hx1.trans x0
  have hcz : sz ((cn (cz l) : Nat) : Int).natAbs ≤ 549755813888 := by have := cn_sz HX.out.1 (pl (cz l)); simpa [cn] using this
  have Hr1 := Lib.hid (And.intro hr1 hcz); clear hr1 hcz
  subst eW
  clear x0
  obtain ⟨C, hC⟩ : ∃ C, C = cn (cz l) := ⟨_, rfl⟩
  rw [← hC] at Hr1
  have HC := Lib.hid hC; clear hC
  go_upto_region 2 with (fail)
  generalize w1.alloc (.cells #[.bool b5, .slice A5 n5 c5] 28) = W0 at *
  generalize w1.heap.size = gb at *
  obtain ⟨ceb0, ceb1⟩ := eb.cells2
  have feb := eb.frozen
  go_wp2_with fail
  refine Calls.mono (sign_r _ (C : Int) _ (Hr1.out.1.has (by have := Hr1.out.2; omega))) ?_
  rintro e w2 ⟨r2, rfl, rfl, hx2⟩
  by_cases h0 : C = 0
  · have hb : ((C : Int).sign == 0) = true := by rw [h0]; rfl
    have hF : cz l = pz := Classical.byContradiction fun h => cn_ne HX.out.2.2 HX.out.2.1 h (by rw [← HC.out, h0])
    have HF := Lib.hid hF; clear hF h0
    go_wp2
    go_ret
    rw [HF.out, pp_pz]
    exact Gives.mk (IsZP.nil _ _) (hx1.trans hx2)
  · have hb : ((C : Int).sign == 0) = false := by
      have : (C : Int).sign ≠ 0 := fun e => h0 (by have := Int.sign_eq_zero_iff_zero.1 e; omega)
      simpa using this
    have hF : cz l ≠ pz := fun h => h0 (by rw [HC.out, h, cn_pz])
    have HF := Lib.hid hF; clear hF h0
    replace eb := eb.ext hx2
    have Hr2 := Lib.hid (Hr1.out.1.kd hx2.kd)
    replace hx1 := hx1.trans hx2
    have hHC := Hr1.out.2
    clear hx2 ceb0 ceb1 feb
    go_wp2_with fail
    refine Calls.mono (lead_rz _ l _ (HV.out.ext hx1) (by omega)) ?_
    rintro e w3 ⟨r3, rfl, hr3, hx3⟩
    have hlz : sz (ld (cz l)).num.natAbs ≤ 1099511627776 := by have := HX.out.1 (pl (cz l) - 1); unfold qsz at this; show sz (cz l (pl (cz l) - 1)).num.natAbs ≤ _; omega
    have Hr3 := Lib.hid (hr3.has hlz); clear hr3 hlz
    replace eb := eb.ext hx3
    have Hr4 := Lib.hid (Hr2.out.kd hx3.kd)
    replace hx1 := hx1.trans hx3
    clear hx3 Hr2
    go_wp2_with fail
    refine Calls.mono (sign_r _ (ld (cz l)).num _ Hr3.out) ?_
    rintro e w4 ⟨r4, rfl, rfl, hx4⟩
    replace eb := eb.ext hx4
    have Hr2 := Lib.hid (Hr4.out.kd hx4.kd)
    replace hx1 := hx1.trans hx4
    clear hx4 Hr3 Hr4
    have hldz : ld (cz l) = ((ld (cz l)).num : Rat) := HX.out.2.2.num _
    have hpd := fun i => pcn_dvd HX.out.2.1 i
    have hpn := pcn_ne HX.out.2.2 HX.out.2.1 HF.out
    have hpa : sz (pcn (cz l)).natAbs ≤ 549755813888 := by rw [pcn_abs]; simpa [HC.out] using hHC
    by_cases hneg : (ld (cz l)).num < 0
    · have hb2 : decide ((ld (cz l)).num < 0) = true := by simpa using hneg
      have hpc : pcn (cz l) = -(C : Int) := by
        unfold pcn; rw [hldz, if_pos (by exact_mod_cast hneg), HC.out]
      have Hpc := Lib.hid (And.intro hpc (And.intro hpd (And.intro hpn hpa))); clear hpc hldz hpd hpn hpa hneg
      obtain ⟨ceb0, ceb1⟩ := eb.cells2
      have feb := eb.frozen
      go_wp2_with fail
      refine Calls.mono (neg_r _ (C : Int) _ (Hr2.out.has (by omega))) ?_
      rintro e w5 ⟨r5, rfl, hr5, hx5⟩
      obtain ⟨b6, A6, n6, c6, rfl⟩ := hr5.cells
      replace eb := eb.ext hx5
      replace hx1 := hx1.trans hx5
      clear hx5 ceb0 ceb1 feb Hr2
      obtain ⟨ceb0, ceb1⟩ := eb.cells2
      have feb := eb.frozen
      go_upto_region 6 with (fail)
      obtain ⟨W3, eW, eb', U⟩ := eb.put2 (.bool b6) (.slice A6 n6 c6) rfl rfl
      rw [← eW]
      clear eW eb
      replace hr5 := hr5.kd U.kd
      replace hx1 := U.from_ hx1 (by simp <;> omega)
      have eb := eb'
      clear U eb'
      clear ceb0 ceb1 feb
      obtain ⟨ceb0, ceb1⟩ := eb.cells2
      have feb := eb.frozen
      rw [← Hpc.out.1] at hr5
      have Hr5 := Lib.hid (hr5.has (by have := Hpc.out.2.2.2; omega)); clear hr5
      go_wp2_with fail
      refine Calls.mono (over_rz _ _ l (pcn (cz l)) _ (HV.out.ext hx1) Hr5.out HX.out.1 Hpc.out.2.2.2 Hpc.out.2.2.1 Hpc.out.2.1 hn) ?_
      rintro e w6 ⟨r6, rfl, hr6, hx6⟩
      have hsz := hx1.size
      have Hr6 := Lib.hid hr6; clear hr6
      go_wp2
      go_ret
      exact Gives.mk (Hr6.out.base_le hsz) (hx1.trans hx6)
    · have hb2 : decide ((ld (cz l)).num < 0) = false := by simpa using hneg
      have hpc : pcn (cz l) = (C : Int) := by
        unfold pcn; rw [hldz, if_neg (by intro h; exact hneg (by exact_mod_cast h)), HC.out]
      have Hpc := Lib.hid (And.intro hpc (And.intro hpd (And.intro hpn hpa))); clear hpc hldz hpd hpn hpa hneg
      obtain ⟨ceb0, ceb1⟩ := eb.cells2
      have feb := eb.frozen
      have hr5 := Hr2.out
      rw [← Hpc.out.1] at hr5
      have Hr5 := Lib.hid (hr5.has (by have := Hpc.out.2.2.2; omega)); clear hr5
      go_wp2_with fail
      refine Calls.mono (over_rz _ _ l (pcn (cz l)) _ (HV.out.ext hx1) Hr5.out HX.out.1 Hpc.out.2.2.2 Hpc.out.2.2.1 Hpc.out.2.1 hn) ?_
      rintro e w6 ⟨r6, rfl, hr6, hx6⟩
      have hsz := hx1.size
      have Hr6 := Lib.hid hr6; clear hr6
      go_wp2
      go_ret
      exact Gives.mk (Hr6.out.base_le hsz) (hx1.trans hx6)
end Go.Proofs.YtfacbpnegkjcgaaGreatDoor
namespace Go.Proofs.YtfacbpnegkjcgaaGreatDoor
open Go.RowKit Go.Hp
/-- Scale, over polynomials. -/
theorem zscale_pp (v u : Value) (F : Nat → Rat) (a : Int) (w : World) (hv : IsZP 0 w v F) (hs : ∀ i, qsz (F i) ≤ 1099511627776) (hu : HasZ w u a) (hn : pl F ≤ 1099511627776) :
    Calls Tryz.prog 19 #[v, u] w (Gives w fun r w' => IsZP 0 w' r (psc (a : Rat) F)) := by
  obtain ⟨l, h1, h2, -, rfl⟩ := hv.hz hs
  exact Gives.imp (zscale_p v u l a w h1 hu (by omega)) fun _ _ h => h.base_le (Nat.zero_le _)
end Go.Proofs.YtfacbpnegkjcgaaGreatDoor
namespace Go.Hp
end Go.Hp
namespace Go.Proofs.YtfacbpnegkjcgaaGreatDoor
open Go.RowKit Go.Hp
end Go.Proofs.YtfacbpnegkjcgaaGreatDoor
namespace Go.Hp
open Go.RowKit
theorem qz_num {q : Rat} {s : Nat} (h : qsz q ≤ s) : sz q.num.natAbs ≤ s := by unfold qsz at h; omega
theorem lzf_hz' {base : Nat} {w : World} {v : Value} {n : Nat} {F : Nat → Rat} {e : TypeId} (h : OwnZ base e w v (lzf n F)) (hs : ∀ i, i < n → qsz (F i) ≤ 1099511627776) : HzV 0 w v (lzf n F) :=
  ZsV.has h.row fun x hx => by
    obtain ⟨i, hi, rfl⟩ := List.getElem_of_mem hx
    rw [lzf_get]
    have := hs i (by rw [lzf_len] at hi; exact hi)
    unfold qsz at this; omega
theorem lz_at {la : List Int} {F : Nat → Rat} (e : cz la = F) {i : Nat} (h : i < la.length) : la[i] = (F i).num := by
  subst e; rw [cz_lt h]; rfl
end Go.Hp
namespace Go.Proofs.YtfacbpnegkjcgaaGreatDoor
open Go.RowKit Go.Hp
set_option maxHeartbeats 1000000 in
theorem add_rzp (v u : Value) (l m : List Int) (s t : Nat) (w : World) (hv : HzV 0 w v l) (hu : HzV 0 w u m) (hs : ∀ i, qsz (cz l i) ≤ s) (ht : ∀ i, qsz (cz m i) ≤ t) (hst : s + t + 1 ≤ 549755813888) (hn : l.length ≤ 549755813888) (hm : m.length ≤ 549755813888) :
    Calls Tryz.prog 37 #[v, u] w (Gives w fun r w' => IsZP w.heap.size w' r (pad (cz l) (cz m))) := by
  have HV := Lib.hid hv; have HU := Lib.hid hu
  obtain ⟨A, c, rfl⟩ := hv.len
  obtain ⟨E, d, rfl⟩ := hu.len
  clear hv hu
  have HS := Lib.hid (And.intro hs ht); clear hs ht
  obtain ⟨N, hN⟩ : ∃ N, N = max l.length m.length := ⟨_, rfl⟩
  have h1 : l.length ≤ N := by omega
  have h2 : m.length ≤ N := by omega
  have h3 : N ≤ 549755813888 := by omega
  have h4 : ∀ k, k < N → k < l.length ∨ k < m.length := fun k hk => by omega
  have H4 := Lib.hid h4; clear h4 hN
  go_enter Tryz.func37, Tryz.ntmps37
  go_wp2
  go_loopw [5, 6] (fun ov iv wr => ∃ (k : Nat), k ≤ N ∧ iv = .int .i64 k ∧ OwnZ w.heap.size 28 wr ov (lzf k (pad (cz l) (cz m))) ∧ Ext w wr) (fun _ iv _ => N - (intOf iv).toNat)
  case atStart => exact ⟨0, Nat.zero_le _, rfl, OwnR.nil _ _ _ _ _, Ext.refl _⟩
  case round =>
    obtain ⟨k, hk, rfl, hown, hx⟩ := hrel
    by_cases hkN : k < N
    · have Hown0 := Lib.hid hown; clear hown
      by_cases hk1 : k < l.length
      · skip
        go_wp2_with fail
        refine Calls.mono (at_rz _ l k _ (HV.out.ext hx) (by omega)) ?_
        rintro e w2 ⟨r2, rfl, hr2, hx2⟩
        have Hr2 := Lib.hid hr2; clear hr2
        replace hx := hx.trans hx2
        go_wp2_with fail
        refine Calls.mono (at_rz _ m k _ (HU.out.ext hx) (by omega)) ?_
        rintro e w3 ⟨r3, rfl, hr3, hx3⟩
        have Hr3 := Lib.hid hr3; clear hr3
        replace hx := hx.trans hx3
        go_wp2_with fail
        refine Calls.mono (add_r _ _ _ _ _ ((Hr2.out.kd hx3.kd).has (by have := qz_num (HS.out.1 k); omega)) (Hr3.out.has (by have := qz_num (HS.out.2 k); omega)) (by have := qz_num (HS.out.1 k); omega) (by have := qz_num (HS.out.2 k); omega)) ?_
        rintro e w4 ⟨r4, rfl, hr4, hx4⟩
        obtain ⟨b5, A5, n5, c5, rfl⟩ := hr4.cells
        have Hr := Lib.hid hr4; clear hr4
        replace hx := hx.trans hx4
        have hown := ((Hown0.out.ext hx2).ext hx3).ext hx4
        have Hown := Lib.hid hown; clear hown
        have hsz := hx.size
        clear hx2 hx3 hx4
        go_wp2_with (at_builtin; refine wpList_append_run rfl _ _ 22 rfl u5 (.slice (some ⟨w4.heap.size, 0, none⟩) 1 1) rfl rfl (append_rz w4 w.heap.size _ _ _ _ _ Hown.out Hr.out (by first | (rw [lzf_len]; omega) | omega) hsz rfl) ?_)
        first | intro v' w5 hown U | rintro v' w5 ⟨hown, U⟩
        replace hx := (Hown.out.ext ((Ext.refl w4).alloc _)).from_ U (hx.alloc _) (Nat.le_refl _)
        have Hown' := Lib.hid hown; clear hown U
        go_wp2
        go_roundw
        case rel => exact ⟨k + 1, by omega, by go_num, by rw [lzf_succ, show (pad (cz l) (cz m) k).num = (cz l k).num + (cz m k).num from (ZI.cz l).num_add (ZI.cz m) k k]; exact Hown'.out, hx⟩
        case measure => simp [intOf] <;> omega
      · have hk2 : k < m.length := by rcases H4.out k hkN with h | h <;> omega
        have hk1' : ¬ (k : Int) < l.length := by omega
        go_wp2_with fail
        refine Calls.mono (at_rz _ l k _ (HV.out.ext hx) (by omega)) ?_
        rintro e w2 ⟨r2, rfl, hr2, hx2⟩
        have Hr2 := Lib.hid hr2; clear hr2
        replace hx := hx.trans hx2
        go_wp2_with fail
        refine Calls.mono (at_rz _ m k _ (HU.out.ext hx) (by omega)) ?_
        rintro e w3 ⟨r3, rfl, hr3, hx3⟩
        have Hr3 := Lib.hid hr3; clear hr3
        replace hx := hx.trans hx3
        go_wp2_with fail
        refine Calls.mono (add_r _ _ _ _ _ ((Hr2.out.kd hx3.kd).has (by have := qz_num (HS.out.1 k); omega)) (Hr3.out.has (by have := qz_num (HS.out.2 k); omega)) (by have := qz_num (HS.out.1 k); omega) (by have := qz_num (HS.out.2 k); omega)) ?_
        rintro e w4 ⟨r4, rfl, hr4, hx4⟩
        obtain ⟨b5, A5, n5, c5, rfl⟩ := hr4.cells
        have Hr := Lib.hid hr4; clear hr4
        replace hx := hx.trans hx4
        have hown := ((Hown0.out.ext hx2).ext hx3).ext hx4
        have Hown := Lib.hid hown; clear hown
        have hsz := hx.size
        clear hx2 hx3 hx4
        go_wp2_with (at_builtin; refine wpList_append_run rfl _ _ 22 rfl u5 (.slice (some ⟨w4.heap.size, 0, none⟩) 1 1) rfl rfl (append_rz w4 w.heap.size _ _ _ _ _ Hown.out Hr.out (by first | (rw [lzf_len]; omega) | omega) hsz rfl) ?_)
        first | intro v' w5 hown U | rintro v' w5 ⟨hown, U⟩
        replace hx := (Hown.out.ext ((Ext.refl w4).alloc _)).from_ U (hx.alloc _) (Nat.le_refl _)
        have Hown' := Lib.hid hown; clear hown U
        go_wp2
        go_roundw
        case rel => exact ⟨k + 1, by omega, by go_num, by rw [lzf_succ, show (pad (cz l) (cz m) k).num = (cz l k).num + (cz m k).num from (ZI.cz l).num_add (ZI.cz m) k k]; exact Hown'.out, hx⟩
        case measure => simp [intOf] <;> omega
    · obtain rfl : k = N := by omega
      have hk1' : ¬ (k : Int) < l.length := by omega
      have hk2' : ¬ (k : Int) < m.length := by omega
      have hh := lzf_hz' hown (fun i hi => (by have h1 := qsz_addz (ZI.cz l) (ZI.cz m) i i; have h2 := HS.out.1 i; have h3 := HS.out.2 i; show qsz (cz l i + cz m i) ≤ _; omega))
      have hczl := cz_lzf (n := k) (F := pad (cz l) (cz m)) ((ZI.cz l).pad (ZI.cz m)) (((cz_sup l).mono (by omega)).pad ((cz_sup m).mono (by omega)))
      obtain ⟨A2, c2, e2⟩ := hh.len
      rw [lzf_len] at e2
      rw [e2] at hh
      clear hown
      subst e2
      have HH := Lib.hid (And.intro hh hczl); clear hh hczl
      go_wp2_with fail
      refine Calls.mono (normal_rz _ _ _ HH.out.1 (by rw [lzf_len]; omega)) ?_
      rintro e w9 ⟨r, rfl, hr, hx9⟩
      rw [HH.out.2] at hr
      have hsz := (hx).size
      have Hr := Lib.hid hr; clear hr
      go_wp2
      go_ret
      exact Gives.mk (Hr.out.base_le (by omega)) ((hx).trans hx9)
set_option maxRecDepth 20000 in
set_option maxHeartbeats 1000000 in
theorem scale_rzp (v u : Value) (l : List Int) (ca : Int) (s : Nat) (w : World) (hv : HzV 0 w v l) (hu : HasZ w u ca) (hs : ∀ i, qsz (cz l i) ≤ s) (hst : s + qsz (ca : Rat) ≤ 549755813888) (hn : l.length ≤ 549755813888) :
    Calls Tryz.prog 41 #[v, u] w (Gives w fun r w' => IsZP w.heap.size w' r (psc (ca : Rat) (cz l))) := by
  have HU := Lib.hid hu
  obtain ⟨b1, A1, n1, c1, rfl⟩ := hu.cells
  obtain ⟨A, c, rfl, hl, hc, hA⟩ := hv
  clear hu
  have HA : Hid (HzAt 0 w A l) := Lib.hid hA; clear hA
  have HS := Lib.hid (And.intro hs hst); clear hs hst
  go_enter Tryz.func41, Tryz.ntmps41
  go_wp2
  go_loopw [5, 6] (fun ov iv wr => ∃ (k : Nat), k ≤ l.length ∧ iv = .int .i64 k ∧ OwnZ (w.heap.size + 1) 28 wr ov (lzf k (psc (ca : Rat) (cz l))) ∧ Ext (w.alloc (.cells #[.bool b1, .slice A1 n1 c1] 28)) wr) (fun _ iv _ => l.length - (intOf iv).toNat)
  case atStart => exact ⟨0, Nat.zero_le _, rfl, OwnR.nil _ _ _ _ _, Ext.refl _⟩
  case round =>
    obtain ⟨k, hk, rfl, hown, hx⟩ := hrel
    by_cases hkl : k < l.length
    · obtain ⟨g, o, b, A2, n, c2, rfl, _, q0, q1, hq⟩ := HA.out.at_ (j := k) hkl
      replace q0 := hx.a1.cell q0
      replace q1 := hx.a1.cell q1
      have ca0 := hx.box (g := w.heap.size) (i := 0) rfl rfl
      have ca1 := hx.box (g := w.heap.size) (i := 1) rfl rfl
      have hval : (psc (ca : Rat) (cz l) k).num = l[k] * ca := by
        show ((ca : Rat) * cz l k).num = _
        rw [cz_lt hkl, num_mul, Int.mul_comm]
      have hqk := HS.out.1 k
      rw [cz_lt hkl, qsz_cast] at hqk
      have hqa := HS.out.2
      rw [qsz_cast] at hqa
      have Hq := Lib.hid (And.intro hq (And.intro hval (And.intro hqk hqa))); clear hq hval hqk hqa
      have Hown := Lib.hid hown; clear hown
      go_wp2_with fail
      refine wp_region_par (k := 8) (D := [13, 14, 15, 16, 17, 18, 19, 20]) (T := [[], [], [], [1, 2], [1, 2, 3], [], [1, 2, 3, 4, 5], [1, 2, 3, 4, 5, 6], [0, 1, 2, 3, 4, 5, 6, 7], [0, 1, 2, 3, 4, 5, 6, 7, 8]]) (EK := [5, 0, 6, 3]) (EV := [?e1x0, ?e1x1, ?e1x2, ?e1x3]) (VL := [(kv ?v1x0), (kv ?v1x1), (kv ?v1x2), (kv ?v1x3), (kv ?v1x4), (kv ?v1x5), (fun γ => γ 6), (fun γ => γ 7)]) (FL := fun γ w' => [True, True, True, True, True, True, IsZ w' (γ 6) (psc (ca : Rat) (cz l) k).num, NewZ w' (γ 7) (wr.heap.size) ((psc (ca : Rat) (cz l) k).num) 28]) ?hE1 (by kernel_rfl) (by kernel_rfl) (by rfl) (by kernel_rfl) ?hloc1 ?hmono1 ?hstep1 ?htail1
      case hE1 => refine ⟨?_, ?_, ?_, ?_, trivial⟩ <;> (simp only [List.getElem?_toArray, List.getElem?_cons_succ, List.getElem?_cons_zero]; rfl)
      case hstep1 =>
        refine ⟨⟨⟨⟨⟨⟨⟨⟨trivial, ?_⟩, ?_⟩, ?_⟩, ?_⟩, ?_⟩, ?_⟩, ?_⟩, ?_⟩
        · intro γ w' he hf; clear hf; refine ⟨trivial, ?_⟩; intro R hR
          have hc := he.cells
          go_simp
          (try go_ints); (try (rw [if_neg (by omega)])); (try (rw [if_pos (by omega)])); (try go_simp); (try go_ints)
          refine hR _ _ (Ext.refl _) ?_ trivial
          rfl
        · intro γ w' he hf; clear hf; refine ⟨trivial, ?_⟩; intro R hR
          have hc := he.cells
          go_simp
          (try go_ints); (try (rw [if_neg (by omega)])); (try (rw [if_pos (by omega)])); (try go_simp); (try go_ints)
          refine hR _ _ (Ext.refl _) ?_ trivial
          rfl
        · intro γ w' he hf; clear hf; refine ⟨trivial, ?_⟩; intro R hR
          have hc := he.cells
          go_simp
          (try go_ints); (try (rw [if_neg (by omega)])); (try (rw [if_pos (by omega)])); (try go_simp); (try go_ints)
          refine hR _ _ (Ext.refl _) ?_ trivial
          rfl
        · intro γ w' he hf; clear hf; refine ⟨trivial, ?_⟩; intro R hR
          have hc := he.cells
          go_simp
          (try go_ints); (try (rw [if_neg (by omega)])); (try (rw [if_pos (by omega)])); (try go_simp); (try go_ints)
          refine hR _ _ (Ext.refl _) ?_ trivial
          rfl
        · intro γ w' he hf; clear hf; refine ⟨trivial, ?_⟩; intro R hR
          have hc := he.cells
          have cq0 := he.cell q0
          have cq1 := he.cell q1
          have cq2 := he.cell ca0
          have cq3 := he.cell ca1
          go_simp
          (try go_ints); (try (rw [if_neg (by omega)])); (try (rw [if_pos (by omega)])); (try go_simp); (try go_ints)
          refine hR _ _ (Ext.refl _) ?_ trivial
          rfl
        · intro γ w' he hf; clear hf; refine ⟨trivial, ?_⟩; intro R hR
          have hc := he.cells
          have cq0 := he.cell q0
          have cq1 := he.cell q1
          have cq2 := he.cell ca0
          have cq3 := he.cell ca1
          go_simp
          (try go_ints); (try (rw [if_neg (by omega)])); (try (rw [if_pos (by omega)])); (try go_simp); (try go_ints)
          refine hR _ _ (Ext.refl _) ?_ trivial
          rfl
        · intro γ w' he hf; clear hf; refine ⟨trivial, ?_⟩; intro R hR
          go_simp
          refine Calls.mono (show Calls _ _ _ w' (Gives w' fun r w'' => IsZ w'' (r) (psc (ca : Rat) (cz l) k).num) from Hq.out.2.1 ▸ mul_r _ _ _ _ w' (Hq.out.1.kd (hx.a1.trans he).kd) (HU.out.kd (hx.a1.trans he).kd) (by have := Hq.out.2.2; omega) (by have := Hq.out.2.2; omega)) ?_
          rintro e w2 ⟨v, rfl, hv, hx⟩
          exact ⟨v, rfl, hR v w2 hx rfl hv⟩
        · intro γ w' he hf; have f6 : IsZ w' (γ 6) (psc (ca : Rat) (cz l) k).num := hf 6 (by decide); clear hf; refine ⟨trivial, ?_⟩; intro R hR
          refine IsZ.el f6 fun b5 A5 n5 c5 e6 f6' => ?_
          clear f6
          go_simp
          exact hR _ _ ((Ext.refl _).alloc _) rfl (NewZ.mk f6' (Nat.le_trans (by simp) he.size) _)
      case hloc1 =>
        exact ⟨⟨⟨⟨⟨⟨⟨⟨trivial, (fun γ γ' h => ⟨rfl, fun _ => rfl⟩)⟩, (fun γ γ' h => ⟨rfl, fun _ => rfl⟩)⟩, (fun γ γ' h => ⟨rfl, fun _ => rfl⟩)⟩, (fun γ γ' h => ⟨rfl, fun _ => rfl⟩)⟩, (fun γ γ' h => ⟨rfl, fun _ => rfl⟩)⟩, (fun γ γ' h => ⟨rfl, fun _ => rfl⟩)⟩, (fun γ γ' h => ⟨h 6 rfl, fun w' => (congrArg (fun a => IsZ w' (a) (psc (ca : Rat) (cz l) k).num) (h 6 rfl))⟩)⟩, (fun γ γ' h => ⟨h 7 rfl, fun w' => (congrArg (fun a => NewZ w' (a) (wr.heap.size) ((psc (ca : Rat) (cz l) k).num) 28) (h 7 rfl))⟩)⟩
      case hmono1 =>
        exact ⟨⟨⟨⟨⟨⟨⟨⟨trivial, (fun γ wA w' e h => h)⟩, (fun γ wA w' e h => h)⟩, (fun γ wA w' e h => h)⟩, (fun γ wA w' e h => h)⟩, (fun γ wA w' e h => h)⟩, (fun γ wA w' e h => h)⟩, (fun γ wA w' e h => (show IsZ wA (γ 6) (psc (ca : Rat) (cz l) k).num from h).ext e)⟩, (fun γ wA w' e h => (show NewZ wA (γ 7) (wr.heap.size) ((psc (ca : Rat) (cz l) k).num) 28 from h).ext e)⟩
      intro γ w1 hx1 hF
      have p6 : IsZ w1 (γ 6) (psc (ca : Rat) (cz l) k).num := Each.get hF 6 (by decide)
      have p7 : NewZ w1 (γ 7) (wr.heap.size) ((psc (ca : Rat) (cz l) k).num) 28 := Each.get hF 7 (by decide)
      clear hF
      simp only [fillAll, gV, kv, List.getD_cons_zero, List.getD_cons_succ, Act.put, List.setIfInBounds_toArray, List.set_cons_zero, List.set_cons_succ, List.toList_toArray, List.drop_succ_cons, List.drop_zero, List.drop_nil, Nat.zero_add, Nat.reduceAdd]
      generalize γ 6 = g6 at *
      generalize γ 7 = g7 at *
      clear γ
      have hs : w.heap.size + 1 ≤ wr.heap.size := by have := hx.size; simpa using this
      have hs1 := hx1.size
      refine wpList_append_run rfl _ _ 22 rfl u5 g7 rfl rfl (append_nz w1 _ _ (w.heap.size + 1) _ _ _ _ (Hown.out.ext hx1) p7 (by rw [lzf_len]; omega) (by omega)) ?_
      rintro v' w2 ⟨hown, U⟩
      replace hx := (Hown.out.ext hx1).from_ U (hx.trans hx1) (by simp)
      have Hown' := Lib.hid hown; clear hown U p7 p6 q0 q1 ca0 ca1
      go_wp2
      go_roundw
      case rel => exact ⟨k + 1, by omega, by go_num, by rw [lzf_succ]; exact Hown'.out, hx⟩
      case measure => simp [intOf] <;> omega
    · obtain rfl : k = l.length := by omega
      have hh := lzf_hz' hown (fun i hi => (by have h1 := qsz_mul (ca : Rat) (cz l i); have h2 := HS.out.1 i; have h3 := HS.out.2; show qsz ((ca : Rat) * cz l i) ≤ _; omega))
      have hczl := cz_lzf (n := l.length) (F := psc (ca : Rat) (cz l)) ((ZI.cz l).psc ca) ((cz_sup l).psc _)
      obtain ⟨A2, c2, e2⟩ := hh.len
      rw [lzf_len] at e2
      rw [e2] at hh
      clear hown
      subst e2
      have HH := Lib.hid (And.intro hh hczl); clear hh hczl
      go_wp2_with fail
      refine Calls.mono (normal_rz _ _ _ HH.out.1 (by rw [lzf_len]; omega)) ?_
      rintro e w9 ⟨r, rfl, hr, hx9⟩
      rw [HH.out.2] at hr
      have hsz := (hx.a1).size
      have Hr := Lib.hid hr; clear hr
      go_wp2
      go_ret
      exact Gives.mk (Hr.out.base_le (by omega)) ((hx.a1).trans hx9)
theorem sub_rzp (v u : Value) (l m : List Int) (s t : Nat) (w : World) (hv : HzV 0 w v l) (hu : HzV 0 w u m) (hs : ∀ i, qsz (cz l i) ≤ s) (ht : ∀ i, qsz (cz m i) ≤ t) (hst : s + t + 2 ≤ 549755813888) (hn : l.length ≤ 549755813888) (hm : m.length ≤ 549755813888) :
    Calls Tryz.prog 39 #[v, u] w (Gives w fun r w' => IsZP w.heap.size w' r (psb (cz l) (cz m))) := by
  have HV := Lib.hid hv; have HU := Lib.hid hu
  obtain ⟨A, c, rfl⟩ := hv.len
  obtain ⟨E, d, rfl⟩ := hu.len
  clear hv hu
  have HS := Lib.hid (And.intro hs ht); clear hs ht
  have e1 : qsz ((-1 : Int) : Rat) = 1 := by decide
  have E1 := Lib.hid e1; clear e1
  go_enter Tryz.func39, Tryz.ntmps39
  go_wp2_with fail
  refine Calls.mono (of_r (-1) _ (by omega) (by omega)) ?_
  rintro e w1 ⟨r1, rfl, hr1, hx1⟩
  have Hr1 := Lib.hid hr1; clear hr1
  go_wp2_with fail
  refine Calls.mono (scale_rzp _ _ m (-1) t _ (HU.out.ext hx1) (Hr1.out.has (by decide)) HS.out.2 (by rw [E1.out]; omega) hm) ?_
  rintro e w2 ⟨r2, rfl, hr2, hx2⟩
  obtain ⟨l2, h2, h3, h4, h5⟩ := hr2.hz (fun i => by have h1 := qsz_mul ((-1 : Int) : Rat) (cz m i); rw [E1.out] at h1; have h2 := HS.out.2 i; show qsz (_ * _) ≤ _; omega)
  replace hx1 := hx1.trans hx2
  have H2 := Lib.hid (And.intro h2 (And.intro h3 h5)); clear h2 h3 h4 h5 hr2 hx2
  have hl2 : l2.length ≤ 549755813888 := by rw [H2.out.2.1]; exact Nat.le_trans (pl_le ((cz_sup m).psc _)) hm
  go_wp2_with fail
  refine Calls.mono (add_rzp _ _ l l2 s (t + 1) _ (HV.out.ext hx1) H2.out.1 HS.out.1 (fun i => by rw [H2.out.2.2]; have h1 := qsz_mul ((-1 : Int) : Rat) (cz m i); rw [E1.out] at h1; have h2 := HS.out.2 i; show qsz (_ * _) ≤ _; omega) (by omega) hn hl2) ?_
  rintro e w3 ⟨r3, rfl, hr3, hx3⟩
  have hsz := hx1.size
  have Hr3 := Lib.hid hr3; clear hr3
  go_wp2
  go_ret
  refine Gives.mk ?_ (hx1.trans hx3)
  have := Hr3.out.base_le (b := w.heap.size) (by omega)
  rw [H2.out.2.2] at this
  rw [psb_eq]; exact this
end Go.Proofs.YtfacbpnegkjcgaaGreatDoor
namespace Go.Hp
open Go.RowKit
theorem OwnZ.off {base : Nat} {e : TypeId} {w w' : World} {v : Value} {l : List Int} {g : Nat} (h : OwnZ base e w v l) (U : Upd [g] w w') (hg : ∀ k ∈ blk v, k < g) : OwnZ base e w' v l :=
  OwnR.upd h U (fun k hk hG => by have := hg k hk; simp at hG; omega) fun _ _ q => q.kd U.kd
theorem sm_zi {F G : Nat → Rat} (hF : ZI F) (hG : ZI G) (n : Nat) : ∀ i, ∃ z : Int, sm i (fun j => F j * G (n - j)) = (z : Rat) := fun i =>
  sm_int fun j _ => by rw [hF.num j, hG.num (n - j), ← Rat.intCast_mul]; exact ⟨_, rfl⟩
theorem sm_nsucc {F G : Nat → Rat} (hF : ZI F) (hG : ZI G) (n i : Nat) : (sm (i + 1) (fun j => F j * G (n - j))).num = (sm i (fun j => F j * G (n - j))).num + (F i).num * (G (n - i)).num := by
  rw [sm_succ]
  obtain ⟨z, e⟩ := sm_zi hF hG n i
  rw [e, hF.num i, hG.num (n - i), ← Rat.intCast_mul, num_add]; rfl
end Go.Hp
namespace Go.Proofs.YtfacbpnegkjcgaaGreatDoor
open Go.RowKit Go.Hp
set_option maxRecDepth 20000 in
set_option maxHeartbeats 4000000 in
theorem mul_rzp (v u : Value) (l m : List Int) (s t : Nat) (w : World) (hv : HzV 0 w v l) (hu : HzV 0 w u m) (hs : ∀ i, qsz (cz l i) ≤ s) (ht : ∀ i, qsz (cz m i) ≤ t) (hst : 1 + (l.length + m.length) * (s + t + 1) ≤ 274877906944) (hn : l.length ≤ 274877906944) (hm : m.length ≤ 274877906944) :
    Calls Tryz.prog 40 #[v, u] w (Gives w fun r w' => IsZP w.heap.size w' r (cv (cz l) (cz m))) := by
  have HV := Lib.hid hv; have HU := Lib.hid hu
  obtain ⟨A, c, rfl⟩ := hv.len
  obtain ⟨E, d, rfl⟩ := hu.len
  clear hv hu
  have hp0 := pl_le (cz_sup l)
  have hq0 := pl_le (cz_sup m)
  have HF := Lib.hid (And.intro (Fin_.cz l) (Fin_.cz m))
  have HI := Lib.hid (And.intro (ZI.cz l) (ZI.cz m))
  obtain ⟨F, hF⟩ : ∃ F, F = cz l := ⟨_, rfl⟩
  obtain ⟨G, hG⟩ : ∃ G, G = cz m := ⟨_, rfl⟩
  rw [← hF, ← hG] at HF HI
  rw [← hF] at hs hp0
  rw [← hG] at ht hq0
  rw [← hF, ← hG]
  have HN := Lib.hid (And.intro (normal_rz _ l w HV.out (by omega)) (fun w' (e : Ext w w') => normal_rz _ m w' (HU.out.ext e) (by omega)))
  rw [← hF, ← hG] at HN
  clear hF hG HV HU
  have HS := Lib.hid (And.intro hs (And.intro ht hst)); clear hs ht hst
  go_enter Tryz.func40, Tryz.ntmps40
  go_wp2_with fail
  refine Calls.mono HN.out.1 ?_
  rintro e w1 ⟨r1, rfl, hr1, hx1⟩
  have Hr1 := Lib.hid hr1; clear hr1
  go_wp2_with fail
  refine Calls.mono (HN.out.2 w1 hx1) ?_
  rintro e w2 ⟨r2, rfl, hr2, hx2⟩
  obtain ⟨A1, c1, la, rfl, k1, k2, hA, k3, k4, k5⟩ := (Hr1.out.ext hx2).form
  obtain ⟨A2, c2, lb, rfl, k6, k7, hB, k8, k9, k10⟩ := hr2.form
  replace hx1 := hx1.trans hx2
  have HA := Lib.hid (And.intro hA (And.intro k3 k5)); have HB := Lib.hid (And.intro hB (And.intro k8 k10))
  clear hx2 Hr1 hr2 hA hB k3 k4 k5 k8 k9 k10 HN
  obtain ⟨p, hp⟩ : ∃ p, p = pl F := ⟨_, rfl⟩
  obtain ⟨q, hq⟩ : ∃ q, q = pl G := ⟨_, rfl⟩
  rw [← hp] at HA hp0 ⊢
  rw [← hp] at k1
  rw [← hq] at HB hq0 k6 ⊢
  have HP := Lib.hid (And.intro hp hq); clear hp hq
  by_cases h0 : p = 0
  · have b0 : ((p : Int) == 0) = true := by rw [h0]; rfl
    have H0 := Lib.hid h0; clear h0
    go_wp2
    go_ret
    have : F = pz := (pl_zero HF.out.1).1 (by rw [← HP.out.1]; exact H0.out)
    rw [this, pz_cv]
    exact Gives.mk (IsZP.nil _ _) hx1
  have b0 : ((p : Int) == 0) = false := by simpa using h0
  by_cases h1 : q = 0
  · have b1 : ((q : Int) == 0) = true := by rw [h1]; rfl
    have H1 := Lib.hid h1; clear h0 h1
    go_wp2
    go_ret
    have : G = pz := (pl_zero HF.out.2).1 (by rw [← HP.out.2]; exact H1.out)
    rw [this, cv_pz]
    exact Gives.mk (IsZP.nil _ _) hx1
  have b1 : ((q : Int) == 0) = false := by simpa using h1
  have sF : Sup p F := by rw [HP.out.1]; exact pl_sup HF.out.1
  have sG : Sup q G := by rw [HP.out.2]; exact pl_sup HF.out.2
  have HZ := Lib.hid (And.intro sF sG); clear sF sG
  obtain ⟨N, hN⟩ : ∃ N, p + q = N + 1 := ⟨p + q - 1, by omega⟩
  have hN1 : N ≤ 549755813888 := by omega
  have HL := Lib.hid (show N + 1 ≤ l.length + m.length by omega)
  have hpb : p ≤ 549755813888 := by omega
  have hqb : q ≤ 549755813888 := by omega
  clear h0 h1 hp0 hq0
  have HW := Lib.hid hx1; clear hx1
  obtain ⟨wb, hwb⟩ : ∃ wb : World, wb = w2 := ⟨_, rfl⟩
  subst hwb
  go_wp2
  go_loopw [7, 8] (fun ov iv wr => ∃ (n : Nat), n ≤ N ∧ iv = .int .i64 n ∧ OwnZ wb.heap.size 28 wr ov (lzf n (cv F G)) ∧ Ext wb wr) (fun _ iv _ => N - (intOf iv).toNat)
  case atStart => exact ⟨0, Nat.zero_le _, rfl, OwnR.nil _ _ _ _ _, Ext.refl _⟩
  case round =>
    obtain ⟨n, hn, rfl, hown, hx⟩ := hrel
    by_cases hnN : n < N
    · have Hown0 := Lib.hid hown; clear hown
      go_wp2_with fail
      refine Calls.mono (of_r 0 _ (by omega) (by omega)) ?_
      rintro e w3 ⟨r3, rfl, hr3, hx3⟩
      obtain ⟨b5, A5, n5, c5, rfl⟩ := hr3.cells
      have hown := Hown0.out.ext hx3
      have Hbk := Lib.hid (fun g hg => (OwnR.blk_ge hown g hg).2)
      replace hx := hx.trans hx3
      clear hx3 Hown0
      go_upto_region 9 with (fail)
      obtain ⟨W9, eW9, e9, x9⟩ := Box.made w3 28 #[.bool b5, .slice A5 n5 c5] (by simp [isDig])
      rw [← eW9]
      clear eW9
      have eb := BoxZ.mk e9 (hr3.kd x9.kd)
      replace hown := OwnZ.ext hown x9
      have Hsz9 := Lib.hid hx.size
      replace hx := hx.trans x9
      have Hown := Lib.hid hown
      clear x9 hr3 e9 hown
      generalize w3.heap.size = gb at *
      go_wp2
      go_loopw [10] (fun iv wx => ∃ (i : Nat), i ≤ n + 1 ∧ iv = .int .i64 i ∧ BoxZ wx gb 28 (sm i (fun j => F j * G (n - j))).num ∧ OwnZ wb.heap.size 28 wx u7 (lzf n (cv F G)) ∧ Ext wb wx) (fun iv _ => n + 1 - (intOf iv).toNat)
      case atStart => exact ⟨0, Nat.zero_le _, rfl, eb, Hown.out, hx⟩
      case round =>
        clear eb hx Hown
        obtain ⟨i, hi, rfl, ⟨z1, Z1, zn, zc, ez, hz⟩, hown, hx⟩ := hrel
        have Hz := Lib.hid hz; clear hz
        have Hown := Lib.hid hown; clear hown
        by_cases hin : i < n + 1
        · by_cases hip : i < p
          · by_cases hiq : n - i < q
            · have hiq' : (n : Int) - i < q := by omega
              obtain ⟨g, o, b, B1, n1, d1, rfl, _, q0, q1, hqa⟩ := HA.out.1.at_ (j := i) (by rw [HA.out.2.1]; exact hip)
              obtain ⟨g', o', bb, B2, n2, d2, rfl, _, r0, r1, hqb'⟩ := HB.out.1.at_ (j := n - i) (by rw [HB.out.2.1]; exact hiq)
              have ea := lz_at HA.out.2.2 (i := i) (by rw [HA.out.2.1]; exact hip)
              have eb' := lz_at HB.out.2.2 (i := n - i) (by rw [HB.out.2.1]; exact hiq)
              rw [ea] at hqa
              rw [eb'] at hqb'
              replace q0 := hx.cell q0
              replace q1 := hx.cell q1
              replace r0 := hx.cell r0
              replace r1 := hx.cell r1
              have Hqa := Lib.hid (hqa.kd hx.kd); have Hqb := Lib.hid (hqb'.kd hx.kd); clear hqa hqb' ea eb'
              have HQ := Lib.hid (show sz (F i).num.natAbs ≤ 274877906944 ∧ sz (G (n - i)).num.natAbs ≤ 274877906944 ∧ sz ((F i).num * (G (n - i)).num).natAbs ≤ 274877906944 ∧ sz (sm i (fun j => F j * G (n - j))).num.natAbs ≤ 274877906944 by
                have h1 := HS.out.1 i; have h2 := HS.out.2.1 (n - i)
                have h3 := qsz_mul (F i) (G (n - i))
                have h4 := smm_qsz HS.out.1 HS.out.2.1 n i
                have h5 := mul_le_of (i := i) (by have := HL.out; omega) HS.out.2.2
                have h6 := mul_le_of (i := 1) (by have := HL.out; omega) HS.out.2.2
                have h7 := qz_num h1
                have h8 := qz_num h2
                have h9 := qz_num h4
                have h10 := qz_num h3
                rw [HI.out.1.num_mul HI.out.2] at h10
                omega)
              obtain ⟨cez0, cez1⟩ := ez.cells2
              have fez := ez.frozen
              go_wp2_with fail
              refine wp_region_par (k := 13) (D := [51, 52, 53, 54, 55, 56, 57, 58, 59, 60, 61, 62, 63]) (T := [[], [], [], [1, 2], [1, 2, 3], [], [], [], [6, 7], [5, 6, 7, 8], [5, 6, 7, 8, 9], [1, 2, 3, 4, 5, 6, 7, 8, 9, 10], [0, 1, 2, 3, 4, 5, 6, 7, 8, 9, 10, 11], [0, 1, 2, 3, 4, 5, 6, 7, 8, 9, 10, 11, 12]]) (EK := [9, 5, 10, 6, 8]) (EV := [?e2x0, ?e2x1, ?e2x2, ?e2x3, ?e2x4]) (VL := [(kv ?v2x0), (kv ?v2x1), (kv ?v2x2), (kv ?v2x3), (kv ?v2x4), (kv ?v2x5), (kv ?v2x6), (kv ?v2x7), (kv ?v2x8), (kv ?v2x9), (kv ?v2x10), (fun γ => γ 11), (fun γ => γ 12)]) (FL := fun γ w' => [True, True, True, True, True, True, True, True, True, True, True, IsZ w' (γ 11) ((F i).num * (G (n - i)).num), IsZ w' (γ 12) ((sm i (fun j => F j * G (n - j))).num + (F i).num * (G (n - i)).num)]) ?hE2 (by kernel_rfl) (by kernel_rfl) (by rfl) (by kernel_rfl) ?hloc2 ?hmono2 ?hstep2 ?htail2
              case hE2 => refine ⟨?_, ?_, ?_, ?_, ?_, trivial⟩ <;> (simp only [List.getElem?_toArray, List.getElem?_cons_succ, List.getElem?_cons_zero]; rfl)
              case hstep2 =>
                refine ⟨⟨⟨⟨⟨⟨⟨⟨⟨⟨⟨⟨⟨trivial, ?_⟩, ?_⟩, ?_⟩, ?_⟩, ?_⟩, ?_⟩, ?_⟩, ?_⟩, ?_⟩, ?_⟩, ?_⟩, ?_⟩, ?_⟩
                · intro γ w' he hf; clear hf; refine ⟨trivial, ?_⟩; intro R hR
                  have hc := he.cells
                  have cq0 := he.cell cez0
                  have cq1 := he.cell cez1
                  have cq2 := he.cell q0
                  have cq3 := he.cell q1
                  have cq4 := he.cell r0
                  have cq5 := he.cell r1
                  go_simp
                  (try go_ints); (try (rw [if_neg (by omega)])); (try (rw [if_pos (by omega)])); (try go_simp); (try go_ints)
                  refine hR _ _ (Ext.refl _) ?_ trivial
                  rfl
                · intro γ w' he hf; clear hf; refine ⟨trivial, ?_⟩; intro R hR
                  have hc := he.cells
                  go_simp
                  (try go_ints); (try (rw [if_neg (by omega)])); (try (rw [if_pos (by omega)])); (try go_simp); (try go_ints)
                  refine hR _ _ (Ext.refl _) ?_ trivial
                  rfl
                · intro γ w' he hf; clear hf; refine ⟨trivial, ?_⟩; intro R hR
                  have hc := he.cells
                  go_simp
                  (try go_ints); (try (rw [if_neg (by omega)])); (try (rw [if_pos (by omega)])); (try go_simp); (try go_ints)
                  refine hR _ _ (Ext.refl _) ?_ trivial
                  rfl
                · intro γ w' he hf; clear hf; refine ⟨trivial, ?_⟩; intro R hR
                  have hc := he.cells
                  go_simp
                  (try go_ints); (try (rw [if_neg (by omega)])); (try (rw [if_pos (by omega)])); (try go_simp); (try go_ints)
                  refine hR _ _ (Ext.refl _) ?_ trivial
                  rfl
                · intro γ w' he hf; clear hf; refine ⟨trivial, ?_⟩; intro R hR
                  have hc := he.cells
                  have cq0 := he.cell cez0
                  have cq1 := he.cell cez1
                  have cq2 := he.cell q0
                  have cq3 := he.cell q1
                  have cq4 := he.cell r0
                  have cq5 := he.cell r1
                  go_simp
                  (try go_ints); (try (rw [if_neg (by omega)])); (try (rw [if_pos (by omega)])); (try go_simp); (try go_ints)
                  refine hR _ _ (Ext.refl _) ?_ trivial
                  rfl
                · intro γ w' he hf; clear hf; refine ⟨trivial, ?_⟩; intro R hR
                  have hc := he.cells
                  go_simp
                  (try go_ints); (try (rw [if_neg (by omega)])); (try (rw [if_pos (by omega)])); (try go_simp); (try go_ints)
                  refine hR _ _ (Ext.refl _) ?_ trivial
                  rfl
                · intro γ w' he hf; clear hf; refine ⟨trivial, ?_⟩; intro R hR
                  have hc := he.cells
                  go_simp
                  (try go_ints); (try (rw [if_neg (by omega)])); (try (rw [if_pos (by omega)])); (try go_simp); (try go_ints)
                  refine hR _ _ (Ext.refl _) ?_ trivial
                  rfl
                · intro γ w' he hf; clear hf; refine ⟨trivial, ?_⟩; intro R hR
                  have hc := he.cells
                  go_simp
                  (try go_ints); (try (rw [if_neg (by omega)])); (try (rw [if_pos (by omega)])); (try go_simp); (try go_ints)
                  refine hR _ _ (Ext.refl _) ?_ trivial
                  rfl
                · intro γ w' he hf; clear hf; refine ⟨trivial, ?_⟩; intro R hR
                  have hc := he.cells
                  go_simp
                  (try go_ints); (try (rw [if_neg (by omega)])); (try (rw [if_pos (by omega)])); (try go_simp); (try go_ints)
                  refine hR _ _ (Ext.refl _) ?_ trivial
                  rfl
                · intro γ w' he hf; clear hf; refine ⟨trivial, ?_⟩; intro R hR
                  have hc := he.cells
                  go_simp
                  (try go_ints); (try (rw [if_neg (by omega)])); (try (rw [if_pos (by omega)])); (try go_simp); (try go_ints)
                  refine hR _ _ (Ext.refl _) ?_ trivial
                  rfl
                · intro γ w' he hf; clear hf; refine ⟨trivial, ?_⟩; intro R hR
                  have hc := he.cells
                  have cq0 := he.cell cez0
                  have cq1 := he.cell cez1
                  have cq2 := he.cell q0
                  have cq3 := he.cell q1
                  have cq4 := he.cell r0
                  have cq5 := he.cell r1
                  go_simp
                  (try go_ints); (try (rw [if_neg (by omega)])); (try (rw [if_pos (by omega)])); (try go_simp); (try go_ints)
                  refine hR _ _ (Ext.refl _) ?_ trivial
                  rfl
                · intro γ w' he hf; clear hf; refine ⟨trivial, ?_⟩; intro R hR
                  go_simp
                  refine Calls.mono (show Calls _ _ _ w' (Gives w' fun r w'' => IsZ w'' (r) ((F i).num * (G (n - i)).num)) from mul_r _ _ _ _ w' ((Hqa.out.kd he.kd).has (by have := HQ.out.1; omega)) ((Hqb.out.kd he.kd).has (by have := HQ.out.2.1; omega)) (by have := HQ.out.1; omega) (by have := HQ.out.2.1; omega)) ?_
                  rintro e w2 ⟨v, rfl, hv, hx⟩
                  exact ⟨v, rfl, hR v w2 hx rfl hv⟩
                · intro γ w' he hf; have f11 : IsZ w' (γ 11) ((F i).num * (G (n - i)).num) := hf 11 (by decide); clear hf; refine ⟨trivial, ?_⟩; intro R hR
                  go_simp
                  refine Calls.mono (show Calls _ _ _ w' (Gives w' fun r w'' => IsZ w'' (r) ((sm i (fun j => F j * G (n - j))).num + (F i).num * (G (n - i)).num)) from add_r _ _ _ _ w' ((Hz.out.kd he.kd).has (by have := HQ.out.2.2.2; omega)) (f11.has (by have := HQ.out.2.2.1; omega)) (by have := HQ.out; omega) (by have := HQ.out; omega)) ?_
                  rintro e w2 ⟨v, rfl, hv, hx⟩
                  exact ⟨v, rfl, hR v w2 hx rfl hv⟩
              case hloc2 =>
                exact ⟨⟨⟨⟨⟨⟨⟨⟨⟨⟨⟨⟨⟨trivial, (fun γ γ' h => ⟨rfl, fun _ => rfl⟩)⟩, (fun γ γ' h => ⟨rfl, fun _ => rfl⟩)⟩, (fun γ γ' h => ⟨rfl, fun _ => rfl⟩)⟩, (fun γ γ' h => ⟨rfl, fun _ => rfl⟩)⟩, (fun γ γ' h => ⟨rfl, fun _ => rfl⟩)⟩, (fun γ γ' h => ⟨rfl, fun _ => rfl⟩)⟩, (fun γ γ' h => ⟨rfl, fun _ => rfl⟩)⟩, (fun γ γ' h => ⟨rfl, fun _ => rfl⟩)⟩, (fun γ γ' h => ⟨rfl, fun _ => rfl⟩)⟩, (fun γ γ' h => ⟨rfl, fun _ => rfl⟩)⟩, (fun γ γ' h => ⟨rfl, fun _ => rfl⟩)⟩, (fun γ γ' h => ⟨h 11 rfl, fun w' => (congrArg (fun a => IsZ w' (a) ((F i).num * (G (n - i)).num)) (h 11 rfl))⟩)⟩, (fun γ γ' h => ⟨h 12 rfl, fun w' => (congrArg (fun a => IsZ w' (a) ((sm i (fun j => F j * G (n - j))).num + (F i).num * (G (n - i)).num)) (h 12 rfl))⟩)⟩
              case hmono2 =>
                exact ⟨⟨⟨⟨⟨⟨⟨⟨⟨⟨⟨⟨⟨trivial, (fun γ wA w' e h => h)⟩, (fun γ wA w' e h => h)⟩, (fun γ wA w' e h => h)⟩, (fun γ wA w' e h => h)⟩, (fun γ wA w' e h => h)⟩, (fun γ wA w' e h => h)⟩, (fun γ wA w' e h => h)⟩, (fun γ wA w' e h => h)⟩, (fun γ wA w' e h => h)⟩, (fun γ wA w' e h => h)⟩, (fun γ wA w' e h => h)⟩, (fun γ wA w' e h => (show IsZ wA (γ 11) ((F i).num * (G (n - i)).num) from h).ext e)⟩, (fun γ wA w' e h => (show IsZ wA (γ 12) ((sm i (fun j => F j * G (n - j))).num + (F i).num * (G (n - i)).num) from h).ext e)⟩
              intro γ w6 hx6 hF
              have p11 : IsZ w6 (γ 11) ((F i).num * (G (n - i)).num) := Each.get hF 11 (by decide)
              have p12 : IsZ w6 (γ 12) ((sm i (fun j => F j * G (n - j))).num + (F i).num * (G (n - i)).num) := Each.get hF 12 (by decide)
              clear hF
              simp only [fillAll, gV, kv, List.getD_cons_zero, List.getD_cons_succ, Act.put, List.setIfInBounds_toArray, List.set_cons_zero, List.set_cons_succ, List.toList_toArray, List.drop_succ_cons, List.drop_zero, List.drop_nil, Nat.zero_add, Nat.reduceAdd]
              generalize γ 11 = g11 at *
              generalize γ 12 = g12 at *
              clear γ
              clear cez0 cez1 fez q0 q1 r0 r1 p11 Hz Hqa Hqb HQ
              replace ez := ez.ext hx6
              replace hx := hx.trans hx6
              have hown := Hown.out.ext hx6
              clear hx6 Hown
              obtain ⟨b5, A5, n5, c5, rfl⟩ := p12.cells
              obtain ⟨cez0, cez1⟩ := ez.cells2
              have fez := ez.frozen
              go_wp2
              obtain ⟨W7, eW, ez', U⟩ := ez.put2 (.bool b5) (.slice A5 n5 c5) rfl rfl
              rw [← eW]
              clear eW ez cez0 cez1 fez
              replace hown := hown.off U Hbk.out
              replace hx := U.from_ hx (by have := Hsz9.out; simp; omega)
              have eq := BoxZ.mk ez' (p12.kd U.kd)
              clear U ez' p12
              have Hown := Lib.hid hown; clear hown
              go_roundw
              case rel => exact ⟨i + 1, by omega, by go_num, by rw [sm_nsucc HI.out.1 HI.out.2]; exact eq, Hown.out, hx⟩
              case measure => simp [intOf] <;> omega
            · have hiq' : ¬ (n : Int) - i < q := by omega
              have hz0 : F i * G (n - i) = 0 := by rw [HZ.out.2 (n - i) (by omega)]; exact Rat.mul_zero _
              have Hz0 := Lib.hid hz0; clear hz0
              go_wp2
              go_roundw
              case rel => exact ⟨i + 1, by omega, by go_num, by rw [sm_succ, Hz0.out, Rat.add_zero]; exact BoxZ.mk ez Hz.out, Hown.out, hx⟩
              case measure => simp [intOf] <;> omega
          · have hip' : ¬ (i : Int) < p := by omega
            have hz0 : F i * G (n - i) = 0 := by rw [HZ.out.1 i (by omega)]; exact Rat.zero_mul _
            have Hz0 := Lib.hid hz0; clear hz0
            go_wp2
            go_roundw
            case rel => exact ⟨i + 1, by omega, by go_num, by rw [sm_succ, Hz0.out, Rat.add_zero]; exact BoxZ.mk ez Hz.out, Hown.out, hx⟩
            case measure => simp [intOf] <;> omega
        · obtain rfl : i = n + 1 := by omega
          rw [← cv_sm] at Hz
          have Hr := Lib.hid Hz.out; clear Hz
          obtain ⟨cez0, cez1⟩ := ez.cells2
          have fez := ez.frozen
          have hsz := hx.size
          go_wp2_with (at_builtin; refine wpList_append_run rfl _ _ 22 rfl u7 (.slice (some ⟨wr.heap.size, 0, none⟩) 1 1) rfl rfl (append_rz wr wb.heap.size _ _ _ _ _ Hown.out Hr.out (by first | (rw [lzf_len]; omega) | omega) hsz rfl) ?_)
          first | intro v' w5 hown U | rintro v' w5 ⟨hown, U⟩
          replace hx := (Hown.out.ext ((Ext.refl wr).alloc _)).from_ U (hx.alloc _) (Nat.le_refl _)
          have Hown' := Lib.hid hown; clear hown U
          go_wp2
          go_roundw
          case rel => exact ⟨n + 1, by omega, by go_num, by rw [lzf_succ]; exact Hown'.out, hx⟩
          case measure => simp [intOf] <;> omega
    · obtain rfl : n = N := by omega
      have hh := lzf_hz' hown (fun i hi => (by rw [cv_sm]; exact Nat.le_trans (Nat.le_trans (smm_qsz HS.out.1 HS.out.2.1 i (i + 1)) (mul_le_of (by have := HL.out; omega) HS.out.2.2)) (by omega)))
      have hczl := cz_lzf (n := n) (F := cv F G) (HI.out.1.cv HI.out.2) ((HZ.out.1.cv HZ.out.2).mono (by omega))
      obtain ⟨A2, c2, e2⟩ := hh.len
      rw [lzf_len] at e2
      rw [e2] at hh
      clear hown
      subst e2
      have HH := Lib.hid (And.intro hh hczl); clear hh hczl
      go_wp2_with fail
      refine Calls.mono (normal_rz _ _ _ HH.out.1 (by rw [lzf_len]; omega)) ?_
      rintro e w9 ⟨r, rfl, hr, hx9⟩
      rw [HH.out.2] at hr
      have hsz := (HW.out.trans hx).size
      have Hr := Lib.hid hr; clear hr
      go_wp2
      go_ret
      exact Gives.mk (Hr.out.base_le (by omega)) ((HW.out.trans hx).trans hx9)
end Go.Proofs.YtfacbpnegkjcgaaGreatDoor
namespace Go.Hp
open Go.RowKit
theorem cz_rep (n : Nat) (c : Int) : cz (List.replicate n 0 ++ [c]) = mono n (c : Rat) := by
  funext i
  unfold mono
  by_cases h : i < n
  · rw [cz_lt (by simp; omega), if_neg (by omega)]; simp [List.getElem_append_left, h]
  · by_cases e : i = n
    · subst e; rw [cz_lt (by simp), if_pos rfl]; simp
    · rw [cz_ge (by simp; omega), if_neg e]
theorem top_rep (n : Nat) {c : Int} (h0 : c ≠ 0) : TopR (zq (List.replicate n 0 ++ [c])) := fun h => by
  have hl : (zq (List.replicate n 0 ++ [c])).length - 1 = n := by rw [zq_len]; simp
  have e : (zq (List.replicate n 0 ++ [c]))[(zq (List.replicate n 0 ++ [c])).length - 1]'(by omega) = cz (List.replicate n 0 ++ [c]) ((zq (List.replicate n 0 ++ [c])).length - 1) := (co_lt _).symm
  rw [e, hl, cz_rep, mono_at]
  exact_mod_cast h0
end Go.Hp
namespace Go.Proofs.YtfacbpnegkjcgaaGreatDoor
open Go.RowKit Go.Hp
theorem append_sz (W : World) (base ty g o c : Nat) (v : Value) (l : List Int) (q : Int) {b : Bool} {A : Option Addr} {n cc : Nat} (h : OwnZ base 28 W v l) (k0 : W.cell? ⟨g, o, none⟩ = some (.bool b)) (k1 : W.cell? ⟨g, o + 1, none⟩ = some (.slice A n cc)) (hq : IsZ W (.agg #[.bool b, .slice A n cc]) q) (hn : l.length ≤ 1099511627776) (hb : base ≤ W.heap.size) :
    ∃ v' w', (Builtin.append_ #[22, 22] ty #[v, .slice (some ⟨g, o, none⟩) 1 c]).run Tryz.prog W = .ok v' w' ∧ (OwnZ base 28 w' v' (l ++ [q]) ∧ Upd (blk v) W w') := by
  obtain ⟨i0, hi, hz0, hz1, hz2⟩ := info_parts info_int
  have ho := IsZ.one hq
  obtain ⟨v', w', a, b, c⟩ := OwnR.append (P := Tryz.prog) h 22 ty i0 _ 32 Tryz.underlying22 hi hz0 hz1 hz2 rfl (by simp [nodig, isDig, Value.cells]) (by decide) ⟨g, o, none⟩ c #[.bool b, .slice A n cc] rfl hq (fun j u hj => by
    match j, hj with
    | 0, hj => simp at hj; subst hj; simpa [Addr.add] using k0
    | 1, hj => simp at hj; subst hj; simpa [Addr.add] using k1) ho.1 ho.2.1 (small_lenz hn) (by omega) hb (fun _ _ _ k hq => IsZ.kd hq k)
  exact ⟨v', w', a, b, c⟩
set_option maxRecDepth 20000 in
set_option maxHeartbeats 2000000 in
theorem shift_one (v : Value) (c : Int) (n : Nat) (w : World) (hv : HzV 0 w v [c]) (h0 : c ≠ 0) (hn : n ≤ 549755813888) : Calls Tryz.prog 85 #[v, .int .i64 (n : Nat)] w (Gives w fun r w' => IsZP 0 w' r (mono n (c : Rat))) := by
  have HN := Lib.hid (normal_rz v [c] w hv (by simp))
  obtain ⟨A0, c0, rfl⟩ := hv.len
  have hp1 : pl (cz [c]) = 1 := pl_eq (cz_sup [c]) (fun _ => by show cz [c] 0 ≠ 0; rw [cz_lt (by simp)]; exact_mod_cast h0)
  have H0 := Lib.hid (And.intro h0 hp1); clear hv h0 hp1
  go_enter Tryz.func85, Tryz.ntmps85
  go_wp2_with fail
  refine Calls.mono HN.out ?_
  rintro e w1 ⟨r1, rfl, hr1, hx⟩
  obtain ⟨A1, c1, l1, rfl, k1, k2, hA, k3, k4, k5⟩ := hr1.form
  rw [H0.out.2] at k1 k3 ⊢
  obtain ⟨g, o, b, A2, n2, c2, rfl, -, q0, q1, hq⟩ := hA.at_ (j := 0) (by omega)
  have hval : l1[0]'(by omega) = c := by
    have h1 := congrFun k5 0
    rw [cz_lt (by omega), cz_lt (by simp)] at h1
    exact int_cast_inj h1
  rw [hval] at hq
  rw [Nat.zero_mul, Nat.add_zero] at q0 q1
  have Hq := Lib.hid hq
  have HW := Lib.hid hx
  clear hA k3 k4 k5 hr1 hval hq HN
  go_wp2
  go_loopw [6, 7] (fun ov iv wr => ∃ k : Nat, k ≤ n ∧ iv = .int .i64 k ∧ OwnZ w1.heap.size 28 wr ov (List.replicate k 0) ∧ Ext w1 wr) (fun _ iv _ => n - (intOf iv).toNat)
  case atStart => exact ⟨0, Nat.zero_le _, rfl, OwnR.nil _ _ _ _ _, Ext.refl _⟩
  case round =>
    clear hx
    obtain ⟨k, hk, rfl, hown, hx⟩ := hrel
    have Hown0 := Lib.hid hown; clear hown
    by_cases hkn : k < n
    · go_wp2_with fail
      refine Calls.mono (of_r 0 _ (by omega) (by omega)) ?_
      rintro e w2 ⟨r2, rfl, hr2, hx2⟩
      obtain ⟨b5, A5, n5, c5, rfl⟩ := hr2.cells
      have Hr := Lib.hid hr2; clear hr2
      have hown := Hown0.out.ext hx2
      have Hown := Lib.hid hown; clear hown
      replace hx := hx.trans hx2
      have hsz := hx.size
      have hlr : (List.replicate k (0 : Int)).length ≤ 1099511627776 := by rw [List.length_replicate]; omega
      clear hx2 Hown0
      go_wp2_with (at_builtin; refine wpList_append_run rfl _ _ 22 rfl u6 (.slice (some ⟨w2.heap.size, 0, none⟩) 1 1) rfl rfl (append_rz w2 w1.heap.size _ _ _ _ _ Hown.out Hr.out hlr hsz rfl) ?_)
      first | intro v' w5 hown U | rintro v' w5 ⟨hown, U⟩
      replace hx := (Hown.out.ext ((Ext.refl w2).alloc _)).from_ U (hx.alloc _) (Nat.le_refl _)
      have Hown' := Lib.hid hown; clear hown U hlr
      go_wp2
      go_roundw
      case rel => exact ⟨k + 1, by omega, by go_num, by rw [List.replicate_succ']; exact Hown'.out, hx⟩
      case measure => simp [intOf] <;> omega
    · obtain rfl : k = n := by omega
      replace q0 := hx.cell q0
      replace q1 := hx.cell q1
      have hsz := hx.size
      have hlr : (List.replicate k (0 : Int)).length ≤ 1099511627776 := by rw [List.length_replicate]; omega
      go_wp2_with (at_builtin; refine wpList_append_run rfl _ _ 22 rfl u6 (.slice (some ⟨g, o, none⟩) 1 c1) rfl rfl (append_sz wr w1.heap.size _ g o c1 _ _ _ Hown0.out q0 q1 (Hq.out.kd hx.kd) hlr hsz) ?_)
      first | intro v' w5 hown U | rintro v' w5 ⟨hown, U⟩
      replace hx := Hown0.out.from_ U hx (Nat.le_refl _)
      have Hown' := Lib.hid hown; clear hown U hlr
      go_wp2
      go_ret
      exact Gives.mk ⟨_, RowV.base_le (OwnZ.row Hown'.out) (Nat.zero_le _), top_rep k H0.out.1, cz_rep k c⟩ (HW.out.trans hx)
set_option maxRecDepth 20000 in
set_option maxHeartbeats 4000000 in
theorem raised_r (v : Value) (a : Int) (n0 s : Nat) (w : World) (hv : HasZ w v a) (hs : sz a.natAbs ≤ s) (hst : 2 + (n0 + 1) * s ≤ 549755813888) (hn : n0 ≤ 1099511627776) :
    Calls Tryz.prog 86 #[v, .int .i64 (n0 : Nat)] w (Gives w fun r w' => IsZ w' r (a ^ n0)) := by
  obtain ⟨b1, A1, n1, c1, rfl⟩ := hv.cells
  have hsz : ∀ p, p ≤ n0 + 1 → sz (a ^ p).natAbs ≤ 549755813888 := fun p hp => by
    have h1 := sz_powz a s hs p
    have h2 : p * s ≤ (n0 + 1) * s := Nat.mul_le_mul_right _ hp
    omega
  have HV := Lib.hid hv; have HS := Lib.hid hsz; clear hv hs hst hsz
  go_enter Tryz.func86, Tryz.ntmps86
  go_wp2_with fail
  refine Calls.mono (of_r 1 _ (by omega) (by omega)) ?_
  rintro e w1 ⟨r1, rfl, hr1, hx1⟩
  obtain ⟨b5, A5, n5, c5, rfl⟩ := hr1.cells
  have ea := ((Box.new w 28 #[.bool b1, .slice A1 n1 c1] (by simp [isDig])).alloc (.cells #[.bool false, .slice none 0 0] 28)).ext hx1
  have ez := (Box.new (w.alloc (.cells #[.bool b1, .slice A1 n1 c1] 28)) 28 #[.bool false, .slice none 0 0] (by simp [isDig])).ext hx1
  rw [World.size_alloc] at ez
  obtain ⟨W0, eW, eb, x0⟩ := Box.made w1 28 #[.bool b5, .slice A5 n5 c5] (by simp [isDig])
  have hb := hr1.kd x0.kd
  replace ea := ea.ext x0
  replace ez := ez.ext x0
  have hgb : w.heap.size + 1 < w1.heap.size := by have := hx1.size; simp at this; omega
  have hx := hx1.a2.trans x0
  have Hb := Lib.hid hb
  have Ha := Lib.hid (HV.out.ext hx)
  clear hr1 hb hx1
  go_wp2
  rw [← eW]
  clear eW x0
  generalize w1.heap.size = gb at *
  go_loopw [1] (fun nv wr => ∃ (n p k : Nat) (b : Bool) (A : Option Addr) (m c : Nat), nv = .int .i64 n ∧ k + p * n = n0 ∧ n ≤ n0 ∧ p ≤ n0 + 1 ∧ Box wr w.heap.size 28 #[.bool b, .slice A m c] ∧ HasZ wr (.agg #[.bool b, .slice A m c]) (a ^ p) ∧ Box wr (w.heap.size + 1) 28 #[.bool false, .slice none 0 0] ∧ BoxZ wr gb 28 (a ^ k) ∧ Ext w wr) (fun nv _ => (intOf nv).toNat)
  case atStart => exact ⟨n0, 1, 0, _, _, _, _, rfl, by omega, by omega, by omega, ea, by rw [Int.pow_one]; exact Ha.out, ez, by rw [Int.pow_zero]; exact BoxZ.mk eb Hb.out, hx⟩
  case round =>
    clear ea ez eb hx Ha Hb
    obtain ⟨n, p, k, b, A, m, c, rfl, hkn, hnn, hp, ea, ha, ez, ⟨b6, A6, n6, c6, eb, hb⟩, hx⟩ := hrel
    have Ha := Lib.hid ha; have Hb := Lib.hid hb; clear ha hb
    by_cases hn0 : 0 < n
    · have hq : wrap64 ((n : Int) / 2) = ((n / 2 : Nat) : Int) := by rw [show ((n : Int) / 2) = ((n / 2 : Nat) : Int) by omega]; exact IntWalk.wrap64_in _ ⟨by omega, by omega⟩
      have hkp : k ≤ n0 + 1 := by omega
      by_cases hodd : n % 2 = 1
      · have hb1 : (((n : Nat) : Int).tmod 2 == 1) = true := by rw [tmod_two]; simpa using hodd
        have hk2 : k + p ≤ n0 + 1 := by
          have h3 : p * 1 ≤ p * n := Nat.mul_le_mul_left _ (by omega)
          omega
        obtain ⟨cea0, cea1⟩ := ea.cells2
        have fea := ea.frozen
        obtain ⟨ceb0, ceb1⟩ := eb.cells2
        have feb := eb.frozen
        go_wp2_with fail
        refine Calls.mono (mul_r _ _ (a ^ k) (a ^ p) _ (Hb.out.has (by have := HS.out k hkp; omega)) Ha.out (by have := HS.out k hkp; omega) (by have := HS.out p hp; omega)) ?_
        rintro e w2 ⟨r2, rfl, hr2, hx2⟩
        obtain ⟨b7, A7, n7, c7, rfl⟩ := hr2.cells
        have ha := Ha.out.ext hx2
        clear Ha Hb cea0 cea1 fea ceb0 ceb1 feb
        replace ea := ea.ext hx2
        replace ez := ez.ext hx2
        replace eb := eb.ext hx2
        replace hx := hx.trans hx2
        clear hx2
        obtain ⟨ceb0, ceb1⟩ := eb.cells2
        have feb := eb.frozen
        have Ha2 := Lib.hid ha; clear ha
        go_upto_region 5 with (fail)
        have ha := Ha2.out
        obtain ⟨W3, eW, eb', U⟩ := eb.put2 (.bool b7) (.slice A7 n7 c7) rfl rfl
        rw [← eW]
        clear eW eb
        replace hr2 := hr2.kd U.kd
        replace ha := ha.kd U.kd
        replace ea := ea.upd U (by simp <;> omega)
        replace ez := ez.upd U (by simp <;> omega)
        replace hx := U.from_ hx (by simp <;> omega)
        have eb := eb'
        clear U eb'
        rw [← Int.pow_add] at hr2
        have Ha := Lib.hid ha; have Hb := Lib.hid hr2; clear ha hr2 Ha2
        by_cases h2 : 0 < n / 2
        · skip
          have hb2 : decide ((0 : Int) < ((n / 2 : Nat) : Int)) = true := decide_eq_true (by omega)
          obtain ⟨cea0, cea1⟩ := ea.cells2
          have fea := ea.frozen
          go_wp2_with fail
          refine Calls.mono (mul_r _ _ (a ^ p) (a ^ p) _ Ha.out Ha.out (by have := HS.out p hp; omega) (by have := HS.out p hp; omega)) ?_
          rintro e w9 ⟨r9, rfl, hr9, hx9⟩
          obtain ⟨b9, A9, n9, c9, rfl⟩ := hr9.cells
          have hb9 := Hb.out.kd hx9.kd
          clear cea0 cea1 fea
          replace ea := ea.ext hx9
          replace ez := ez.ext hx9
          replace eb := eb.ext hx9
          replace hx := hx.trans hx9
          clear hx9
          obtain ⟨cea0, cea1⟩ := ea.cells2
          have fea := ea.frozen
          have Hb9 := Lib.hid hb9; clear hb9
          go_wp2
          have hb9 := Hb9.out
          obtain ⟨W9, eW, ea', U⟩ := ea.put2 (.bool b9) (.slice A9 n9 c9) rfl rfl
          rw [← eW]
          clear eW ea
          replace hr9 := hr9.kd U.kd
          replace hb9 := hb9.kd U.kd
          replace ez := ez.upd U (by simp <;> omega)
          replace eb := eb.upd U (by simp <;> omega)
          replace hx := U.from_ hx (by simp <;> omega)
          have ea := ea'
          clear U ea'
          have hpp : p + p ≤ n0 + 1 := by
            have h3 : p * 2 ≤ p * n := Nat.mul_le_mul_left _ (by omega)
            omega
          have hkk : (k + p) + (p + p) * (n / 2) = n0 := by
            have e : n = 2 * (n / 2) + n % 2 := by omega
            rw [hodd] at e
            generalize n / 2 = h at *
            subst e
            grind
          go_roundw
          case rel => exact ⟨n / 2, p + p, (k + p), _, _, _, _, by congr 1 <;> omega, hkk, by omega, hpp, ea, by rw [Int.pow_add]; exact hr9.has (by rw [← Int.pow_add]; have := HS.out (p + p) hpp; omega), ez, BoxZ.mk eb hb9, hx⟩
          case measure => simp [intOf]; omega
        · skip
          have hb2 : decide ((0 : Int) < ((n / 2 : Nat) : Int)) = false := decide_eq_false (by omega)
          have h20 : n / 2 = 0 := by omega
          have hkk : (k + p) + p * 0 = n0 := by
            have e : n = 2 * (n / 2) + n % 2 := by omega
            rw [hodd, h20] at e
            subst e
            grind
          go_wp2
          go_roundw
          case rel => exact ⟨0, p, (k + p), _, _, _, _, by rw [show ((n : Int) / 2) = ((0 : Nat) : Int) by omega], hkk, by omega, hp, ea, Ha.out, ez, BoxZ.mk eb Hb.out, hx⟩
          case measure => simp [intOf]; omega
      · have hb1 : (((n : Nat) : Int).tmod 2 == 1) = false := by rw [tmod_two]; simpa using hodd
        have hev : n % 2 = 0 := by omega
        have h2 : 0 < n / 2 := by omega
        have hb2 : decide ((0 : Int) < ((n / 2 : Nat) : Int)) = true := decide_eq_true (by omega)
        obtain ⟨cea0, cea1⟩ := ea.cells2
        have fea := ea.frozen
        go_wp2_with fail
        refine Calls.mono (mul_r _ _ (a ^ p) (a ^ p) _ Ha.out Ha.out (by have := HS.out p hp; omega) (by have := HS.out p hp; omega)) ?_
        rintro e w9 ⟨r9, rfl, hr9, hx9⟩
        obtain ⟨b9, A9, n9, c9, rfl⟩ := hr9.cells
        have hb9 := Hb.out.kd hx9.kd
        clear cea0 cea1 fea
        replace ea := ea.ext hx9
        replace ez := ez.ext hx9
        replace eb := eb.ext hx9
        replace hx := hx.trans hx9
        clear hx9
        obtain ⟨cea0, cea1⟩ := ea.cells2
        have fea := ea.frozen
        have Hb9 := Lib.hid hb9; clear hb9
        go_wp2
        have hb9 := Hb9.out
        obtain ⟨W9, eW, ea', U⟩ := ea.put2 (.bool b9) (.slice A9 n9 c9) rfl rfl
        rw [← eW]
        clear eW ea
        replace hr9 := hr9.kd U.kd
        replace hb9 := hb9.kd U.kd
        replace ez := ez.upd U (by simp <;> omega)
        replace eb := eb.upd U (by simp <;> omega)
        replace hx := U.from_ hx (by simp <;> omega)
        have ea := ea'
        clear U ea'
        have hpp : p + p ≤ n0 + 1 := by
          have h3 : p * 2 ≤ p * n := Nat.mul_le_mul_left _ (by omega)
          omega
        have hkk : k + (p + p) * (n / 2) = n0 := by
          have e : n = 2 * (n / 2) + n % 2 := by omega
          rw [hev] at e
          generalize n / 2 = h at *
          subst e
          grind
        go_roundw
        case rel => exact ⟨n / 2, p + p, k, _, _, _, _, by congr 1 <;> omega, hkk, by omega, hpp, ea, by rw [Int.pow_add]; exact hr9.has (by rw [← Int.pow_add]; have := HS.out (p + p) hpp; omega), ez, BoxZ.mk eb hb9, hx⟩
        case measure => simp [intOf]; omega
    · obtain rfl : n = 0 := by omega
      have hk0 : k = n0 := by omega
      subst hk0
      obtain ⟨cez0, cez1⟩ := ez.cells2
      have fez := ez.frozen
      obtain ⟨ceb0, ceb1⟩ := eb.cells2
      have feb := eb.frozen
      have hr := Hb.out
      go_wp2
      obtain ⟨W3, eW, ez', U⟩ := ez.put2 (.bool b6) (.slice A6 n6 c6) rfl rfl
      rw [← eW]
      clear eW ez
      replace hr := hr.kd U.kd
      replace hx := U.from_ hx (by simp <;> omega)
      have ez := ez'
      clear U ez'
      clear cez0 cez1 fez
      obtain ⟨cez0, cez1⟩ := ez.cells2
      have fez := ez.frozen
      refine bodyPost_ret (v := .agg #[.bool b6, .slice A6 n6 c6]) (by simp [results, Tryz.results86, go_sem, cez0, cez1]) rfl ?_
      exact Gives.mk hr hx
theorem radd (v u : Value) (F G : Nat → Rat) (s t : Nat) (w : World) (hv : IsZP 0 w v F) (hu : IsZP 0 w u G) (hs : ∀ i, qsz (F i) ≤ s) (ht : ∀ i, qsz (G i) ≤ t) (hst : s + t + 1 ≤ 549755813888) (hn : pl F ≤ 549755813888) (hm : pl G ≤ 549755813888) :
    Calls Tryz.prog 37 #[v, u] w (Gives w fun r w' => IsZP 0 w' r (pad F G)) := by
  obtain ⟨l, h1, h2, -, rfl⟩ := hv.hz (fun i => by have := hs i; omega)
  obtain ⟨m, k1, k2, -, rfl⟩ := hu.hz (fun i => by have := ht i; omega)
  exact Gives.imp (add_rzp v u l m s t w h1 k1 hs ht hst (by omega) (by omega)) fun _ _ h => h.base_le (Nat.zero_le _)
theorem rsub (v u : Value) (F G : Nat → Rat) (s t : Nat) (w : World) (hv : IsZP 0 w v F) (hu : IsZP 0 w u G) (hs : ∀ i, qsz (F i) ≤ s) (ht : ∀ i, qsz (G i) ≤ t) (hst : s + t + 2 ≤ 549755813888) (hn : pl F ≤ 549755813888) (hm : pl G ≤ 549755813888) :
    Calls Tryz.prog 39 #[v, u] w (Gives w fun r w' => IsZP 0 w' r (psb F G)) := by
  obtain ⟨l, h1, h2, -, rfl⟩ := hv.hz (fun i => by have := hs i; omega)
  obtain ⟨m, k1, k2, -, rfl⟩ := hu.hz (fun i => by have := ht i; omega)
  exact Gives.imp (sub_rzp v u l m s t w h1 k1 hs ht hst (by omega) (by omega)) fun _ _ h => h.base_le (Nat.zero_le _)
theorem rscale (v u : Value) (F : Nat → Rat) (ca : Int) (s : Nat) (w : World) (hv : IsZP 0 w v F) (hu : HasZ w u ca) (hs : ∀ i, qsz (F i) ≤ s) (hst : s + qsz (ca : Rat) ≤ 549755813888) (hn : pl F ≤ 549755813888) :
    Calls Tryz.prog 41 #[v, u] w (Gives w fun r w' => IsZP 0 w' r (psc (ca : Rat) F)) := by
  obtain ⟨l, h1, h2, -, rfl⟩ := hv.hz (fun i => by have := hs i; omega)
  exact Gives.imp (scale_rzp v u l ca s w h1 hu hs hst (by omega)) fun _ _ h => h.base_le (Nat.zero_le _)
end Go.Proofs.YtfacbpnegkjcgaaGreatDoor
namespace Go.Hp
/-- F is a multiple of G over the integers. -/
def Zdv (F G : Nat → Rat) : Prop := ∃ Q, ZI Q ∧ Fin_ Q ∧ F = cv Q G
/-- An integer times the leading coefficient. -/
theorem zdv_top {R G : Nat → Rat} {k : Nat} (hR : Fin_ R) (hG : Fin_ G) (h0 : G ≠ pz) (hs : Sup (k + pl G) R) (h : Zdv R G) : ∃ z : Int, R (k + pl G - 1) = (z : Rat) * ld G := by
  obtain ⟨Q, hz, hf, e⟩ := h
  have hp := pl_pos hG h0
  by_cases hQ : Q = pz
  · refine ⟨0, ?_⟩
    rw [e, hQ, pz_cv]
    show (0 : Rat) = ((0 : Int) : Rat) * _
    simp
  · have h1 := pl_cv hf hG hQ h0
    rw [← e] at h1
    have h2 := pl_le hs
    have h3 := pl_pos hf hQ
    have h4 : Sup (k + 1) Q := (pl_sup hf).mono (by omega)
    have h5 : Sup (pl G - 1 + 1) G := (pl_sup hG).mono (by omega)
    have h6 := cv_top h4 h5
    rw [← e, show k + (pl G - 1) = k + pl G - 1 from by omega] at h6
    rw [h6, hz.num k]
    exact ⟨_, rfl⟩
theorem zdv_rest {F G Q R : Nat → Rat} (hz : ZI Q) (hf : Fin_ Q) (e : F = pad (cv Q G) R) : Zdv F G ↔ Zdv R G := by
  constructor
  · rintro ⟨P, h1, h2, h3⟩
    refine ⟨psb P Q, h1.psb hz, h2.psb hf, ?_⟩
    rw [psb_cv, ← h3, e]
    funext n; simp only [psb, pad]; grind
  · rintro ⟨P, h1, h2, h3⟩
    refine ⟨pad Q P, hz.pad h1, hf.pad h2, ?_⟩
    rw [pad_cv, ← h3, e]
theorem zdv_pz (G : Nat → Rat) : Zdv pz G := ⟨pz, ZI.pz, Fin_.pz, (pz_cv G).symm⟩
theorem zdv_low {R G : Nat → Rat} (hR : Fin_ R) (hG : Fin_ G) (hs : pl R < pl G) : Zdv R G ↔ R = pz := by
  constructor
  · rintro ⟨Q, h1, h2, h3⟩
    have h0 : G ≠ pz := fun e => by rw [e, pl_pz] at hs; omega
    refine Classical.byContradiction fun hn => ?_
    have hQ : Q ≠ pz := fun e => hn (by rw [h3, e, pz_cv])
    have := pl_cv h2 hG hQ h0
    rw [← h3] at this
    have := pl_pos h2 hQ
    omega
  · rintro rfl; exact zdv_pz G
/-- One step of a division over the integers: the coefficient z is put at k. -/
def ZdSt (F G : Nat → Rat) (n s t i : Nat) (Q R : Nat → Rat) : Prop :=
  (∀ j, j < i → Q j = 0) ∧ Sup n Q ∧ Sup (i + pl G - 1) R ∧ F = pad (cv Q G) R ∧ ZI Q ∧ ZI R ∧ ∀ m, qsz (R m) ≤ s + (n - i) * (t + 1)
theorem ZdSt.start {F G : Nat → Rat} {n s t : Nat} (hF : Sup (n + pl G - 1) F) (hz : ZI F) (hs : ∀ m, qsz (F m) ≤ s) : ZdSt F G n s t n pz F :=
  ⟨fun _ _ => rfl, Sup.pz _, hF, by rw [pz_cv]; funext m; simp only [pad, pz]; grind, ZI.pz, hz, fun m => by have := hs m; omega⟩
theorem qsz_quot {z : Int} {a b : Rat} (hb : b ≠ 0) (hbz : ∃ y : Int, b = (y : Rat)) (e : a = (z : Rat) * b) : qsz (z : Rat) ≤ qsz a := by
  obtain ⟨y, rfl⟩ := hbz
  rw [e, ← Rat.intCast_mul, qsz_cast, qsz_cast]
  have hy : y ≠ 0 := fun h => hb (by rw [h]; rfl)
  have : sz z.natAbs ≤ sz (z * y).natAbs := by
    refine sz_mono ?_
    rw [Int.natAbs_mul]
    exact Nat.le_mul_of_pos_right _ (by omega)
  omega
theorem ZdSt.step {F G : Nat → Rat} {n s t k : Nat} {Q R : Nat → Rat} (hG : Fin_ G) (h0 : G ≠ pz) (zG : ZI G) (hcG : ∀ m, qsz (G m) ≤ t) (h : ZdSt F G n s t (k + 1) Q R) (hk : k < n) {z : Int} (hc : R (k + pl G - 1) = (z : Rat) * ld G) :
    ZdSt F G n s t k (pad Q (mono k (z : Rat))) (psb R (cv (mono k (z : Rat)) G)) := by
  obtain ⟨h3, h4, h5, h6, h7, h8, h9⟩ := h
  have hp := pl_pos hG h0
  have hl := ld_ne hG h0
  have hz : (z : Rat) = R (k + pl G - 1) / ld G := by rw [hc]; grind
  refine ⟨fun j hj => ?_, h4.pad ((mono_sup k _).mono (by omega)), ?_, ?_, h7.pad (ZI.mono k z), h8.psb ((ZI.mono k z).cv zG), fun m => ?_⟩
  · show Q j + mono k (z : Rat) j = 0
    rw [h3 j (by omega), mono_off (by omega)]; grind
  · rw [hz]; exact div_step hG h0 (h5.mono (by omega))
  · rw [pad_cv]
    funext m
    have := congrFun h6 m
    simp only [pad, psb] at this ⊢
    grind
  · have q1 : qsz (z : Rat) ≤ qsz (R (k + pl G - 1)) := qsz_quot hl (zG _) hc
    have q2 := h9 (k + pl G - 1)
    have e : n - k = (n - (k + 1)) + 1 := by omega
    have q3 : (n - k) * (t + 1) = (n - (k + 1)) * (t + 1) + (t + 1) := by rw [e, Nat.succ_mul]
    have q4 : qsz (cv (mono k (z : Rat)) G m) ≤ qsz (z : Rat) + t := by
      rw [mono_cv]
      show qsz ((z : Rat) * sh k G m) ≤ _
      have a1 := qsz_mul (z : Rat) (sh k G m)
      have a2 : qsz (sh k G m) ≤ max t 1 := by
        unfold sh
        split
        · have : qsz (0 : Rat) = 1 := by decide
          omega
        · have := hcG (m - k); omega
      have a3 : 1 ≤ t := by have := hcG 0; have : 1 ≤ qsz (G 0) := by { unfold qsz; have := sz_pos (n := (G 0).den) (by have := (G 0).den_pos; omega); omega }; omega
      omega
    have q5 := qsz_subz h8 ((ZI.mono k z).cv zG) m m
    have q6 := h9 m
    show qsz (R m - cv (mono k (z : Rat)) G m) ≤ _
    omega
theorem ZdSt.end_ {F G : Nat → Rat} {n s t : Nat} {Q R : Nat → Rat} (hF : Fin_ F) (hG : Fin_ G) (h0 : G ≠ pz) (h : ZdSt F G n s t 0 Q R) : Q = pq F G ∧ R = pr F G ∧ Sup n Q ∧ ZI Q := by
  obtain ⟨h3, h4, h5, h6, h7, h8, h9⟩ := h
  have := div_eq hF hG h0 ⟨n, h4⟩ h6 (by rwa [Nat.zero_add] at h5)
  exact ⟨this.1, this.2, h4, h7⟩
theorem ZdSt.zdv {F G : Nat → Rat} {n s t i : Nat} {Q R : Nat → Rat} (h : ZdSt F G n s t i Q R) : Zdv F G ↔ Zdv R G :=
  zdv_rest h.2.2.2.2.1 ⟨n, h.2.1⟩ h.2.2.2.1
theorem ZdSt.fin {F G : Nat → Rat} {n s t i : Nat} {Q R : Nat → Rat} (h : ZdSt F G n s t i Q R) : Fin_ R := ⟨_, h.2.2.1⟩
theorem ZdSt.no {F G : Nat → Rat} {n s t k : Nat} {Q R : Nat → Rat} (hG : Fin_ G) (h0 : G ≠ pz) (zG : ZI G) (h : ZdSt F G n s t (k + 1) Q R) (hd : ¬ (ld G).num ∣ (R (k + pl G - 1)).num) : ¬ Zdv F G := by
  intro hz
  have hp := pl_pos hG h0
  obtain ⟨z, e⟩ := zdv_top (k := k) h.fin hG h0 (h.2.2.1.mono (by omega)) (h.zdv.1 hz)
  apply hd
  rw [e, show ld G = ((ld G).num : Rat) from zG.num _, num_mul]
  exact ⟨z, by rw [Int.mul_comm]; rfl⟩
theorem ZdSt.yes {F G : Nat → Rat} {n s t i m : Nat} {Q R : Nat → Rat} (zG : ZI G) (h : ZdSt F G n s t i Q R) (hd : (ld G).num ∣ (R m).num) : R m = (((R m).num / (ld G).num : Int) : Rat) * ld G := by
  have e1 : ld G = ((ld G).num : Rat) := zG.num _
  have e2 := h.2.2.2.2.2.1.num m
  have e3 := Int.ediv_mul_cancel hd
  have e4 : (((R m).num / (ld G).num : Int) : Rat) * (((ld G).num : Int) : Rat) = (((R m).num : Int) : Rat) := by rw [← Rat.intCast_mul, e3]
  rw [e2, e1]
  exact e4.symm
theorem ZdSt.out {F G : Nat → Rat} {n s t : Nat} {Q R : Nat → Rat} (hF : Fin_ F) (hG : Fin_ G) (h0 : G ≠ pz) (h : ZdSt F G n s t 0 Q R) : Zdv F G ↔ R = pz := by
  rw [h.zdv, zdv_low h.fin hG]
  have hp := pl_pos hG h0
  have := pl_le h.2.2.1
  omega
theorem subG_at (k j : Nat) (c : Rat) (R G : Nat → Rat) : subG k j c R G (k + j) = R (k + j) := by
  unfold subG; rw [if_neg (by omega)]; grind
theorem subG_num {k j : Nat} {z : Int} {R G : Nat → Rat} (hR : ZI R) (hG : ZI G) (n : Nat) : (subG k (j + 1) (z : Rat) R G n).num = if n = k + j then (R (k + j)).num - z * (G j).num else (subG k j (z : Rat) R G n).num := by
  rw [subG_succ]
  split
  · rename_i h; subst h
    rw [subG_at, hR.num, hG.num j, ← Rat.intCast_mul, num_sub]; rfl
  · rfl
theorem padm_num {Q : Nat → Rat} {k : Nat} {z : Int} (hQ : ZI Q) (h : Q k = 0) (n : Nat) : (pad Q (mono k (z : Rat)) n).num = if n = k then z else (Q n).num := by
  show (Q n + mono k (z : Rat) n).num = _
  by_cases e : n = k
  · subst e; rw [if_pos rfl, h, mono_at, Rat.zero_add]; rfl
  · rw [if_neg e, mono_off e, Rat.add_zero]
end Go.Hp
namespace Go.Hp
open Go.RowKit
/-- A value beside an error. -/
def TupE (w : World) (v : Value) (x : Int) (e : Int) : Prop := ∃ a, v = .tuple #[a, .int .i64 e] ∧ IsZ w a x
theorem TupE.ext {w w' : World} {v : Value} {x e : Int} (h : TupE w v x e) (k : Ext w w') : TupE w' v x e := by
  obtain ⟨a, h1, h2⟩ := h; exact ⟨a, h1, h2.kd k.kd⟩
/-- What Divide answers. -/
def ZdOut (base : Nat) (F G : Nat → Rat) (r : Value) (w : World) : Prop := (Zdv F G → ∃ q, r = .tuple #[q, .int .i64 0] ∧ IsZP base w q (pq F G)) ∧ (¬ Zdv F G → r = .tuple #[.slice none 0 0, .int .i64 6])
end Go.Hp
namespace Go.Proofs.YtfacbpnegkjcgaaGreatDoor
open Go.RowKit Go.Hp
set_option maxHeartbeats 1000000 in
theorem exact_zn (v u : Value) (x y : Int) (w : World) (hv : HasZ w v x) (hu : HasZ w u y) (h0 : y ≠ 0) (hd : ¬ y ∣ x) : Calls Tryz.prog 62 #[v, u] w (Gives w fun r w' => TupE w' r 0 6) := by
  have Hv := Lib.hid hv; have Hu := Lib.hid hu
  obtain ⟨neg, A, n, c, N, rfl, h1, h2, h3, hN, hx⟩ := hv.form
  obtain ⟨neg', A', n', c', M, rfl, k1, k2, k3, kN, hy⟩ := hu.form
  clear hN hx hv hu kN hy
  have hz : x % y ≠ 0 := fun e => hd (Int.dvd_of_emod_eq_zero e)
  have hp : 0 < sz (x % y).natAbs := Nat.pos_of_ne_zero fun e => hz (by have := (sz_le_iff (n := (x % y).natAbs) (k := 0)).1 (by omega); rw [bp_zero] at this; omega)
  have H0 := Lib.hid (And.intro h0 hp); clear h0 hd hz hp
  go_enter Tryz.func62, Tryz.ntmps62
  go_wp2_with fail
  refine Calls.mono (divmod_z _ _ x y _ (Hv.out.ext ((((Ext.refl w).alloc _).alloc _).alloc _)) (Hu.out.ext ((((Ext.refl w).alloc _).alloc _).alloc _))) ?_
  rintro e w1 ⟨r, rfl, ⟨q, m, rfl, hq, hm⟩, hx1⟩
  rw [if_neg H0.out.1] at hm
  rw [if_neg H0.out.1]
  obtain ⟨b, A1, n1, c1, rfl⟩ := hq.cells
  obtain ⟨A2, c2, rfl, -⟩ := hm.form
  obtain ⟨n2, hn2⟩ : ∃ n2, n2 = sz (x % y).natAbs := ⟨_, rfl⟩
  rw [← hn2]
  have hn0 : 0 < n2 := by have := H0.out.2; omega
  obtain ⟨bb, hbb⟩ : ∃ bb, bb = decide (x % y < 0) := ⟨_, rfl⟩
  rw [← hbb]
  clear hq hm hn2 hbb
  have hx2 := (hx1.alloc (Obj.cells #[Value.bool b, Value.slice A1 n1 c1] 28)).alloc (Obj.cells #[Value.bool bb, Value.slice A2 n2 c2] 28)
  have hc2 := hx2.cells
  have hf2 := hx2.frozens
  have Hfin := Lib.hid (fin_z (isZ_zero ((w1.alloc (Obj.cells #[Value.bool b, Value.slice A1 n1 c1] 28)).alloc (Obj.cells #[Value.bool bb, Value.slice A2 n2 c2] 28))) hx2.a3 (NoDig.at_ hx2 (g := w.heap.size + 1 + 1) (by simp) (by simp [isDig])) (by omega))
  have hc1 := hx1.cells
  have hf1 := hx1.frozens
  go_wp2
  refine bodyPost_ret (v := .tuple #[.agg #[.bool false, .slice none 0 0], .int .i64 6]) (by simp [results, Tryz.results62, go_sem, hc2]) rfl ?_
  obtain ⟨r, e, hr, hx⟩ := Hfin.out
  cases e
  exact Gives.mk ⟨_, rfl, hr⟩ hx
theorem exact_e (v u : Value) (x y : Int) (w : World) (hv : HasZ w v x) (hu : HasZ w u y) (h0 : y ≠ 0) (hd : y ∣ x) : Calls Tryz.prog 62 #[v, u] w (Gives w fun r w' => TupE w' r (x / y) 0) := exact_z v u x y w hv hu h0 hd
set_option maxRecDepth 20000 in
set_option maxHeartbeats 16000000 in
theorem zdivide_z (v u : Value) (l m : List Int) (s t : Nat) (w : World) (hv : HzV 0 w v l) (hu : HzV 0 w u m) (hs : ∀ i, qsz (cz l i) ≤ s) (ht : ∀ i, qsz (cz m i) ≤ t) (hn : l.length ≤ 549755813888) (hm : m.length ≤ 549755813888) (h0 : cz m ≠ pz) (hst : s + (l.length + 2) * (t + 1) + t ≤ 1099511627776) :
    Calls Tryz.prog 30 #[v, u] w (Gives w (ZdOut w.heap.size (cz l) (cz m))) := by
  have HV := Lib.hid hv; have HU := Lib.hid hu
  obtain ⟨A0, c0, rfl⟩ := hv.len
  obtain ⟨A1, c1, rfl⟩ := hu.len
  clear hv hu
  have hN1 := normal_zarr _ l w HV.out (by omega)
  rw [trimZ_pl] at hN1
  have hN2 := fun W (x : Ext w W) => normal_zarr _ m W (HU.out.ext x) (by omega)
  simp only [trimZ_pl] at hN2
  have hc1 := pl_le (cz_sup l)
  have hc2 := pl_le (cz_sup m)
  have hfF := Fin_.cz l; have hzF := ZI.cz l; have hfG := Fin_.cz m; have hzG := ZI.cz m
  have hL := pl_pos hfG h0
  have ht1 := take_lzf l; have ht2 := take_lzf m
  obtain ⟨F, hF⟩ : ∃ F, F = cz l := ⟨_, rfl⟩
  obtain ⟨G, hG⟩ : ∃ G, G = cz m := ⟨_, rfl⟩
  rw [← hF] at hN1 hs hc1 hfF hzF ht1
  rw [← hG] at hc2 hfG hzG hL ht h0 ht2
  simp only [← hG] at hN2
  rw [← hF, ← hG]
  obtain ⟨P, hP⟩ : ∃ P, P = pl F := ⟨_, rfl⟩
  obtain ⟨L, hLe⟩ : ∃ L, L = pl G := ⟨_, rfl⟩
  obtain ⟨K, hK⟩ : ∃ K, K = pl F + 1 - pl G := ⟨_, rfl⟩
  have HB := Lib.hid (show (∀ k, k ≤ K → ∀ q, q ≤ s + k * (t + 1) → q ≤ 1099511627776 ∧ q + t ≤ 1099511627776) ∧ sz (ld G).num.natAbs ≤ 1099511627776 ∧ (∀ j, sz (G j).num.natAbs ≤ t) ∧ t ≤ 1099511627776 by
    have key : ∀ k, k ≤ K → k * (t + 1) ≤ (l.length + 2) * (t + 1) := fun k hk => Nat.mul_le_mul_right _ (by omega)
    have g1 : ∀ j, sz (G j).num.natAbs ≤ t := fun j => Nat.le_trans (qsz_nm _) (ht j)
    have g2 : sz (ld G).num.natAbs ≤ t := g1 _
    exact ⟨fun k hk q hq => by have := key k hk; omega, by omega, g1, by omega⟩)
  have HX := Lib.hid (And.intro hfF (And.intro hzF (And.intro hfG (And.intro hzG (And.intro h0 (And.intro hF (And.intro hG (And.intro hs ht))))))))
  have HP := Lib.hid (And.intro hP (And.intro hLe hK))
  rw [← hP] at hc1 hN1 ht1
  rw [← hLe] at hc2 hL ht2
  simp only [← hLe] at hN2
  have HN1 := Lib.hid hN1; have HN2 := Lib.hid hN2
  have HT := Lib.hid (And.intro ht1 ht2)
  have hKe : K = P + 1 - L := by rw [hP, hLe]; exact hK
  clear hs ht hst hfF hzF hfG hzG h0 hF hG hP hLe hK ht1 ht2 hN1 hN2
  have hb1 : ((L : Int) == 0) = false := by simpa using (show L ≠ 0 by omega)
  go_enter Tryz.func30, Tryz.ntmps30
  go_wp2_with fail
  refine Calls.mono HN1.out ?_
  rintro e w1 ⟨r1, rfl, ⟨rfl, er⟩, hx⟩
  have hg1 := er.lt
  go_wp2_with fail
  refine Calls.mono (HN2.out w1 hx) ?_
  rintro e w2 ⟨r2, rfl, ⟨rfl, eg⟩, hx2⟩
  have hg2 := eg.lt
  replace er := er.ext hx2
  replace hx := hx.trans hx2
  clear hx2
  have hK1 : P + 1 ≤ K + L ∧ (0 < K → P + 1 = K + L) := by omega
  have HK := Lib.hid hK1
  replace er := er.pre P
  rw [HT.out.1] at er
  replace eg := eg.pre L
  rw [HT.out.2] at eg
  obtain ⟨W0, hmk, eq, hxq⟩ := make_zs K (max ((P : Int) - L + 1) 0) (by omega) (by omega) w2
  replace er := er.ext hxq
  replace eg := eg.ext hxq
  replace hx := hx.trans hxq
  have hg3 := eq.lt
  rw [← lzf_rep] at eq
  have hK40 : K ≤ 1099511627776 := by omega
  clear hK1 hKe
  have hst0 : ZdSt F G K s t K pz F := ZdSt.start ((pl_sup HX.out.1).mono (by have := HK.out; have := HP.out; omega)) HX.out.2.1 HX.out.2.2.2.2.2.2.2.1
  have HS0 := Lib.hid hst0; clear hst0
  generalize hgG : w1.heap.size = gG at *
  generalize hgq : w2.heap.size = gq at *
  go_wp2
  clear hmk hxq
  go_loopw [8] (fun iv wr => ∃ (i : Nat) (Q R : Nat → Rat), i ≤ K ∧ iv = .int .i64 ((i : Int) - 1) ∧ ZArr wr w.heap.size 28 (lzf P R) ∧ ZArr wr gq 28 (lzf K Q) ∧ ZArr wr gG 28 (lzf L G) ∧ ZdSt F G K s t i Q R ∧ Sup P R ∧ Ext w wr) (fun iv _ => (intOf iv + 1).toNat)
  case atStart => exact ⟨K, pz, F, Nat.le_refl _, by go_num, er, eq, eg, HS0.out, by rw [HP.out.1]; exact pl_sup HX.out.1, hx⟩
  case round =>
    clear er eq eg hx
    obtain ⟨i, Q, R, hi, rfl, er, eq, eg, hst, hsP, hx⟩ := hrel
    have HR := Lib.hid hst; have HSP := Lib.hid hsP; clear hst hsP
    by_cases hi0 : 0 < i
    · obtain ⟨k, rfl⟩ : ∃ k, i = k + 1 := ⟨i - 1, by omega⟩
      have hii : ((k + 1 : Nat) : Int) - 1 = (k : Int) := by omega
      rw [hii]
      clear hii hi0
      have hkK : k < K := by omega
      have hkP : k + L ≤ P := by have := HK.out.2; omega
      have hkL : k + L - 1 < P := by omega
      obtain ⟨z0, Z0, zn0, zc0, cr0, cr1, hzc⟩ := er.at_ (j := k + L - 1) (by rw [lzf_len]; exact hkL)
      rw [lzf_get] at hzc
      have hLP : ((k : Int) + L - 1).toNat = k + L - 1 := by omega
      have HQ := Lib.hid (show (∀ n, sz (R n).num.natAbs ≤ 1099511627776) ∧ (ld G).num ≠ 0 ∧ R (k + L - 1) = R (k + pl G - 1) from by
        refine ⟨fun n => ?_, fun e => ?_, by rw [HP.out.2.1]⟩
        · have h1 := HR.out.2.2.2.2.2.2 n
          have h2 := HB.out.1 _ (show K - (k + 1) ≤ K by omega) _ h1
          have h3 := qsz_nm (R n); omega
        · have := ld_ne HX.out.2.2.1 HX.out.2.2.2.2.1
          exact this (by rw [show ld G = ((ld G).num : Rat) from HX.out.2.2.2.1.num _, e]; rfl))
      have Hz := Lib.hid (And.intro hzc (show IsZP w.heap.size _ (.slice (some ⟨gG, 0, none⟩) L m.length) G by
        have h1 := eg
        have h2 := HP.out.2.1
        rw [h2] at h1
        rw [h2]
        exact h1.whole HX.out.2.2.2.1 HX.out.2.2.1 (by omega) (by omega) (by omega)))
      clear hzc
      obtain ⟨rv, hrv⟩ : ∃ rv, rv = (R (k + L - 1)).num := ⟨_, rfl⟩
      rw [← hrv] at Hz
      by_cases hd : (ld G).num ∣ rv
      · obtain ⟨z, hzz⟩ : ∃ z, z = rv / (ld G).num := ⟨_, rfl⟩
        have HD := Lib.hid (And.intro hd (And.intro hrv hzz)); clear hd hzz
        go_wp2_with fail
        go_cut [9, 10] (fun pv ev wx => ∃ gc, pv = .pointer (some ⟨gc, 0, none⟩) ∧ ev = .int .i64 0 ∧ BoxZ wx gc 28 z ∧ wr.heap.size ≤ gc ∧ Ext wr wx)
        case first =>
          refine wp_region_late (k := 15) (ℓ := 13) (nl := 1) (D := [36, 37, 38, 39, 40, 41, 42, 43, 44, 45, 46, 35, 47, 48, 9]) (T := [[], [], [], [2], [1, 2, 3], [1, 2, 3, 4], [0, 1, 2, 3, 4, 5], [0, 1, 2, 3, 4, 5, 6], [], [8], [0, 1, 2, 3, 4, 5, 6, 7, 8, 9], [0, 1, 2, 3, 4, 5, 6, 7, 8, 9, 10], [0, 1, 2, 3, 4, 5, 6, 7, 8, 9, 10, 11], [0, 1, 2, 3, 4, 5, 6, 7, 8, 9, 10, 11], [], [0, 1, 2, 3, 4, 5, 6, 7, 8, 9, 10, 11, 12, 14], [0, 1, 2, 3, 4, 5, 6, 7, 8, 9, 10, 11, 12, 13, 14, 15]]) (EK := [6, 8, 1]) (EV := [?e1x0, ?e1x1, ?e1x2]) (VL := [(kv ?v1x0), (kv ?v1x1), (kv ?v1x2), (kv ?v1x3), (kv ?v1x4), (kv ?v1x5), (kv ?v1x6), (kv ?v1x7), (kv ?v1x8), (fun γ => γ 9), (fun γ => γ 10), (fun γ => γ 10), (fun γ => γ 12), (kv ?v1x13), (fun γ => γ 14)]) (FL := fun γ w' => [True, True, True, True, True, True, True, True, True, IsZ w' (γ 9) (ld G).num, TupE w' (γ 10) z 0, True, IsZ w' (γ 12) z, True, NewAt w' (γ 14) wr.heap.size #[.bool false, .slice none 0 0] 28]) _ rfl ?hE1 (by kernel_rfl) (by kernel_rfl) (by kernel_rfl) (by kernel_rfl) (by kernel_rfl) (by rfl) (by kernel_rfl) ?hloc1 ?hmono1 ?hstep1 ?htail1 ?hlate1
          case hE1 => refine ⟨?_, ?_, ?_, trivial⟩ <;> (simp only [List.getElem?_toArray, List.getElem?_cons_succ, List.getElem?_cons_zero]; rfl)
          case hstep1 =>
            refine ⟨⟨⟨⟨⟨⟨⟨⟨⟨⟨⟨⟨⟨⟨⟨trivial, ?_⟩, ?_⟩, ?_⟩, ?_⟩, ?_⟩, ?_⟩, ?_⟩, ?_⟩, ?_⟩, ?_⟩, ?_⟩, ?_⟩, ?_⟩, ?_⟩, ?_⟩
            · intro γ w' he hf; clear hf; refine ⟨trivial, ?_⟩; intro R hR
              have hc := he.cells
              go_simp
              (try go_ints); (try (rw [if_neg (by omega)])); (try (rw [if_pos (by omega)])); (try go_simp); (try go_ints)
              refine hR _ _ (Ext.refl _) ?_ trivial
              rfl
            · intro γ w' he hf; clear hf; refine ⟨trivial, ?_⟩; intro R hR
              have hc := he.cells
              go_simp
              (try go_ints); (try (rw [if_neg (by omega)])); (try (rw [if_pos (by omega)])); (try go_simp); (try go_ints)
              refine hR _ _ (Ext.refl _) ?_ trivial
              rfl
            · intro γ w' he hf; clear hf; refine ⟨trivial, ?_⟩; intro R hR
              have hc := he.cells
              go_simp
              (try go_ints); (try (rw [if_neg (by omega)])); (try (rw [if_pos (by omega)])); (try go_simp); (try go_ints)
              refine hR _ _ (Ext.refl _) ?_ trivial
              rfl
            · intro γ w' he hf; clear hf; refine ⟨trivial, ?_⟩; intro R hR
              have hc := he.cells
              go_simp
              (try go_ints); (try (rw [if_neg (by omega)])); (try (rw [if_pos (by omega)])); (try go_simp); (try go_ints)
              refine hR _ _ (Ext.refl _) ?_ trivial
              rfl
            · intro γ w' he hf; clear hf; refine ⟨trivial, ?_⟩; intro R hR
              have hc := he.cells
              go_simp
              (try go_ints); (try (rw [if_neg (by omega)])); (try (rw [if_pos (by omega)])); (try go_simp); (try go_ints)
              refine hR _ _ (Ext.refl _) ?_ trivial
              rfl
            · intro γ w' he hf; clear hf; refine ⟨trivial, ?_⟩; intro R hR
              have hc := he.cells
              go_simp
              (try go_ints); (try (rw [if_neg (by omega)])); (try (rw [if_pos (by omega)])); (try go_simp); (try go_ints)
              refine hR _ _ (Ext.refl _) ?_ trivial
              rfl
            · intro γ w' he hf; clear hf; refine ⟨trivial, ?_⟩; intro R hR
              have hc := he.cells
              go_simp
              (try go_ints); (try (rw [if_neg (by omega)])); (try (rw [if_pos (by omega)])); (try go_simp); (try go_ints)
              refine hR _ _ (Ext.refl _) ?_ trivial
              rfl
            · intro γ w' he hf; clear hf; refine ⟨trivial, ?_⟩; intro R hR
              have hc := he.cells
              have cq0 := he.cell cr0
              have cq1 := he.cell cr1
              go_simp
              (try go_ints); (try (rw [if_neg (by omega)])); (try (rw [if_pos (by omega)])); (try go_simp); (try go_ints)
              refine hR _ _ (Ext.refl _) ?_ trivial
              rfl
            · intro γ w' he hf; clear hf; refine ⟨trivial, ?_⟩; intro R hR
              have hc := he.cells
              go_simp
              (try go_ints); (try (rw [if_neg (by omega)])); (try (rw [if_pos (by omega)])); (try go_simp); (try go_ints)
              refine hR _ _ (Ext.refl _) ?_ trivial
              rfl
            · intro γ w' he hf; clear hf; refine ⟨trivial, ?_⟩; intro R hR
              go_simp
              refine Calls.mono (show Calls _ _ _ w' (Gives w' fun r w'' => IsZ w'' (r) (ld G).num) from lead_z _ w.heap.size G w' (Hz.out.2.ext he) HX.out.2.2.2.2.1) ?_
              rintro e w2 ⟨v, rfl, hv, hx⟩
              exact ⟨v, rfl, hR v w2 hx rfl hv⟩
            · intro γ w' he hf; have f9 : IsZ w' (γ 9) (ld G).num := hf 9 (by decide); clear hf; refine ⟨trivial, ?_⟩; intro R hR
              go_simp
              refine Calls.mono (show Calls _ _ _ w' (Gives w' fun r w'' => TupE w'' (r) z 0) from HD.out.2.2 ▸ exact_e _ _ _ _ w' ((Hz.out.1.kd he.kd).has (by rw [HD.out.2.1]; exact HQ.out.1 _)) (f9.has HB.out.2.1) HQ.out.2.1 HD.out.1) ?_
              rintro e w2 ⟨v, rfl, hv, hx⟩
              exact ⟨v, rfl, hR v w2 hx rfl hv⟩
            · intro γ w' he hf; have f9 : IsZ w' (γ 9) (ld G).num := hf 9 (by decide); have f10 : TupE w' (γ 10) z 0 := hf 10 (by decide); clear hf; refine ⟨trivial, ?_⟩; intro R hR
              have hc := he.cells
              go_simp
              (try go_ints); (try (rw [if_neg (by omega)])); (try (rw [if_pos (by omega)])); (try go_simp); (try go_ints)
              refine hR _ _ (Ext.refl _) ?_ trivial
              rfl
            · intro γ w' he hf; have f9 : IsZ w' (γ 9) (ld G).num := hf 9 (by decide); have f10 : TupE w' (γ 10) z 0 := hf 10 (by decide); clear hf; refine ⟨trivial, ?_⟩; intro R hR
              obtain ⟨a, e, ha⟩ := f10
              go_simp
              exact hR _ _ (Ext.refl _) rfl ha
            · intro γ w' he hf; have f9 : IsZ w' (γ 9) (ld G).num := hf 9 (by decide); have f10 : TupE w' (γ 10) z 0 := hf 10 (by decide); clear hf; refine ⟨trivial, ?_⟩; intro R hR
              obtain ⟨a, e, ha⟩ := f10
              have hc := he.cells
              go_simp
              (try go_ints); (try (rw [if_neg (by omega)])); (try (rw [if_pos (by omega)])); (try go_simp); (try go_ints)
              refine hR _ _ (Ext.refl _) ?_ trivial
              rfl
            · intro γ w' he hf; clear hf; refine ⟨trivial, ?_⟩; intro R hR
              go_simp
              exact hR _ _ ((Ext.refl _).alloc _) rfl (NewAt.mk (Nat.le_trans (by simp) he.size) (by simp [isDig]))
          case hloc1 =>
            exact ⟨⟨⟨⟨⟨⟨⟨⟨⟨⟨⟨⟨⟨⟨⟨trivial, (fun γ γ' h => ⟨rfl, fun _ => rfl⟩)⟩, (fun γ γ' h => ⟨rfl, fun _ => rfl⟩)⟩, (fun γ γ' h => ⟨rfl, fun _ => rfl⟩)⟩, (fun γ γ' h => ⟨rfl, fun _ => rfl⟩)⟩, (fun γ γ' h => ⟨rfl, fun _ => rfl⟩)⟩, (fun γ γ' h => ⟨rfl, fun _ => rfl⟩)⟩, (fun γ γ' h => ⟨rfl, fun _ => rfl⟩)⟩, (fun γ γ' h => ⟨rfl, fun _ => rfl⟩)⟩, (fun γ γ' h => ⟨rfl, fun _ => rfl⟩)⟩, (fun γ γ' h => ⟨h 9 rfl, fun w' => (congrArg (fun a => IsZ w' (a) (ld G).num) (h 9 rfl))⟩)⟩, (fun γ γ' h => ⟨h 10 rfl, fun w' => (congrArg (fun a => TupE w' (a) z 0) (h 10 rfl))⟩)⟩, (fun γ γ' h => ⟨(congrArg (fun a => a) (h 10 rfl)), fun _ => rfl⟩)⟩, (fun γ γ' h => ⟨h 12 rfl, fun w' => (congrArg (fun a => IsZ w' (a) z) (h 12 rfl))⟩)⟩, (fun γ γ' h => ⟨rfl, fun _ => rfl⟩)⟩, (fun γ γ' h => ⟨h 14 rfl, fun w' => (congrArg (fun a => NewAt w' (a) wr.heap.size #[.bool false, .slice none 0 0] 28) (h 14 rfl))⟩)⟩
          case hmono1 =>
            exact ⟨⟨⟨⟨⟨⟨⟨⟨⟨⟨⟨⟨⟨⟨⟨trivial, (fun γ wA w' e h => h)⟩, (fun γ wA w' e h => h)⟩, (fun γ wA w' e h => h)⟩, (fun γ wA w' e h => h)⟩, (fun γ wA w' e h => h)⟩, (fun γ wA w' e h => h)⟩, (fun γ wA w' e h => h)⟩, (fun γ wA w' e h => h)⟩, (fun γ wA w' e h => h)⟩, (fun γ wA w' e h => (show IsZ wA (γ 9) (ld G).num from h).ext e)⟩, (fun γ wA w' e h => (show TupE wA (γ 10) z 0 from h).ext e)⟩, (fun γ wA w' e h => h)⟩, (fun γ w w' e h => IsZ.ext_ h e)⟩, (fun γ wA w' e h => h)⟩, (fun γ wA w' e h => (show NewAt wA (γ 14) wr.heap.size #[.bool false, .slice none 0 0] 28 from h).ext e)⟩
          case hlate1 =>
            intro γ w3 hx3 hF
            have p9 : IsZ w3 (γ 9) (ld G).num := (Each.get hF 9 (by decide)).resolve_left (by decide)
            have p10 : TupE w3 (γ 10) z 0 := (Each.get hF 10 (by decide)).resolve_left (by decide)
            have p12 : IsZ w3 (γ 12) z := (Each.get hF 12 (by decide)).resolve_left (by decide)
            have p14 : NewAt w3 (γ 14) wr.heap.size #[.bool false, .slice none 0 0] 28 := (Each.get hF 14 (by decide)).resolve_left (by decide)
            clear hF
            simp only [fillAll, gV, kv, List.getD_cons_zero, List.getD_cons_succ, Act.put, List.setIfInBounds_toArray, List.set_cons_zero, List.set_cons_succ, List.toList_toArray, List.drop_succ_cons, List.drop_zero, List.drop_nil, Nat.zero_add, Nat.reduceAdd, lateP, Array.getD_eq_getD_getElem?, List.getElem?_toArray, List.getElem?_cons_succ, List.getElem?_cons_zero, Option.getD_some]
            generalize γ 9 = g9 at *
            generalize γ 10 = g10 at *
            generalize γ 12 = g12 at *
            generalize γ 14 = g14 at *
            clear γ
            obtain ⟨a10, rfl, -⟩ := p10
            obtain ⟨gc, rfl, hgc, ec⟩ := p14
            obtain ⟨b5, A5, n5, c5, rfl⟩ := p12.cells
            clear cr0 cr1 p9 hLP
            obtain ⟨cec0, cec1⟩ := ec.cells2
            have fec := ec.frozen
            go_wp2
            refine ⟨?_, trivial⟩
            go_wp2
            skip
            obtain ⟨W4, eW, ec', U⟩ := ec.put2 (.bool b5) (.slice A5 n5 c5) rfl rfl
            rw [← eW]
            clear eW ec
            replace p12 := p12.kd U.kd
            replace hx3 := U.from_ hx3 (by simp <;> omega)
            have ec := ec'
            clear U ec'
            go_meet
            case rel => exact ⟨gc, rfl, rfl, BoxZ.mk ec p12, hgc, hx3⟩
          intro γ w3 hx3 hF
          have p9 : IsZ w3 (γ 9) (ld G).num := Each.get hF 9 (by decide)
          have p10 : TupE w3 (γ 10) z 0 := Each.get hF 10 (by decide)
          have p12 : IsZ w3 (γ 12) z := Each.get hF 12 (by decide)
          have p14 : NewAt w3 (γ 14) wr.heap.size #[.bool false, .slice none 0 0] 28 := Each.get hF 14 (by decide)
          clear hF
          simp only [fillAll, gV, kv, List.getD_cons_zero, List.getD_cons_succ, Act.put, List.setIfInBounds_toArray, List.set_cons_zero, List.set_cons_succ, List.toList_toArray, List.drop_succ_cons, List.drop_zero, List.drop_nil, Nat.zero_add, Nat.reduceAdd]
          generalize γ 9 = g9 at *
          generalize γ 10 = g10 at *
          generalize γ 12 = g12 at *
          generalize γ 14 = g14 at *
          clear γ
          obtain ⟨a10, rfl, -⟩ := p10
          obtain ⟨gc, rfl, hgc, ec⟩ := p14
          obtain ⟨b5, A5, n5, c5, rfl⟩ := p12.cells
          clear cr0 cr1 p9 hLP
          obtain ⟨cec0, cec1⟩ := ec.cells2
          have fec := ec.frozen
          go_wp2
          skip
          obtain ⟨W4, eW, ec', U⟩ := ec.put2 (.bool b5) (.slice A5 n5 c5) rfl rfl
          rw [← eW]
          clear eW ec
          replace p12 := p12.kd U.kd
          replace hx3 := U.from_ hx3 (by simp <;> omega)
          have ec := ec'
          clear U ec'
          go_meet
          case rel => exact ⟨gc, rfl, rfl, BoxZ.mk ec p12, hgc, hx3⟩
        case rest =>
          clear cr0 cr1 hLP
          obtain ⟨gc, rfl, rfl, ⟨b, B, bn, bc, e8, hb⟩, hgc, hx3⟩ := hcut
          have hgq := eq.lt
          have hgr := er.lt
          have hgg := eg.lt
          replace er := er.ext hx3
          replace eq := eq.ext hx3
          replace eg := eg.ext hx3
          replace hx := hx.trans hx3
          clear hx3
          have hzk : Q k = 0 := HR.out.1 k (by omega)
          have hzv : R (k + pl G - 1) = (z : Rat) * ld G := by
            rw [← HQ.out.2.2, HD.out.2.2, HD.out.2.1]
            exact HR.out.yes HX.out.2.2.2.1 (by rw [← HD.out.2.1]; exact HD.out.1)
          have HZ := Lib.hid (show ZdSt F G K s t k (pad Q (mono k (z : Rat))) (psb R (cv (mono k (z : Rat)) G)) ∧ Q k = 0 ∧ sz z.natAbs ≤ 1099511627776 ∧ (∀ j, sz (z * (G j).num).natAbs ≤ 1099511627776) ∧ ∀ n, sz (R n).num.natAbs ≤ 1099511627776 from by
            have hl := ld_ne HX.out.2.2.1 HX.out.2.2.2.2.1
            have h1 : qsz (z : Rat) ≤ qsz (R (k + pl G - 1)) := qsz_quot hl (HX.out.2.2.2.1 _) hzv
            have h2 := HR.out.2.2.2.2.2.2 (k + pl G - 1)
            have h3 := HB.out.1 _ (show K - (k + 1) ≤ K by omega) _ h2
            have h4 : sz z.natAbs ≤ qsz (z : Rat) := by rw [qsz_cast]; omega
            refine ⟨HR.out.step HX.out.2.2.1 HX.out.2.2.2.2.1 HX.out.2.2.2.1 HX.out.2.2.2.2.2.2.2.2 hkK hzv, hzk, by omega, fun j => ?_, HQ.out.1⟩
            have h5 := mul_sz2 (x := z) (y := (G j).num) h4 (HB.out.2.2.1 j)
            omega)
          clear hzk hzv
          have Hb := Lib.hid hb; clear hb
          have hkl : k < (lzf K Q).length := by rw [lzf_len]; exact hkK
          have Hkl := Lib.hid hkl
          obtain ⟨ce80, ce81⟩ := e8.cells2
          have fe8 := e8.frozen
          obtain ⟨_, _, _, _, ca0, ca1, -⟩ := eq.at_ (j := k) (by first | omega | (simp; omega))
          have fa0 := eq.frozen (k * 2)
          have fa1 := eq.frozen (k * 2 + 1)
          clear hkl
          go_wp2
          have hkl := Hkl.out
          have hb := Hb.out
          obtain ⟨W7, eW, eq', U⟩ := eq.put (k := k) (by first | omega | (simp; omega)) hb
          rw [← eW]
          clear eW eq
          replace hb := hb.kd U.kd
          replace er := er.upd U (by simp <;> omega)
          replace eg := eg.upd U (by simp <;> omega)
          replace e8 := e8.upd U (by simp <;> omega)
          replace hx := U.from_ hx (by simp <;> omega)
          have eq := eq'
          clear U eq'
          rw [lzf_set (G := pad Q (mono k (z : Rat))) (fun n => padm_num HR.out.2.2.2.2.1 HZ.out.2.1 n)] at eq
          have ec := BoxZ.mk e8 hb
          clear e8 hb Hb Hkl hkl ce80 ce81 fe8
          go_loopw [57] (fun jv wx => ∃ j : Nat, j ≤ L ∧ jv = .int .i64 j ∧ ZArr wx w.heap.size 28 (lzf P (subG k j (z : Rat) R G)) ∧ ZArr wx gq 28 (lzf K (pad Q (mono k (z : Rat)))) ∧ ZArr wx gG 28 (lzf L G) ∧ BoxZ wx gc 28 z ∧ Ext w wx) (fun jv _ => L - (intOf jv).toNat)
          case atStart => exact ⟨0, Nat.zero_le _, rfl, by rw [subG_zero]; exact er, eq, eg, ec, hx⟩
          case round =>
            clear er eq eg ec hx
            obtain ⟨j, hj, rfl, er, eq, eg, ec, hx⟩ := hrel
            by_cases hjl : j < L
            · obtain ⟨y1, Y1, yn1, yc1, q0, q1, hy⟩ := eg.at_ (j := j) (by rw [lzf_len]; exact hjl)
              rw [lzf_get] at hy
              have Hy := Lib.hid hy; clear hy
              have hne := ec.lt
              have hne2 := eq.lt
              go_wp2_with fail
              obtain ⟨W10, eW10, e10, x10⟩ := Box.made wr 28 #[.bool y1, .slice Y1 yn1 yc1] (by simp [isDig])
              rw [← eW10]
              clear eW10 q0 q1
              have hy := Hy.out.kd x10.kd
              replace er := er.ext x10
              replace eq := eq.ext x10
              replace eg := eg.ext x10
              replace ec := ec.ext x10
              replace hx := hx.trans x10
              clear x10
              obtain ⟨b, B, bn, bc, e8, hb⟩ := ec
              have hij : k + j < P := by omega
              obtain ⟨z1, Z1, zn1, zc1, ca0, ca1, hz⟩ := er.at_ (j := k + j) (by rw [lzf_len]; exact hij)
              rw [lzf_get, subG_at] at hz
              obtain ⟨rj, hrj⟩ : ∃ rj, rj = (R (k + j)).num := ⟨_, rfl⟩
              rw [← hrj] at hz
              have Hrj := Lib.hid hrj; clear hrj
              have Hz' := Lib.hid (And.intro hz (And.intro hb hy)); clear hz hb hy Hy
              obtain ⟨ce80, ce81⟩ := e8.cells2
              have fe8 := e8.frozen
              obtain ⟨ce100, ce101⟩ := e10.cells2
              have fe10 := e10.frozen
              go_wp2_with fail
              refine wp_region_par (k := 14) (D := [62, 63, 64, 65, 66, 67, 68, 69, 70, 71, 72, 73, 74, 75]) (T := [[], [], [], [1, 2], [], [], [], [5, 6], [4, 5, 6, 7], [4, 5, 6, 7, 8], [], [], [10, 11], [4, 5, 6, 7, 8, 9, 10, 11, 12], [0, 1, 2, 3, 4, 5, 6, 7, 8, 9, 10, 11, 12, 13], [0, 1, 2, 3, 4, 5, 6, 7, 8, 9, 10, 11, 12, 13, 14]]) (EK := [6, 8, 11, 9, 12]) (EV := [?e2x0, ?e2x1, ?e2x2, ?e2x3, ?e2x4]) (VL := [(kv ?v2x0), (kv ?v2x1), (kv ?v2x2), (kv ?v2x3), (kv ?v2x4), (kv ?v2x5), (kv ?v2x6), (kv ?v2x7), (kv ?v2x8), (kv ?v2x9), (kv ?v2x10), (kv ?v2x11), (fun γ => γ 12), (fun γ => γ 13)]) (FL := fun γ w' => [True, True, True, True, True, True, True, True, True, True, True, True, IsZ w' (γ 12) (z * (G j).num), IsZ w' (γ 13) (rj - z * (G j).num)]) ?hE2 (by kernel_rfl) (by kernel_rfl) (by rfl) (by kernel_rfl) ?hloc2 ?hmono2 ?hstep2 ?htail2
              case hE2 => refine ⟨?_, ?_, ?_, ?_, ?_, trivial⟩ <;> (simp only [List.getElem?_toArray, List.getElem?_cons_succ, List.getElem?_cons_zero]; rfl)
              case hstep2 =>
                refine ⟨⟨⟨⟨⟨⟨⟨⟨⟨⟨⟨⟨⟨⟨trivial, ?_⟩, ?_⟩, ?_⟩, ?_⟩, ?_⟩, ?_⟩, ?_⟩, ?_⟩, ?_⟩, ?_⟩, ?_⟩, ?_⟩, ?_⟩, ?_⟩
                · intro γ w' he hf; clear hf; refine ⟨trivial, ?_⟩; intro R hR
                  have hc := he.cells
                  go_simp
                  (try go_ints); (try (rw [if_neg (by omega)])); (try (rw [if_pos (by omega)])); (try go_simp); (try go_ints)
                  refine hR _ _ (Ext.refl _) ?_ trivial
                  rfl
                · intro γ w' he hf; clear hf; refine ⟨trivial, ?_⟩; intro R hR
                  have hc := he.cells
                  go_simp
                  (try go_ints); (try (rw [if_neg (by omega)])); (try (rw [if_pos (by omega)])); (try go_simp); (try go_ints)
                  refine hR _ _ (Ext.refl _) ?_ trivial
                  rfl
                · intro γ w' he hf; clear hf; refine ⟨trivial, ?_⟩; intro R hR
                  have hc := he.cells
                  go_simp
                  (try go_ints); (try (rw [if_neg (by omega)])); (try (rw [if_pos (by omega)])); (try go_simp); (try go_ints)
                  refine hR _ _ (Ext.refl _) ?_ trivial
                  rfl
                · intro γ w' he hf; clear hf; refine ⟨trivial, ?_⟩; intro R hR
                  have hc := he.cells
                  go_simp
                  (try go_ints); (try (rw [if_neg (by omega)])); (try (rw [if_pos (by omega)])); (try go_simp); (try go_ints)
                  refine hR _ _ (Ext.refl _) ?_ trivial
                  rfl
                · intro γ w' he hf; clear hf; refine ⟨trivial, ?_⟩; intro R hR
                  have hc := he.cells
                  go_simp
                  (try go_ints); (try (rw [if_neg (by omega)])); (try (rw [if_pos (by omega)])); (try go_simp); (try go_ints)
                  refine hR _ _ (Ext.refl _) ?_ trivial
                  rfl
                · intro γ w' he hf; clear hf; refine ⟨trivial, ?_⟩; intro R hR
                  have hc := he.cells
                  go_simp
                  (try go_ints); (try (rw [if_neg (by omega)])); (try (rw [if_pos (by omega)])); (try go_simp); (try go_ints)
                  refine hR _ _ (Ext.refl _) ?_ trivial
                  rfl
                · intro γ w' he hf; clear hf; refine ⟨trivial, ?_⟩; intro R hR
                  have hc := he.cells
                  go_simp
                  (try go_ints); (try (rw [if_neg (by omega)])); (try (rw [if_pos (by omega)])); (try go_simp); (try go_ints)
                  refine hR _ _ (Ext.refl _) ?_ trivial
                  rfl
                · intro γ w' he hf; clear hf; refine ⟨trivial, ?_⟩; intro R hR
                  have hc := he.cells
                  go_simp
                  (try go_ints); (try (rw [if_neg (by omega)])); (try (rw [if_pos (by omega)])); (try go_simp); (try go_ints)
                  refine hR _ _ (Ext.refl _) ?_ trivial
                  rfl
                · intro γ w' he hf; clear hf; refine ⟨trivial, ?_⟩; intro R hR
                  have hc := he.cells
                  go_simp
                  (try go_ints); (try (rw [if_neg (by omega)])); (try (rw [if_pos (by omega)])); (try go_simp); (try go_ints)
                  refine hR _ _ (Ext.refl _) ?_ trivial
                  rfl
                · intro γ w' he hf; clear hf; refine ⟨trivial, ?_⟩; intro R hR
                  have hc := he.cells
                  have cq0 := he.cell ca0
                  have cq1 := he.cell ca1
                  have cq2 := he.cell ce80
                  have cq3 := he.cell ce81
                  have cq4 := he.cell ce100
                  have cq5 := he.cell ce101
                  go_simp
                  (try go_ints); (try (rw [if_neg (by omega)])); (try (rw [if_pos (by omega)])); (try go_simp); (try go_ints)
                  refine hR _ _ (Ext.refl _) ?_ trivial
                  rfl
                · intro γ w' he hf; clear hf; refine ⟨trivial, ?_⟩; intro R hR
                  have hc := he.cells
                  have cq0 := he.cell ca0
                  have cq1 := he.cell ca1
                  have cq2 := he.cell ce80
                  have cq3 := he.cell ce81
                  have cq4 := he.cell ce100
                  have cq5 := he.cell ce101
                  go_simp
                  (try go_ints); (try (rw [if_neg (by omega)])); (try (rw [if_pos (by omega)])); (try go_simp); (try go_ints)
                  refine hR _ _ (Ext.refl _) ?_ trivial
                  rfl
                · intro γ w' he hf; clear hf; refine ⟨trivial, ?_⟩; intro R hR
                  have hc := he.cells
                  have cq0 := he.cell ca0
                  have cq1 := he.cell ca1
                  have cq2 := he.cell ce80
                  have cq3 := he.cell ce81
                  have cq4 := he.cell ce100
                  have cq5 := he.cell ce101
                  go_simp
                  (try go_ints); (try (rw [if_neg (by omega)])); (try (rw [if_pos (by omega)])); (try go_simp); (try go_ints)
                  refine hR _ _ (Ext.refl _) ?_ trivial
                  rfl
                · intro γ w' he hf; clear hf; refine ⟨trivial, ?_⟩; intro R hR
                  go_simp
                  refine Calls.mono (show Calls _ _ _ w' (Gives w' fun r w'' => IsZ w'' (r) (z * (G j).num)) from mul_z _ _ _ _ w' ((Hz'.out.2.1.kd he.kd).has HZ.out.2.2.1) ((Hz'.out.2.2.kd he.kd).has (by have h1 := HB.out.2.2.1 j; have h2 := HB.out.2.2.2; omega))) ?_
                  rintro e w2 ⟨v, rfl, hv, hx⟩
                  exact ⟨v, rfl, hR v w2 hx rfl hv⟩
                · intro γ w' he hf; have f12 : IsZ w' (γ 12) (z * (G j).num) := hf 12 (by decide); clear hf; refine ⟨trivial, ?_⟩; intro R hR
                  go_simp
                  refine Calls.mono (show Calls _ _ _ w' (Gives w' fun r w'' => IsZ w'' (r) (rj - z * (G j).num)) from sub_z _ _ _ _ w' ((Hz'.out.1.kd he.kd).has (by rw [Hrj.out]; exact HZ.out.2.2.2.2 _)) (f12.has (HZ.out.2.2.2.1 j))) ?_
                  rintro e w2 ⟨v, rfl, hv, hx⟩
                  exact ⟨v, rfl, hR v w2 hx rfl hv⟩
              case hloc2 =>
                exact ⟨⟨⟨⟨⟨⟨⟨⟨⟨⟨⟨⟨⟨⟨trivial, (fun γ γ' h => ⟨rfl, fun _ => rfl⟩)⟩, (fun γ γ' h => ⟨rfl, fun _ => rfl⟩)⟩, (fun γ γ' h => ⟨rfl, fun _ => rfl⟩)⟩, (fun γ γ' h => ⟨rfl, fun _ => rfl⟩)⟩, (fun γ γ' h => ⟨rfl, fun _ => rfl⟩)⟩, (fun γ γ' h => ⟨rfl, fun _ => rfl⟩)⟩, (fun γ γ' h => ⟨rfl, fun _ => rfl⟩)⟩, (fun γ γ' h => ⟨rfl, fun _ => rfl⟩)⟩, (fun γ γ' h => ⟨rfl, fun _ => rfl⟩)⟩, (fun γ γ' h => ⟨rfl, fun _ => rfl⟩)⟩, (fun γ γ' h => ⟨rfl, fun _ => rfl⟩)⟩, (fun γ γ' h => ⟨rfl, fun _ => rfl⟩)⟩, (fun γ γ' h => ⟨h 12 rfl, fun w' => (congrArg (fun a => IsZ w' (a) (z * (G j).num)) (h 12 rfl))⟩)⟩, (fun γ γ' h => ⟨h 13 rfl, fun w' => (congrArg (fun a => IsZ w' (a) (rj - z * (G j).num)) (h 13 rfl))⟩)⟩
              case hmono2 =>
                exact ⟨⟨⟨⟨⟨⟨⟨⟨⟨⟨⟨⟨⟨⟨trivial, (fun γ wA w' e h => h)⟩, (fun γ wA w' e h => h)⟩, (fun γ wA w' e h => h)⟩, (fun γ wA w' e h => h)⟩, (fun γ wA w' e h => h)⟩, (fun γ wA w' e h => h)⟩, (fun γ wA w' e h => h)⟩, (fun γ wA w' e h => h)⟩, (fun γ wA w' e h => h)⟩, (fun γ wA w' e h => h)⟩, (fun γ wA w' e h => h)⟩, (fun γ wA w' e h => h)⟩, (fun γ wA w' e h => (show IsZ wA (γ 12) (z * (G j).num) from h).ext e)⟩, (fun γ wA w' e h => (show IsZ wA (γ 13) (rj - z * (G j).num) from h).ext e)⟩
              intro γ w6 hx6 hF
              have p12 : IsZ w6 (γ 12) (z * (G j).num) := Each.get hF 12 (by decide)
              have p13 : IsZ w6 (γ 13) (rj - z * (G j).num) := Each.get hF 13 (by decide)
              clear hF
              simp only [fillAll, gV, kv, List.getD_cons_zero, List.getD_cons_succ, Act.put, List.setIfInBounds_toArray, List.set_cons_zero, List.set_cons_succ, List.toList_toArray, List.drop_succ_cons, List.drop_zero, List.drop_nil, Nat.zero_add, Nat.reduceAdd]
              generalize γ 12 = g12 at *
              generalize γ 13 = g13 at *
              clear γ
              have hb := Hz'.out.2.1.kd hx6.kd
              clear p12 Hz' ca0 ca1 ce80 ce81 fe8 ce100 ce101 fe10 e10
              replace er := er.ext hx6
              replace eq := eq.ext hx6
              replace eg := eg.ext hx6
              replace e8 := e8.ext hx6
              replace hx := hx.trans hx6
              clear hx6
              obtain ⟨b5, A5, n5, c5, rfl⟩ := p13.cells
              have hkf : k + j < (lzf P (subG k j (z : Rat) R G)).length := by rw [lzf_len]; exact hij
              have Hkf := Lib.hid hkf
              have Hb := Lib.hid hb; clear hb
              obtain ⟨_, _, _, _, ca0, ca1, -⟩ := er.at_ (j := k + j) (by first | omega | (simp; omega))
              have fa0 := er.frozen ((k + j) * 2)
              have fa1 := er.frozen ((k + j) * 2 + 1)
              clear hkf
              go_wp2
              have hkf := Hkf.out
              have hb := Hb.out
              obtain ⟨W9, eW, er', U⟩ := er.put (k := k + j) (by first | omega | (simp; omega)) p13
              rw [← eW]
              clear eW er
              replace hb := hb.kd U.kd
              replace eq := eq.upd U (by simp <;> omega)
              replace eg := eg.upd U (by simp <;> omega)
              replace e8 := e8.upd U (by simp <;> omega)
              replace hx := U.from_ hx (by simp <;> omega)
              have er := er'
              clear U er'
              go_roundw
              case rel => exact ⟨j + 1, by omega, by go_num, by
                rw [Hrj.out, lzf_set (G := subG k (j + 1) (z : Rat) R G) (fun n => subG_num HR.out.2.2.2.2.2.1 HX.out.2.2.2.1 n)] at er
                exact er, eq, eg, BoxZ.mk e8 hb, hx⟩
              case measure => simp [intOf]; omega
            · obtain rfl : L = j := by omega
              rw [subG_full (pl_sup HX.out.2.2.1 |>.mono (by rw [← HP.out.2.1]; exact Nat.le_refl _))] at er
              go_wp2
              go_roundw
              case rel => exact ⟨k, _, _, by omega, by go_num, er, eq, eg, HZ.out.1, HSP.out.psb (((mono_sup k _).cv (pl_sup HX.out.2.2.1)).mono (by have := HP.out.2.1; omega)), hx⟩
              case measure => simp [intOf] <;> omega
      · have hno : ¬ Zdv F G := HR.out.no HX.out.2.2.1 HX.out.2.2.2.2.1 HX.out.2.2.2.1 (by rw [← HQ.out.2.2, ← hrv]; exact hd)
        have HD := Lib.hid (And.intro hd (And.intro hrv hno)); clear hd hno
        go_wp2_with fail
        go_cut [9, 10] (fun pv ev wx => ∃ gc, pv = .pointer (some ⟨gc, 0, none⟩) ∧ ev = .int .i64 6 ∧ BoxZ wx gc 28 0 ∧ wr.heap.size ≤ gc ∧ Ext wr wx)
        case first =>
          refine wp_region_late (k := 15) (ℓ := 13) (nl := 1) (D := [36, 37, 38, 39, 40, 41, 42, 43, 44, 45, 46, 35, 47, 48, 9]) (T := [[], [], [], [2], [1, 2, 3], [1, 2, 3, 4], [0, 1, 2, 3, 4, 5], [0, 1, 2, 3, 4, 5, 6], [], [8], [0, 1, 2, 3, 4, 5, 6, 7, 8, 9], [0, 1, 2, 3, 4, 5, 6, 7, 8, 9, 10], [0, 1, 2, 3, 4, 5, 6, 7, 8, 9, 10, 11], [0, 1, 2, 3, 4, 5, 6, 7, 8, 9, 10, 11], [], [0, 1, 2, 3, 4, 5, 6, 7, 8, 9, 10, 11, 12, 14], [0, 1, 2, 3, 4, 5, 6, 7, 8, 9, 10, 11, 12, 13, 14, 15]]) (EK := [6, 8, 1]) (EV := [?e3x0, ?e3x1, ?e3x2]) (VL := [(kv ?v3x0), (kv ?v3x1), (kv ?v3x2), (kv ?v3x3), (kv ?v3x4), (kv ?v3x5), (kv ?v3x6), (kv ?v3x7), (kv ?v3x8), (fun γ => γ 9), (fun γ => γ 10), (fun γ => γ 10), (fun γ => γ 12), (kv ?v3x13), (fun γ => γ 14)]) (FL := fun γ w' => [True, True, True, True, True, True, True, True, True, IsZ w' (γ 9) (ld G).num, TupE w' (γ 10) 0 6, True, IsZ w' (γ 12) 0, True, NewAt w' (γ 14) wr.heap.size #[.bool false, .slice none 0 0] 28]) _ rfl ?hE3 (by kernel_rfl) (by kernel_rfl) (by kernel_rfl) (by kernel_rfl) (by kernel_rfl) (by rfl) (by kernel_rfl) ?hloc3 ?hmono3 ?hstep3 ?htail3 ?hlate3
          case hE3 => refine ⟨?_, ?_, ?_, trivial⟩ <;> (simp only [List.getElem?_toArray, List.getElem?_cons_succ, List.getElem?_cons_zero]; rfl)
          case hstep3 =>
            refine ⟨⟨⟨⟨⟨⟨⟨⟨⟨⟨⟨⟨⟨⟨⟨trivial, ?_⟩, ?_⟩, ?_⟩, ?_⟩, ?_⟩, ?_⟩, ?_⟩, ?_⟩, ?_⟩, ?_⟩, ?_⟩, ?_⟩, ?_⟩, ?_⟩, ?_⟩
            · intro γ w' he hf; clear hf; refine ⟨trivial, ?_⟩; intro R hR
              have hc := he.cells
              go_simp
              (try go_ints); (try (rw [if_neg (by omega)])); (try (rw [if_pos (by omega)])); (try go_simp); (try go_ints)
              refine hR _ _ (Ext.refl _) ?_ trivial
              rfl
            · intro γ w' he hf; clear hf; refine ⟨trivial, ?_⟩; intro R hR
              have hc := he.cells
              go_simp
              (try go_ints); (try (rw [if_neg (by omega)])); (try (rw [if_pos (by omega)])); (try go_simp); (try go_ints)
              refine hR _ _ (Ext.refl _) ?_ trivial
              rfl
            · intro γ w' he hf; clear hf; refine ⟨trivial, ?_⟩; intro R hR
              have hc := he.cells
              go_simp
              (try go_ints); (try (rw [if_neg (by omega)])); (try (rw [if_pos (by omega)])); (try go_simp); (try go_ints)
              refine hR _ _ (Ext.refl _) ?_ trivial
              rfl
            · intro γ w' he hf; clear hf; refine ⟨trivial, ?_⟩; intro R hR
              have hc := he.cells
              go_simp
              (try go_ints); (try (rw [if_neg (by omega)])); (try (rw [if_pos (by omega)])); (try go_simp); (try go_ints)
              refine hR _ _ (Ext.refl _) ?_ trivial
              rfl
            · intro γ w' he hf; clear hf; refine ⟨trivial, ?_⟩; intro R hR
              have hc := he.cells
              go_simp
              (try go_ints); (try (rw [if_neg (by omega)])); (try (rw [if_pos (by omega)])); (try go_simp); (try go_ints)
              refine hR _ _ (Ext.refl _) ?_ trivial
              rfl
            · intro γ w' he hf; clear hf; refine ⟨trivial, ?_⟩; intro R hR
              have hc := he.cells
              go_simp
              (try go_ints); (try (rw [if_neg (by omega)])); (try (rw [if_pos (by omega)])); (try go_simp); (try go_ints)
              refine hR _ _ (Ext.refl _) ?_ trivial
              rfl
            · intro γ w' he hf; clear hf; refine ⟨trivial, ?_⟩; intro R hR
              have hc := he.cells
              go_simp
              (try go_ints); (try (rw [if_neg (by omega)])); (try (rw [if_pos (by omega)])); (try go_simp); (try go_ints)
              refine hR _ _ (Ext.refl _) ?_ trivial
              rfl
            · intro γ w' he hf; clear hf; refine ⟨trivial, ?_⟩; intro R hR
              have hc := he.cells
              have cq0 := he.cell cr0
              have cq1 := he.cell cr1
              go_simp
              (try go_ints); (try (rw [if_neg (by omega)])); (try (rw [if_pos (by omega)])); (try go_simp); (try go_ints)
              refine hR _ _ (Ext.refl _) ?_ trivial
              rfl
            · intro γ w' he hf; clear hf; refine ⟨trivial, ?_⟩; intro R hR
              have hc := he.cells
              go_simp
              (try go_ints); (try (rw [if_neg (by omega)])); (try (rw [if_pos (by omega)])); (try go_simp); (try go_ints)
              refine hR _ _ (Ext.refl _) ?_ trivial
              rfl
            · intro γ w' he hf; clear hf; refine ⟨trivial, ?_⟩; intro R hR
              go_simp
              refine Calls.mono (show Calls _ _ _ w' (Gives w' fun r w'' => IsZ w'' (r) (ld G).num) from lead_z _ w.heap.size G w' (Hz.out.2.ext he) HX.out.2.2.2.2.1) ?_
              rintro e w2 ⟨v, rfl, hv, hx⟩
              exact ⟨v, rfl, hR v w2 hx rfl hv⟩
            · intro γ w' he hf; have f9 : IsZ w' (γ 9) (ld G).num := hf 9 (by decide); clear hf; refine ⟨trivial, ?_⟩; intro R hR
              go_simp
              refine Calls.mono (show Calls _ _ _ w' (Gives w' fun r w'' => TupE w'' (r) 0 6) from exact_zn _ _ _ _ w' ((Hz.out.1.kd he.kd).has (by rw [HD.out.2.1]; exact HQ.out.1 _)) (f9.has HB.out.2.1) HQ.out.2.1 HD.out.1) ?_
              rintro e w2 ⟨v, rfl, hv, hx⟩
              exact ⟨v, rfl, hR v w2 hx rfl hv⟩
            · intro γ w' he hf; have f9 : IsZ w' (γ 9) (ld G).num := hf 9 (by decide); have f10 : TupE w' (γ 10) 0 6 := hf 10 (by decide); clear hf; refine ⟨trivial, ?_⟩; intro R hR
              have hc := he.cells
              go_simp
              (try go_ints); (try (rw [if_neg (by omega)])); (try (rw [if_pos (by omega)])); (try go_simp); (try go_ints)
              refine hR _ _ (Ext.refl _) ?_ trivial
              rfl
            · intro γ w' he hf; have f9 : IsZ w' (γ 9) (ld G).num := hf 9 (by decide); have f10 : TupE w' (γ 10) 0 6 := hf 10 (by decide); clear hf; refine ⟨trivial, ?_⟩; intro R hR
              obtain ⟨a, e, ha⟩ := f10
              go_simp
              exact hR _ _ (Ext.refl _) rfl ha
            · intro γ w' he hf; have f9 : IsZ w' (γ 9) (ld G).num := hf 9 (by decide); have f10 : TupE w' (γ 10) 0 6 := hf 10 (by decide); clear hf; refine ⟨trivial, ?_⟩; intro R hR
              obtain ⟨a, e, ha⟩ := f10
              have hc := he.cells
              go_simp
              (try go_ints); (try (rw [if_neg (by omega)])); (try (rw [if_pos (by omega)])); (try go_simp); (try go_ints)
              refine hR _ _ (Ext.refl _) ?_ trivial
              rfl
            · intro γ w' he hf; clear hf; refine ⟨trivial, ?_⟩; intro R hR
              go_simp
              exact hR _ _ ((Ext.refl _).alloc _) rfl (NewAt.mk (Nat.le_trans (by simp) he.size) (by simp [isDig]))
          case hloc3 =>
            exact ⟨⟨⟨⟨⟨⟨⟨⟨⟨⟨⟨⟨⟨⟨⟨trivial, (fun γ γ' h => ⟨rfl, fun _ => rfl⟩)⟩, (fun γ γ' h => ⟨rfl, fun _ => rfl⟩)⟩, (fun γ γ' h => ⟨rfl, fun _ => rfl⟩)⟩, (fun γ γ' h => ⟨rfl, fun _ => rfl⟩)⟩, (fun γ γ' h => ⟨rfl, fun _ => rfl⟩)⟩, (fun γ γ' h => ⟨rfl, fun _ => rfl⟩)⟩, (fun γ γ' h => ⟨rfl, fun _ => rfl⟩)⟩, (fun γ γ' h => ⟨rfl, fun _ => rfl⟩)⟩, (fun γ γ' h => ⟨rfl, fun _ => rfl⟩)⟩, (fun γ γ' h => ⟨h 9 rfl, fun w' => (congrArg (fun a => IsZ w' (a) (ld G).num) (h 9 rfl))⟩)⟩, (fun γ γ' h => ⟨h 10 rfl, fun w' => (congrArg (fun a => TupE w' (a) 0 6) (h 10 rfl))⟩)⟩, (fun γ γ' h => ⟨(congrArg (fun a => a) (h 10 rfl)), fun _ => rfl⟩)⟩, (fun γ γ' h => ⟨h 12 rfl, fun w' => (congrArg (fun a => IsZ w' (a) 0) (h 12 rfl))⟩)⟩, (fun γ γ' h => ⟨rfl, fun _ => rfl⟩)⟩, (fun γ γ' h => ⟨h 14 rfl, fun w' => (congrArg (fun a => NewAt w' (a) wr.heap.size #[.bool false, .slice none 0 0] 28) (h 14 rfl))⟩)⟩
          case hmono3 =>
            exact ⟨⟨⟨⟨⟨⟨⟨⟨⟨⟨⟨⟨⟨⟨⟨trivial, (fun γ wA w' e h => h)⟩, (fun γ wA w' e h => h)⟩, (fun γ wA w' e h => h)⟩, (fun γ wA w' e h => h)⟩, (fun γ wA w' e h => h)⟩, (fun γ wA w' e h => h)⟩, (fun γ wA w' e h => h)⟩, (fun γ wA w' e h => h)⟩, (fun γ wA w' e h => h)⟩, (fun γ wA w' e h => (show IsZ wA (γ 9) (ld G).num from h).ext e)⟩, (fun γ wA w' e h => (show TupE wA (γ 10) 0 6 from h).ext e)⟩, (fun γ wA w' e h => h)⟩, (fun γ w w' e h => IsZ.ext_ h e)⟩, (fun γ wA w' e h => h)⟩, (fun γ wA w' e h => (show NewAt wA (γ 14) wr.heap.size #[.bool false, .slice none 0 0] 28 from h).ext e)⟩
          case hlate3 =>
            intro γ w3 hx3 hF
            have p9 : IsZ w3 (γ 9) (ld G).num := (Each.get hF 9 (by decide)).resolve_left (by decide)
            have p10 : TupE w3 (γ 10) 0 6 := (Each.get hF 10 (by decide)).resolve_left (by decide)
            have p12 : IsZ w3 (γ 12) 0 := (Each.get hF 12 (by decide)).resolve_left (by decide)
            have p14 : NewAt w3 (γ 14) wr.heap.size #[.bool false, .slice none 0 0] 28 := (Each.get hF 14 (by decide)).resolve_left (by decide)
            clear hF
            simp only [fillAll, gV, kv, List.getD_cons_zero, List.getD_cons_succ, Act.put, List.setIfInBounds_toArray, List.set_cons_zero, List.set_cons_succ, List.toList_toArray, List.drop_succ_cons, List.drop_zero, List.drop_nil, Nat.zero_add, Nat.reduceAdd, lateP, Array.getD_eq_getD_getElem?, List.getElem?_toArray, List.getElem?_cons_succ, List.getElem?_cons_zero, Option.getD_some]
            generalize γ 9 = g9 at *
            generalize γ 10 = g10 at *
            generalize γ 12 = g12 at *
            generalize γ 14 = g14 at *
            clear γ
            obtain ⟨a10, rfl, -⟩ := p10
            obtain ⟨gc, rfl, hgc, ec⟩ := p14
            obtain ⟨b5, A5, n5, c5, rfl⟩ := p12.cells
            clear cr0 cr1 p9 hLP
            obtain ⟨cec0, cec1⟩ := ec.cells2
            have fec := ec.frozen
            go_wp2
            refine ⟨?_, trivial⟩
            go_wp2
            skip
            obtain ⟨W4, eW, ec', U⟩ := ec.put2 (.bool b5) (.slice A5 n5 c5) rfl rfl
            rw [← eW]
            clear eW ec
            replace p12 := p12.kd U.kd
            replace hx3 := U.from_ hx3 (by simp <;> omega)
            have ec := ec'
            clear U ec'
            go_meet
            case rel => exact ⟨gc, rfl, rfl, BoxZ.mk ec p12, hgc, hx3⟩
          intro γ w3 hx3 hF
          have p9 : IsZ w3 (γ 9) (ld G).num := Each.get hF 9 (by decide)
          have p10 : TupE w3 (γ 10) 0 6 := Each.get hF 10 (by decide)
          have p12 : IsZ w3 (γ 12) 0 := Each.get hF 12 (by decide)
          have p14 : NewAt w3 (γ 14) wr.heap.size #[.bool false, .slice none 0 0] 28 := Each.get hF 14 (by decide)
          clear hF
          simp only [fillAll, gV, kv, List.getD_cons_zero, List.getD_cons_succ, Act.put, List.setIfInBounds_toArray, List.set_cons_zero, List.set_cons_succ, List.toList_toArray, List.drop_succ_cons, List.drop_zero, List.drop_nil, Nat.zero_add, Nat.reduceAdd]
          generalize γ 9 = g9 at *
          generalize γ 10 = g10 at *
          generalize γ 12 = g12 at *
          generalize γ 14 = g14 at *
          clear γ
          obtain ⟨a10, rfl, -⟩ := p10
          obtain ⟨gc, rfl, hgc, ec⟩ := p14
          obtain ⟨b5, A5, n5, c5, rfl⟩ := p12.cells
          clear cr0 cr1 p9 hLP
          obtain ⟨cec0, cec1⟩ := ec.cells2
          have fec := ec.frozen
          go_wp2
          skip
          obtain ⟨W4, eW, ec', U⟩ := ec.put2 (.bool b5) (.slice A5 n5 c5) rfl rfl
          rw [← eW]
          clear eW ec
          replace p12 := p12.kd U.kd
          replace hx3 := U.from_ hx3 (by simp <;> omega)
          have ec := ec'
          clear U ec'
          go_meet
          case rel => exact ⟨gc, rfl, rfl, BoxZ.mk ec p12, hgc, hx3⟩
        case rest =>
          clear cr0 cr1 hLP
          obtain ⟨gc, rfl, rfl, -, -, hx3⟩ := hcut
          go_wp2
          go_ret2
          exact Gives.mk ⟨fun h => absurd h HD.out.2.2, fun _ => rfl⟩ (hx.trans hx3)
    · obtain rfl : i = 0 := by omega
      have hm1 : ((0 : Nat) : Int) - 1 = -1 := by omega
      rw [hm1]
      have hfR := HR.out.fin
      have hcR : cz (lzf P R) = R := cz_lzf HR.out.2.2.2.2.2.1 HSP.out
      have hend := HR.out.end_ HX.out.1 HX.out.2.2.1 HX.out.2.2.2.2.1
      have hout := HR.out.out HX.out.1 HX.out.2.2.1 HX.out.2.2.2.2.1
      have hcQ : cz (lzf K Q) = Q := cz_lzf hend.2.2.2 hend.2.2.1
      have hT2 := trimmed_zs w.heap.size (some ⟨w.heap.size, 0, none⟩) l.length (lzf P R) wr (by rw [lzf_len]; exact hc1) (by omega) (er.row (Nat.le_refl _))
      have hT1 := trimmed_zs w.heap.size (some ⟨gq, 0, none⟩) K (lzf K Q) wr (by rw [lzf_len]; exact Nat.le_refl _) (by omega) (eq.row (by omega))
      rw [lzf_len] at hT1 hT2
      rw [trimZ_pl, hcR] at hT2
      have HE := Lib.hid (And.intro (eq.row (base := w.heap.size) (by omega)) (And.intro hcQ (And.intro hend (And.intro hout hfR))))
      clear er eq eg hm1 hcR hcQ hend hout hfR
      go_wp2_with fail
      refine Calls.mono hT2 ?_
      rintro e w3 ⟨rfl, rfl⟩
      by_cases hz : R = pz
      · have h0 : pl R = 0 := by rw [hz, pl_pz]
        have hyes := HE.out.2.2.2.1.2 hz
        have HY := Lib.hid hyes; clear hz hyes
        rw [h0]
        go_wp2_with fail
        refine Calls.mono hT1 ?_
        rintro e w3 ⟨rfl, rfl⟩
        go_wp2
        go_ret2
        exact Gives.mk ⟨fun _ => ⟨_, rfl, by
          rw [← HE.out.2.2.1.1]
          exact IsZP.of_trim (ZsV.trim HE.out.1 (by rw [lzf_len]; exact Nat.le_refl _) (by omega)) HE.out.2.1⟩, fun h => absurd HY.out h⟩ hx
      · have h0 : 0 < pl R := pl_pos HE.out.2.2.2.2 hz
        have hno : ¬ Zdv F G := fun h => hz (HE.out.2.2.2.1.1 h)
        have HY := Lib.hid hno; clear hz hno
        go_wp2
        go_ret2
        exact Gives.mk ⟨fun h => absurd h HY.out, fun _ => rfl⟩ hx
end Go.Proofs.YtfacbpnegkjcgaaGreatDoor
namespace Go.Hp
open Go
section
variable {P : Program} {ops : Array Oper} {Q : Exit → Act → World → Prop} {a0 : Act} {W0 : World}
  {k ℓ : Nat} {D : List Nat} {T : List (List Nat)} {EK : List Nat} {EV : List Value} {V : (Nat → Value) → Nat → Value} {F : Nat → (Nat → Value) → World → Prop}
end
end Go.Hp
namespace Go.Hp
/-- D is the greatest common divisor of F and G over the integers. -/
def IsZG (F G D : Nat → Rat) : Prop := Fin_ D ∧ ZI D ∧ (D ≠ pz → 0 < ld D) ∧ cn D = Nat.gcd (cn F) (cn G) ∧ IsG F G (mn D)
structure GzSt (F0 G0 : Nat → Rat) (D S : Nat) (A B : Nat → Rat) : Prop where
  fA : Fin_ A
  fB : Fin_ B
  zA : ZI A
  zB : ZI B
  pA : pp A = A
  pB : pp B = B
  dv : ∀ E, Fin_ E → (Dv E A ∧ Dv E B ↔ Dv E F0 ∧ Dv E G0)
  deg : pl A + pl B ≤ D
  qA : ∀ i, qsz (A i) + 1 ≤ (S + 1) * 2 ^ (D - (pl A + pl B))
  qB : ∀ i, qsz (B i) + 1 ≤ (S + 1) * 2 ^ (D - (pl A + pl B))
theorem dv_psc_iff {a : Rat} (ha : a ≠ 0) {E F : Nat → Rat} : Dv E (psc a F) ↔ Dv E F :=
  ⟨fun h => by have := h.psc (1 / a); rwa [psc_inv ha] at this, fun h => h.psc a⟩
theorem dv_pp_iff {E F : Nat → Rat} (z : ZI F) (f : Fin_ F) : Dv E (pp F) ↔ Dv E F := by
  by_cases h0 : F = pz
  · rw [h0, pp_pz]
  · have hn : (1 : Rat) / (pcn F : Rat) ≠ 0 := inv_ne (by have := pcn_ne z f h0; exact_mod_cast this)
    exact dv_psc_iff hn
theorem GzSt.start {F G : Nat → Rat} {S : Nat} (fF : Fin_ F) (fG : Fin_ G) (zF : ZI F) (zG : ZI G) (qF : ∀ i, qsz (F i) ≤ S) (qG : ∀ i, qsz (G i) ≤ S) : GzSt F G (pl F + pl G) S (pp F) (pp G) where
  fA := pp_fin fF
  fB := pp_fin fG
  zA := pp_zi zF fF
  zB := pp_zi zG fG
  pA := pp_pp zF fF
  pB := pp_pp zG fG
  dv := fun E _ => by rw [dv_pp_iff zF fF, dv_pp_iff zG fG]
  deg := by rw [pp_pl zF fF, pp_pl zG fG]; exact Nat.le_refl _
  qA := fun i => by have := pp_qsz zF fF qF i; have h : 0 < 2 ^ (pl F + pl G - (pl (pp F) + pl (pp G))) := Nat.pow_pos (by decide); have := Nat.le_mul_of_pos_right (S + 1) h; omega
  qB := fun i => by have := pp_qsz zG fG qG i; have h : 0 < 2 ^ (pl F + pl G - (pl (pp F) + pl (pp G))) := Nat.pow_pos (by decide); have := Nat.le_mul_of_pos_right (S + 1) h; omega
theorem GzSt.room {F0 G0 A B : Nat → Rat} {D S : Nat} (h : GzSt F0 G0 D S A B) {R : Nat → Rat} (hR : R = psR A B (pl A + 1 - pl B)) :
    (∀ i, qsz (A i) ≤ (S + 1) * 2 ^ D) ∧ (∀ i, qsz (B i) ≤ (S + 1) * 2 ^ D) ∧ (∀ i, qsz (R i) + 1 ≤ (S + 1) * 2 ^ (D - (pl A + pl B) + (pl A + 1 - pl B))) := by
  have up : ∀ a : Nat, a ≤ D → (S + 1) * 2 ^ a ≤ (S + 1) * 2 ^ D := fun a ha => Nat.mul_le_mul_left _ (Nat.pow_le_pow_right (by decide) ha)
  have h1 := up (D - (pl A + pl B)) (by omega)
  refine ⟨fun i => by have := h.qA i; omega, fun i => by have := h.qB i; omega, fun i => ?_⟩
  obtain ⟨M, hM⟩ : ∃ M, M = (S + 1) * 2 ^ (D - (pl A + pl B)) := ⟨_, rfl⟩
  have hp : 0 < M := by rw [hM]; exact Nat.mul_pos (by omega) (Nat.pow_pos (by decide))
  have h2 := psR_qsz (s := M - 1) (t := M - 1) h.zA h.zB (fun i => by have := h.qA i; omega) (fun i => by have := h.qB i; omega) (pl A + 1 - pl B) i
  rw [← hR] at h2
  rw [Nat.pow_add, ← Nat.mul_assoc, ← hM]
  have h3 := two_le_pow (pl A + 1 - pl B)
  have h4 : M * (pl A + 1 - pl B + 1) ≤ M * 2 ^ (pl A + 1 - pl B) := Nat.mul_le_mul_left _ h3
  rw [Nat.mul_succ, Nat.mul_comm M] at h4
  rw [show M - 1 + 1 = M from by omega] at h2
  omega
theorem psR_fin {F G : Nat → Rat} (hF : Fin_ F) (hG : Fin_ G) (h0 : G ≠ pz) : Fin_ (psR F G (pl F + 1 - pl G)) := by
  rw [(psR_end hF hG h0).2]; exact (pr_fin hF hG).psc _
theorem psR_top {F G : Nat → Rat} (hF : Fin_ F) (hG : Fin_ G) (h0 : G ≠ pz) : pl (psR F G (pl F + 1 - pl G)) < pl G := by
  have hp := pl_pos hG h0
  have := pl_le (((pr_sup hF hG h0).psc (ld G ^ (pl F + 1 - pl G))))
  rw [← (psR_end hF hG h0).2] at this
  omega
theorem GzSt.step {F0 G0 A B : Nat → Rat} {D S : Nat} (h : GzSt F0 G0 D S A B) (h0 : B ≠ pz) {R : Nat → Rat} (hR : R = psR A B (pl A + 1 - pl B)) :
    GzSt F0 G0 D S B (pp R) ∧ pl (pp R) < pl B := by
  have hfR : Fin_ R := by rw [hR]; exact psR_fin h.fA h.fB h0
  have hzR : ZI R := by rw [hR]; exact psR_zi h.zA h.zB _
  have htop : pl R < pl B := by rw [hR]; exact psR_top h.fA h.fB h0
  have hplR := pp_pl hzR hfR
  have hq : ∀ i, qsz (R i) + 1 ≤ (S + 1) * 2 ^ (D - (pl B + pl (pp R))) ∧ pl B + pl (pp R) ≤ D := fun i => by
    rw [hplR]
    have hd := h.deg
    rcases Nat.lt_or_ge (pl A) (pl B) with a | a
    · have e : R = A := by rw [hR, show pl A + 1 - pl B = 0 from by omega]; rfl
      rw [e]
      have := h.qA i
      rw [Nat.add_comm (pl B)]
      exact ⟨this, hd⟩
    · have h2 := (h.room hR).2.2 i
      exact ⟨Nat.le_trans h2 (Nat.mul_le_mul_left _ (Nat.pow_le_pow_right (by decide) (by omega))), by omega⟩
  refine ⟨⟨h.fB, pp_fin hfR, h.zB, pp_zi hzR hfR, h.pB, pp_pp hzR hfR, fun E hE => ?_, (hq 0).2, fun i => ?_, fun i => ?_⟩, by omega⟩
  · rw [dv_pp_iff hzR hfR, ← h.dv E hE]
    have hl := pow_ne (ld_ne h.fB h0) (pl A + 1 - pl B)
    rw [hR, (psR_end h.fA h.fB h0).2, dv_psc_iff hl, dv_step]
  · have h1 := h.qB i
    have := h.deg
    have h2 := (hq 0).2
    refine Nat.le_trans h1 (Nat.mul_le_mul_left _ (Nat.pow_le_pow_right (by decide) ?_))
    rcases Nat.lt_or_ge (pl A) (pl B) with a | a
    · have e : R = A := by rw [hR, show pl A + 1 - pl B = 0 from by omega]; rfl
      rw [hplR, e]; omega
    · omega
  · have h1 := pp_qsz hzR hfR (s := (S + 1) * 2 ^ (D - (pl B + pl (pp R))) - 1) (fun i => by have := (hq i).1; omega) i
    have := (hq i).1
    omega
theorem mn_psc {a : Rat} (ha : a ≠ 0) {F : Nat → Rat} (h : Fin_ F) : mn (psc a F) = mn F := by
  by_cases h0 : F = pz
  · rw [h0, psc_pz]
  · have hl := ld_ne h h0
    unfold mn
    rw [ld_psc ha h, psc_psc]
    congr 1
    grind
theorem psc_zero (F : Nat → Rat) : psc 0 F = pz := by funext n; simp only [psc, pz]; grind
theorem mn_eq_pz {F : Nat → Rat} (h : Fin_ F) (e : mn F = pz) : F = pz := (pl_zero h).1 (by rw [← mn_pl h, e, pl_pz])
theorem GzSt.end_ {F0 G0 A B : Nat → Rat} {D S : Nat} (h : GzSt F0 G0 D S A B) (fF : Fin_ F0) (fG : Fin_ G0) (zF : ZI F0) (zG : ZI G0) (h0 : B = pz) :
    IsZG F0 G0 (psc ((Nat.gcd (cn F0) (cn G0) : Nat) : Rat) A) := by
  have hg : IsG F0 G0 (mn A) := by
    subst h0
    exact (IsG.zero h.fA).of h.dv
  obtain ⟨c, hc⟩ : ∃ c, c = Nat.gcd (cn F0) (cn G0) := ⟨_, rfl⟩
  rw [← hc]
  by_cases hc0 : c = 0
  · have e1 : cn F0 = 0 := Nat.eq_zero_of_gcd_eq_zero_left (hc.symm.trans hc0)
    have e2 : cn G0 = 0 := Nat.eq_zero_of_gcd_eq_zero_right (hc.symm.trans hc0)
    have z1 : F0 = pz := Classical.byContradiction fun hn => cn_ne zF fF hn e1
    have z2 : G0 = pz := Classical.byContradiction fun hn => cn_ne zG fG hn e2
    rw [hc0]
    show IsZG F0 G0 (psc ((0 : Nat) : Rat) A)
    rw [show ((0 : Nat) : Rat) = 0 from rfl, psc_zero, z1, z2]
    refine ⟨Fin_.pz, ZI.pz, fun hn => absurd rfl hn, by rw [cn_pz]; rfl, ?_⟩
    exact IsG.zero Fin_.pz
  · have hcr : ((c : Nat) : Rat) ≠ 0 := by exact_mod_cast hc0
    have hA : A ≠ pz := fun e => by
      rw [e, mn_pz] at hg
      have z1 := dv_pz hg.2.2.1
      have z2 := dv_pz hg.2.2.2.1
      rw [z1, z2, cn_pz] at hc
      exact hc0 hc
    have e1 : cn A = 1 := by rw [← h.pA]; exact cn_pp h.zA h.fA hA
    have e2 : 0 < ld A := by rw [← h.pA]; exact pp_lead h.zA h.fA hA
    have ci : ((c : Nat) : Rat) = (((c : Nat) : Int) : Rat) := rfl
    refine ⟨h.fA.psc _, by rw [ci]; exact h.zA.psc _, fun _ => ?_, ?_, by rw [mn_psc hcr h.fA]; exact hg⟩
    · rw [ld_psc hcr h.fA]
      refine Rat.mul_pos ?_ e2
      exact_mod_cast Nat.pos_of_ne_zero hc0
    · rw [ci, cn_psc (by exact_mod_cast hc0) h.zA h.fA, e1, ← hc]; simp
theorem IsZG.uniq {F G D E : Nat → Rat} (h : IsZG F G D) (k : IsZG F G E) : D = E := by
  obtain ⟨f1, z1, l1, c1, g1⟩ := h
  obtain ⟨f2, z2, l2, c2, g2⟩ := k
  have e := g1.uniq g2
  by_cases hD : D = pz
  · have : E = pz := mn_eq_pz f2 (by rw [← e, hD, mn_pz])
    rw [hD, this]
  have hE : E ≠ pz := fun hE => hD (mn_eq_pz f1 (by rw [e, hE, mn_pz]))
  have hcD := cn_ne z1 f1 hD
  -- E = a D with a positive; the contents agree
  have lD := l1 hD; have lE := l2 hE
  have hDl := ld_ne f1 hD; have hEl := ld_ne f2 hE
  have e1 : psc (ld E) D = psc (ld D) E := by
    funext n
    have := congrFun e n
    show ld E * D n = ld D * E n
    simp only [mn, psc] at this
    have h1 : ld D * ld E * (1 / ld D * D n) = ld D * ld E * (1 / ld E * E n) := by rw [this]
    grind
  obtain ⟨x, hx⟩ : ∃ x : Int, ld D = (x : Rat) := z1 _
  obtain ⟨y, hy⟩ : ∃ y : Int, ld E = (y : Rat) := z2 _
  have hx0 : 0 < x := by rw [hx] at lD; exact_mod_cast lD
  have hy0 : 0 < y := by rw [hy] at lE; exact_mod_cast lE
  have e2 : cn (psc (ld E) D) = cn (psc (ld D) E) := by rw [e1]
  rw [hx, hy, cn_psc (by omega) z1 f1, cn_psc (by omega) z2 f2, c1, c2, ← c1] at e2
  have e3 : y.natAbs = x.natAbs := Nat.eq_of_mul_eq_mul_right (Nat.pos_of_ne_zero hcD) e2
  have e4 : x = y := by omega
  have : ld D = ld E := by rw [hx, hy, e4]
  rw [this] at e1
  funext n
  have := congrFun e1 n
  simp only [psc] at this
  grind
theorem zi_quot {F Q D : Nat → Rat} (zF : ZI F) (fF : Fin_ F) (zD : ZI D) (fD : Fin_ D) (hD : D ≠ pz) (fQ : Fin_ Q) (e : F = cv Q D) (hc : cn D ∣ cn F) : ZI Q := by
  obtain ⟨n, hs⟩ := fQ
  have fQ : Fin_ Q := ⟨n, hs⟩
  have zC := clr_zi hs
  have fC := clr_fin (n := n) fQ
  have e1 : psc (((dl n Q : Nat) : Int) : Rat) F = cv (clr n Q) D := by
    rw [e]; unfold clr; rw [psc_cv]; rfl
  have hdl := dl_pos Q n
  have e2 : cn (psc (((dl n Q : Nat) : Int) : Rat) F) = cn (cv (clr n Q) D) := by rw [e1]
  rw [cn_psc (by omega) zF fF, gauss zC zD fC fD, Int.natAbs_natCast] at e2
  obtain ⟨m, hm⟩ := hc
  have hcD := Nat.pos_of_ne_zero (cn_ne zD fD hD)
  have e3 : dl n Q * m = cn (clr n Q) := by
    refine Nat.eq_of_mul_eq_mul_right hcD ?_
    rw [← e2, hm, Nat.mul_assoc, Nat.mul_comm m]
  intro i
  have h1 := cn_dvd fC i
  have h2 : ((dl n Q : Nat) : Int) ∣ (clr n Q i).num := Int.dvd_trans ⟨(m : Int), by rw [← e3]; simp⟩ h1
  obtain ⟨k, hk⟩ := h2
  refine ⟨k, ?_⟩
  have h3 := zC.num i
  rw [hk, Rat.intCast_mul] at h3
  have h4 : clr n Q i = ((dl n Q : Nat) : Rat) * Q i := rfl
  rw [h4] at h3
  have h5 := dl_ne n Q
  have h6 : (((dl n Q : Nat) : Int) : Rat) = ((dl n Q : Nat) : Rat) := rfl
  rw [h6] at h3
  grind
theorem IsZG.zdv {F G D : Nat → Rat} (h : IsZG F G D) (zF : ZI F) (fF : Fin_ F) (hD : D ≠ pz) : Zdv F D := by
  obtain ⟨f1, z1, l1, c1, g1⟩ := h
  obtain ⟨Q, fQ, e⟩ := g1.2.2.1
  have e1 : F = cv (psc (1 / ld D) Q) D := by rw [e]; unfold mn; rw [cv_psc, psc_cv]
  exact ⟨_, zi_quot zF fF z1 f1 hD (fQ.psc _) e1 (by rw [c1]; exact Nat.gcd_dvd_left _ _), fQ.psc _, e1⟩
theorem IsG.symm_ {F G D : Nat → Rat} (h : IsG F G D) : IsG G F D := ⟨h.1, h.2.1, h.2.2.2.1, h.2.2.1, fun E hE a b => h.2.2.2.2 E hE b a⟩
theorem IsZG.symm_ {F G D : Nat → Rat} (h : IsZG F G D) : IsZG G F D := ⟨h.1, h.2.1, h.2.2.1, by rw [Nat.gcd_comm]; exact h.2.2.2.1, h.2.2.2.2.symm_⟩
theorem bez_ex : ∀ (n : Nat) {F G : Nat → Rat}, Fin_ F → Fin_ G → pl G ≤ n → ∃ U V D, Fin_ U ∧ Fin_ V ∧ IsG F G D ∧ pad (cv U F) (cv V G) = D := by
  intro n
  induction n with
  | zero =>
    intro F G fF fG hn
    have : G = pz := (pl_zero fG).1 (by omega)
    subst this
    refine ⟨psc (1 / ld F) pone, pz, mn F, Fin_.psc _ ⟨1, (Sup.pz 0).cs 1⟩, Fin_.pz, IsG.zero fF, ?_⟩
    rw [psc_cv, pone_cv, pz_cv]
    funext m; simp only [pad, pz, mn]; grind
  | succ n ih =>
    intro F G fF fG hn
    by_cases h0 : G = pz
    · exact ih fF fG (by rw [h0, pl_pz]; omega)
    · have hp := pl_pos fG h0
      have hr := pl_le (pr_sup fF fG h0)
      obtain ⟨U, V, D, fU, fV, hg, e⟩ := ih fG (pr_fin fF fG) (by omega)
      refine ⟨V, psb U (cv V (pq F G)), D, fV, fU.psb (fV.cv (pq_fin F G)), hg.of fun E hE => dv_step, ?_⟩
      rw [← e]
      have e1 : cv V F = pad (cv V (cv (pq F G) G)) (cv V (pr F G)) := by
        have h2 : cv V F = cv V (pad (cv (pq F G) G) (pr F G)) := by rw [← pq_pr F G]
        rw [h2, cv_pad]
      rw [e1, psb_cv, cv_assoc]
      funext m; simp only [pad, psb]; grind
theorem IsG.bez {F G D : Nat → Rat} (fF : Fin_ F) (fG : Fin_ G) (h : IsG F G D) : ∃ U V, Fin_ U ∧ Fin_ V ∧ pad (cv U F) (cv V G) = D := by
  obtain ⟨U, V, D', fU, fV, hg, e⟩ := bez_ex (pl G) fF fG (Nat.le_refl _)
  exact ⟨U, V, fU, fV, by rw [h.uniq hg]; exact e⟩
theorem Dv.cvr {D F : Nat → Rat} (h : Dv D F) (H : Nat → Rat) : Dv (Hp.cv D H) (Hp.cv F H) := by
  obtain ⟨Q, fQ, e⟩ := h
  exact ⟨Q, fQ, by rw [e, cv_assoc]⟩
theorem isG_common {F G D H P : Nat → Rat} (fF : Fin_ F) (fG : Fin_ G) (fH : Fin_ H) (h : IsG F G (mn D)) (fD : Fin_ D) {a : Rat} (ha : a ≠ 0) (hP : P = psc a (cv D H)) : IsG (cv F H) (cv G H) (mn P) := by
  have fP : Fin_ P := by rw [hP]; exact (fD.cv fH).psc a
  refine ⟨mn_fin fP, fun hn => mn_ld fP (fun e => hn (by rw [e, mn_pz])), ?_, ?_, fun E hE k1 k2 => ?_⟩
  · have h1 : Dv (cv D H) (cv F H) := ((dv_mn D).trans h.2.2.1).cvr H
    have h2 : Dv (mn P) (cv D H) := by
      rw [hP, mn_psc ha (fD.cv fH)]; exact mn_dv (fD.cv fH)
    exact h2.trans h1
  · have h1 : Dv (cv D H) (cv G H) := ((dv_mn D).trans h.2.2.2.1).cvr H
    have h2 : Dv (mn P) (cv D H) := by
      rw [hP, mn_psc ha (fD.cv fH)]; exact mn_dv (fD.cv fH)
    exact h2.trans h1
  · obtain ⟨U, V, fU, fV, e⟩ := h.bez fF fG
    have h1 : Dv E (cv (mn D) H) := by
      rw [← e, pad_cv, cv_assoc, cv_assoc]
      exact (k1.mul fU).pad (k2.mul fV)
    have h2 : Dv E (cv D H) := by
      obtain ⟨Q, fQ, e2⟩ := mn_dv fD
      rw [e2, cv_assoc]; exact h1.mul fQ
    rw [dv_mn_iff fP, hP, dv_psc_iff ha]; exact h2
theorem IsZG.common {F G D H E : Nat → Rat} (fF : Fin_ F) (fG : Fin_ G) (zF : ZI F) (zG : ZI G) (fH : Fin_ H) (zH : ZI H) (h : IsZG F G D) (k : IsZG (cv F H) (cv G H) E) : E = cv D H ∨ E = psc ((-1 : Int) : Rat) (cv D H) := by
  obtain ⟨f1, z1, l1, c1, g1⟩ := h
  have hcn : ∀ a : Int, a.natAbs = 1 → cn (psc (a : Rat) (cv D H)) = Nat.gcd (cn (cv F H)) (cn (cv G H)) := fun a ha => by
    rw [cn_psc (by omega) (z1.cv zH) (f1.cv fH), ha, Nat.one_mul, gauss z1 zH f1 fH, gauss zF zH fF fH, gauss zG zH fG fH, c1, Nat.gcd_mul_right]
  have key : ∀ a : Int, a.natAbs = 1 → (cv D H ≠ pz → 0 < (a : Rat) * ld (cv D H)) → E = psc (a : Rat) (cv D H) := fun a ha hl => by
    have ha0 : (a : Rat) ≠ 0 := by
      have : a ≠ 0 := by omega
      exact_mod_cast this
    refine k.uniq ⟨(f1.cv fH).psc _, (z1.cv zH).psc a, fun hn => ?_, hcn a ha, isG_common fF fG fH g1 f1 ha0 rfl⟩
    rw [ld_psc ha0 (f1.cv fH)]
    exact hl fun e => hn (by rw [e, psc_pz])
  by_cases hp : 0 < ld (cv D H)
  · refine .inl ?_
    have := key 1 rfl (fun _ => by simpa using hp)
    rwa [show (((1 : Int)) : Rat) = 1 from rfl, psc_one] at this
  · refine .inr (key (-1) rfl (fun hn => ?_))
    have := ld_ne (f1.cv fH) hn
    have e : (((-1 : Int)) : Rat) = -1 := rfl
    rw [e]
    have h2 : ld (cv D H) < 0 := Rat.lt_of_le_of_ne (Rat.not_lt.1 hp) this
    grind
theorem GzSt.run {F0 G0 : Nat → Rat} {D S : Nat} : ∀ (n : Nat) {A B : Nat → Rat}, GzSt F0 G0 D S A B → pl B ≤ n → ∃ A', GzSt F0 G0 D S A' pz := by
  intro n
  induction n with
  | zero =>
    intro A B h hn
    have : B = pz := (pl_zero h.fB).1 (by omega)
    subst this
    exact ⟨A, h⟩
  | succ n ih =>
    intro A B h hn
    by_cases h0 : B = pz
    · subst h0; exact ⟨A, h⟩
    · obtain ⟨h1, h2⟩ := h.step h0 rfl
      exact ih h1 (by omega)
open Classical in
/-- The greatest common divisor over the integers. -/
noncomputable def zgc (F G : Nat → Rat) : Nat → Rat := if h : ∃ D, IsZG F G D then h.choose else pz
theorem zgc_eq {F G D : Nat → Rat} (h : IsZG F G D) : zgc F G = D := by
  have hx : ∃ D, IsZG F G D := ⟨D, h⟩
  unfold zgc
  rw [dif_pos hx]
  exact hx.choose_spec.uniq h
theorem one_le_qsz (q : Rat) : 1 ≤ qsz q := by
  unfold qsz
  have := sz_pos (n := q.den) (by have := q.den_pos; omega)
  omega
theorem zgc_all {F G : Nat → Rat} {S : Nat} (fF : Fin_ F) (fG : Fin_ G) (zF : ZI F) (zG : ZI G) (qF : ∀ i, qsz (F i) ≤ S) (qG : ∀ i, qsz (G i) ≤ S) : IsZG F G (zgc F G) ∧ ∀ i, qsz (zgc F G i) ≤ S + (S + 1) * 2 ^ (pl F + pl G) := by
  obtain ⟨A, h⟩ := (GzSt.start fF fG zF zG qF qG).run (pl (pp G)) (Nat.le_refl _)
  have h1 := h.end_ fF fG zF zG rfl
  have h2 := zgc_eq h1
  rw [h2]
  refine ⟨h1, fun i => ?_⟩
  have h3 := qsz_mul (((Nat.gcd (cn F) (cn G) : Nat)) : Rat) (A i)
  have h4 := (h.room rfl).1 i
  have h5 : qsz (((Nat.gcd (cn F) (cn G) : Nat)) : Rat) ≤ S := by
    show qsz ((((Nat.gcd (cn F) (cn G) : Nat) : Int)) : Rat) ≤ S
    rw [qsz_cast]
    have a1 := one_le_qsz (F 0)
    have a2 := qF 0
    have b1 := cn_sz qF (pl F)
    have b2 : sz (Nat.gcd (cn F) (cn G)) ≤ S := by
      by_cases e : cn F = 0
      · have b3 := cn_sz qG (pl G)
        rw [e, Nat.gcd_zero_left]; exact b3
      · exact Nat.le_trans (sz_mono (Nat.gcd_le_left _ (Nat.pos_of_ne_zero e))) b1
    simp only [Int.natAbs_natCast]
    omega
  show qsz ((((Nat.gcd (cn F) (cn G) : Nat)) : Rat) * A i) ≤ _
  omega
theorem zgc_pl {F G : Nat → Rat} {S : Nat} (fF : Fin_ F) (fG : Fin_ G) (zF : ZI F) (zG : ZI G) (qF : ∀ i, qsz (F i) ≤ S) (qG : ∀ i, qsz (G i) ≤ S) : pl (zgc F G) ≤ max (pl F) (pl G) := by
  have h := (zgc_all fF fG zF zG qF qG).1
  have hm := mn_pl h.1
  by_cases hF : F = pz
  · by_cases hG : G = pz
    · have : cn (zgc F G) = 0 := by rw [h.2.2.2.1, hF, hG, cn_pz]; rfl
      have hz : zgc F G = pz := Classical.byContradiction fun hn => cn_ne h.2.1 h.1 hn this
      rw [hz, pl_pz]; omega
    · have := Dv.le (mn_fin h.1) fG hG h.2.2.2.2.2.2.2.1
      omega
  · have := Dv.le (mn_fin h.1) fF hF h.2.2.2.2.2.2.1
    omega
end Go.Hp
namespace Go.Hp
open Go.RowKit
/-- Quotient and remainder of two integers. -/
def TupZ2 (w : World) (v : Value) (x y : Int) : Prop := ∃ a b, v = .tuple #[a, b] ∧ IsZ w a x ∧ IsZ w b y
theorem TupZ2.ext {w w' : World} {v : Value} {x y : Int} (h : TupZ2 w v x y) (k : Ext w w') : TupZ2 w' v x y := by
  obtain ⟨a, b, h1, h2, h3⟩ := h; exact ⟨a, b, h1, h2.kd k.kd, h3.kd k.kd⟩
theorem ZdSt.lower {F G : Nat → Rat} {n s t i j : Nat} {Q R : Nat → Rat} (h : ZdSt F G n s t i Q R) (hj : j ≤ i) (hs : Sup (j + pl G - 1) R) : ZdSt F G n s t j Q R :=
  ⟨fun m hm => h.1 m (by omega), h.2.1, hs, h.2.2.2.1, h.2.2.2.2.1, h.2.2.2.2.2.1, fun m => by
    have h1 := h.2.2.2.2.2.2 m
    have h2 : (n - i) * (t + 1) ≤ (n - j) * (t + 1) := Nat.mul_le_mul_right _ (by omega)
    omega⟩
end Go.Hp
namespace Go.Proofs.YtfacbpnegkjcgaaGreatDoor
open Go.RowKit Go.Hp
end Go.Proofs.YtfacbpnegkjcgaaGreatDoor
namespace Go.Hp
open Go.RowKit
/-- The state of the reference's pseudo-division behind j rounds. -/
structure PrSt (F G : Nat → Rat) (n s t j : Nat) (Q R : Nat → Rat) : Prop where
  eq : psc (ld G ^ j) F = pad (cv Q G) R
  zQ : ZI Q
  zR : ZI R
  fQ : Sup n Q
  fR : Fin_ R
  deg : pl R + j ≤ pl F
  qQ : ∀ i, qsz (Q i) ≤ s + j * (t + 1)
  qR : ∀ i, qsz (R i) ≤ s + j * (t + 1)
theorem PrSt.start {F G : Nat → Rat} {n s t : Nat} (hF : Fin_ F) (hz : ZI F) (hs : ∀ i, qsz (F i) ≤ s) : PrSt F G n s t 0 pz F where
  eq := by rw [Rat.pow_zero, psc_one, pz_cv]; funext m; simp only [pad, pz]; grind
  zQ := ZI.pz
  zR := hz
  fQ := Sup.pz n
  fR := hF
  deg := Nat.le_refl _
  qQ := fun i => by have h1 := one_le_qsz (F 0); have h2 := hs 0; show qsz 0 ≤ _; have : qsz (0 : Rat) = 1 := by decide
                    omega
  qR := fun i => by have := hs i; omega
theorem PrSt.step {F G : Nat → Rat} {n s t j : Nat} {Q R : Nat → Rat} (h : PrSt F G n s t j Q R) (hn : n = pl F + 1 - pl G) (fG : Fin_ G) (h0 : G ≠ pz) (zG : ZI G) (ht : ∀ i, qsz (G i) ≤ t) (hl : pl G ≤ pl R) {k : Nat} (hk : k = pl R - pl G) {x : Int} (hx : (x : Rat) = R (pl R - 1)) :
    PrSt F G n s t (j + 1) (pad (psc (ld G) Q) (mono k (x : Rat))) (psb (psc (ld G) R) (cv (mono k (x : Rat)) G)) ∧ pl (psb (psc (ld G) R) (cv (mono k (x : Rat)) G)) < pl R := by
  have hp := pl_pos fG h0
  have hld := ld_ne fG h0
  have zl : ∃ y : Int, ld G = (y : Rat) := zG _
  obtain ⟨y, hy⟩ := zl
  have hsup : Sup (k + pl G) (psc (ld G) R) := ((pl_sup h.fR).mono (by omega)).psc _
  have e1 : (x : Rat) = psc (ld G) R (k + pl G - 1) / ld G := by
    show _ = ld G * R (k + pl G - 1) / ld G
    rw [show k + pl G - 1 = pl R - 1 from by omega, ← hx]; grind
  have hs2 : Sup (k + pl G - 1) (psb (psc (ld G) R) (cv (mono k (x : Rat)) G)) := by
    rw [e1]; exact div_step fG h0 hsup
  have hle := pl_le hs2
  have hxq : qsz (x : Rat) ≤ s + j * (t + 1) := by rw [hx]; exact h.qR _
  have hlq : qsz (ld G) ≤ t := ht _
  have hj : (j + 1) * (t + 1) = j * (t + 1) + (t + 1) := Nat.succ_mul _ _
  have o1 : qsz (0 : Rat) = 1 := by decide
  have zsR : ZI (psc (ld G) R) := by rw [hy]; exact h.zR.psc y
  have zsQ : ZI (psc (ld G) Q) := by rw [hy]; exact h.zQ.psc y
  refine ⟨⟨?_, zsQ.pad (ZI.mono k x), zsR.psb ((ZI.mono k x).cv zG), (h.fQ.psc _).pad ((mono_sup k _).mono (by have := h.deg; omega)), ⟨_, hs2⟩, by have := h.deg; omega, fun i => ?_, fun i => ?_⟩, by omega⟩
  · have e2 : psc (ld G ^ (j + 1)) F = psc (ld G) (psc (ld G ^ j) F) := by
      rw [psc_psc, Rat.pow_succ, Rat.mul_comm]
    rw [e2, h.eq, pad_cv, psc_cv]
    funext m; simp only [psc, pad, psb]; grind
  · have a1 := qsz_addz zsQ (ZI.mono k x) i i
    have a2 : qsz (psc (ld G) Q i) ≤ qsz (ld G) + qsz (Q i) := qsz_mul _ _
    have a3 := h.qQ i
    have a4 : qsz (mono k (x : Rat) i) ≤ s + j * (t + 1) := by
      unfold mono; split
      · exact hxq
      · have := one_le_qsz (x : Rat); omega
    show qsz (psc (ld G) Q i + mono k (x : Rat) i) ≤ _
    omega
  · have a1 := qsz_subz zsR ((ZI.mono k x).cv zG) i i
    have a2 : qsz (psc (ld G) R i) ≤ qsz (ld G) + qsz (R i) := qsz_mul _ _
    have a3 := h.qR i
    have a4 : qsz (cv (mono k (x : Rat)) G i) ≤ qsz (x : Rat) + t := by
      rw [mono_cv]
      show qsz ((x : Rat) * sh k G i) ≤ _
      have b1 := qsz_mul (x : Rat) (sh k G i)
      have b2 : qsz (sh k G i) ≤ t := by
        unfold sh; split
        · have := one_le_qsz (ld G); omega
        · exact ht _
      omega
    show qsz (psc (ld G) R i - cv (mono k (x : Rat)) G i) ≤ _
    omega
theorem rpow_add (a : Rat) (m : Nat) : ∀ n : Nat, a ^ (m + n) = a ^ m * a ^ n
  | 0 => by rw [Nat.add_zero, Rat.pow_zero, Rat.mul_one]
  | n + 1 => by rw [← Nat.add_assoc, Rat.pow_succ, rpow_add a m n, Rat.pow_succ, Rat.mul_assoc]
theorem PrSt.end_ {F G : Nat → Rat} {n s t j : Nat} {Q R : Nat → Rat} (h : PrSt F G n s t j Q R) (hn : n = pl F + 1 - pl G) (fF : Fin_ F) (fG : Fin_ G) (h0 : G ≠ pz) (hl : pl R < pl G) (hj : j ≤ n) :
    psc (ld G ^ (n - j)) Q = psQ F G n ∧ psc (ld G ^ (n - j)) R = psR F G n := by
  have hp := pl_pos fG h0
  have e1 : psc (ld G ^ n) F = pad (cv (psc (ld G ^ (n - j)) Q) G) (psc (ld G ^ (n - j)) R) := by
    have e2 : ld G ^ n = ld G ^ (n - j) * ld G ^ j := by rw [← rpow_add]; congr 1; omega
    rw [e2, ← psc_psc, h.eq, psc_cv]
    funext m; simp only [psc, pad]; grind
  have e3 : psc (ld G ^ n) F = pad (cv (psc (ld G ^ n) (pq F G)) G) (psc (ld G ^ n) (pr F G)) := by
    rw [psc_cv]
    have h1 := pq_pr F G
    funext m
    have h2 := congrFun h1 m
    simp only [psc, pad] at h2 ⊢
    rw [h2]; grind
  have h1 := div_unique fG (Fin_.psc _ ⟨n, h.fQ⟩) ((pq_fin F G).psc _) h0 e1 e3 (((pl_sup h.fR).mono (by omega)).psc _) ((pr_sup fF fG h0).psc _)
  have h2 := psR_end fF fG h0
  rw [← hn] at h2
  exact ⟨h1.1.trans h2.1.symm, h1.2.trans h2.2.symm⟩
/-- Two polynomials. -/
def TupP2 (F G : Nat → Rat) (r : Value) (w : World) : Prop := ∃ q m, r = .tuple #[q, m] ∧ IsZP 0 w q F ∧ IsZP 0 w m G
end Go.Hp
namespace Go.Proofs.YtfacbpnegkjcgaaGreatDoor
open Go.RowKit Go.Hp
set_option maxRecDepth 20000 in
set_option maxHeartbeats 16000000 in
theorem rpdiv_z (v u : Value) (l m : List Int) (s t M : Nat) (w : World) (hv : HzV 0 w v l) (hu : HzV 0 w u m) (hs : ∀ i, qsz (cz l i) ≤ s) (ht : ∀ i, qsz (cz m i) ≤ t) (hn : l.length ≤ 1000000) (hm : m.length ≤ 1000000) (h0 : cz m ≠ pz) (hM : s + (l.length + 2) * (t + 1) + t + 1 ≤ M) (hst : 2 + (l.length + m.length + 4) * (2 * M + 4) ≤ 274877906944) :
    Calls Tryz.prog 33 #[v, u] w (Gives w (TupP2 (psQ (cz l) (cz m) (pl (cz l) + 1 - pl (cz m))) (psR (cz l) (cz m) (pl (cz l) + 1 - pl (cz m))))) := by
  have HV := Lib.hid hv; have HU := Lib.hid hu
  obtain ⟨A0, c0, rfl⟩ := hv.len
  obtain ⟨A1, c1, rfl⟩ := hu.len
  clear hv hu
  have hN1 := fun W (x : Ext w W) => normal_rz _ l W (HV.out.ext x) (by omega)
  have hD := fun W (x : Ext w W) => degree_rz _ m W (HU.out.ext x) (by omega)
  have hLd := fun W (x : Ext w W) => lead_rz _ m W (HU.out.ext x) (by omega)
  have hc1 := pl_le (cz_sup l)
  have hc2 := pl_le (cz_sup m)
  have hfF := Fin_.cz l; have hzF := ZI.cz l; have hfG := Fin_.cz m; have hzG := ZI.cz m
  have hL := pl_pos hfG h0
  have hMb : 4 * M + 12 ≤ 274877906944 := by
    have : 4 * (2 * M + 4) ≤ (l.length + m.length + 4) * (2 * M + 4) := Nat.mul_le_mul_right _ (by omega)
    omega
  have hMul := fun (k : Nat) (z : Int) (W : World) (x : Ext w W) (v : Value) (hv : IsZP 0 W v (mono k (z : Rat))) (hk : k ≤ l.length) (hz : qsz (z : Rat) ≤ M) => show Calls Tryz.prog 40 #[v, .slice A1 m.length c1] W (Gives W fun r w' => IsZP 0 w' r (cv (mono k (z : Rat)) (cz m))) from by
    have hq : ∀ i, qsz (mono k (z : Rat) i) ≤ M := fun i => by
      unfold mono; split
      · exact hz
      · have : qsz (0 : Rat) = 1 := by decide
        have := one_le_qsz (z : Rat); omega
    have hp := pl_le (mono_sup k (z : Rat))
    obtain ⟨l2, g1, g2, -, g4⟩ := hv.hz (fun i => by have := hq i; omega)
    rw [← g4]
    refine Gives.imp (mul_rzp _ _ l2 m M t W g1 (HU.out.ext x) (by rw [g4]; exact hq) ht ?_ (by omega) (by omega)) fun _ _ h => h.base_le (Nat.zero_le _)
    have h1 : (l2.length + m.length) * (M + t + 1) ≤ (l.length + m.length + 4) * (2 * M + 4) := Nat.mul_le_mul (by omega) (by omega)
    omega
  obtain ⟨F, hF⟩ : ∃ F, F = cz l := ⟨_, rfl⟩
  obtain ⟨G, hG⟩ : ∃ G, G = cz m := ⟨_, rfl⟩
  rw [← hF] at hs hc1 hfF hzF
  rw [← hG] at hc2 hfG hzG hL ht h0
  simp only [← hF] at hN1
  simp only [← hG] at hD hLd hMul
  rw [← hF, ← hG]
  obtain ⟨n, hnn⟩ : ∃ n, n = pl F + 1 - pl G := ⟨_, rfl⟩
  rw [← hnn]
  have hnl : n ≤ l.length + 1 := by omega
  have hbig : ∀ k, k ≤ n → ∀ q, q ≤ s + k * (t + 1) → q + 1 ≤ M ∧ q + t + 1 ≤ M := fun k hk q hq => by
    have : k * (t + 1) ≤ (l.length + 2) * (t + 1) := Nat.mul_le_mul_right _ (by omega)
    omega
  have htM : t + 1 ≤ M := by omega
  have hst0 : PrSt F G n s t 0 pz F := PrSt.start hfF hzF hs
  have hlr : ∀ j, j ≤ n → 2 + (j + 1) * t ≤ 549755813888 ∧ 1 + j * t ≤ M := fun j hj => by
    have h1 : (j + 1) * t ≤ (l.length + 2) * (t + 1) := Nat.mul_le_mul (by omega) (by omega)
    have h2 : j * t ≤ (l.length + 2) * (t + 1) := Nat.mul_le_mul (by omega) (by omega)
    omega
  have HX := Lib.hid (And.intro hfF (And.intro hzF (And.intro hfG (And.intro hzG (And.intro h0 (And.intro ht (And.intro hbig (And.intro hMb (And.intro htM hlr)))))))))
  have HC := Lib.hid (And.intro hD (And.intro hLd hMul))
  have HN := Lib.hid (And.intro hN1 (And.intro hst0 hnn))
  have HLG := Lib.hid (show sz (ld G).num.natAbs ≤ 1099511627776 ∧ qsz (((ld G).num : Int) : Rat) ≤ M ∧ (((ld G).num : Int) : Rat) = ld G ∧ sz (ld G).num.natAbs ≤ t from by
    have e : (((ld G).num : Int) : Rat) = ld G := (hzG.num _).symm
    have h1 : qsz (ld G) ≤ t := ht _
    have h2 := qz_num h1
    exact ⟨by omega, by rw [e]; omega, e, h2⟩)
  have hmax : max 0 ((pl F : Int) - 1 - ((pl G : Int) - 1) + 1) = (n : Nat) := by omega
  clear hs ht hfF hzF hfG hzG h0 hF hG hD hLd hMul hN1 hst hM hbig hst0 hMb htM hlr HV HU hnn
  go_enter Tryz.func33, Tryz.ntmps33
  go_wp2_with fail
  refine Calls.mono (HN.out.1 _ ((Ext.refl w).alloc _)) ?_
  rintro e w1 ⟨r1, rfl, hr1, hx⟩
  obtain ⟨A2, c2, rfl, -⟩ := hr1.shape
  have H1 := Lib.hid (hr1.base_le (b := 0) (Nat.zero_le _)); clear hr1
  replace hx := hx.a1
  go_wp2_with fail
  refine Calls.mono (HC.out.1 w1 hx) ?_
  rintro e w2 ⟨r2, rfl, rfl, hx2⟩
  have h1 := H1.out.ext hx2
  replace hx := hx.trans hx2
  have H2 := Lib.hid h1
  clear hx2 H1 h1
  go_wp2_with fail
  refine Calls.mono (HC.out.2.1 w2 hx) ?_
  rintro e w3 ⟨r3, rfl, hr3, hx3⟩
  obtain ⟨b5, A5, n5, c5, rfl⟩ := hr3.cells
  obtain ⟨W4, eW, eb, x4⟩ := Box.made w3 28 #[.bool b5, .slice A5 n5 c5] (by simp [isDig])
  have hl4 := hr3.kd x4.kd
  have h2 := H2.out.ext (hx3.trans x4)
  replace hx := hx.trans (hx3.trans x4)
  have HL := Lib.hid hl4; have H3 := Lib.hid h2
  clear hr3 hl4 h2 hx3 x4 H2
  go_wp2
  rw [← eW]
  clear eW
  generalize w3.heap.size = gl at *
  go_loopw [6, 7, 10] (fun qv rv kv wr => ∃ (j : Nat) (Q R : Nat → Rat), kv = .int .i64 ((n : Int) - j) ∧ j ≤ n ∧ PrSt F G n s t j Q R ∧ IsZP 0 wr rv R ∧ IsZP 0 wr qv Q ∧ BoxZ wr gl 28 (ld G).num ∧ Ext w wr) (fun _ rv _ _ => lenV rv)
  case atStart => exact ⟨0, pz, F, by simp, Nat.zero_le _, HN.out.2.1, H3.out, IsZP.empty 0 _ _ _ (by omega), BoxZ.mk eb HL.out, hx⟩
  case round =>
    clear hx eb HL H3 hmax
    obtain ⟨j, Q, R, rfl, hj, hst, hR, hQ, ⟨b6, A6, n6, c6, eb, hl⟩, hx⟩ := hrel
    obtain ⟨AR, cR, lr, rfl, j1, j2, hA, j3, j4, j5⟩ := hR.form
    obtain ⟨AQ, cQ, rfl, -⟩ := hQ.shape
    have HS := Lib.hid (And.intro hst (And.intro hA (And.intro j3 (And.intro j5 (And.intro hR (And.intro hQ hl))))))
    clear hst hA j3 j4 j5 hR hQ hl
    by_cases hle : pl G ≤ pl R
    · obtain ⟨k, hk⟩ : ∃ k, k = pl R - pl G := ⟨_, rfl⟩
      have hlt : pl R - 1 < lr.length := by have := HS.out.2.2.1; omega
      obtain ⟨g, o, b, B1, n1, d1, rfl, -, q0, q1, hq⟩ := HS.out.2.1.at_ (j := pl R - 1) hlt
      have hval := lz_at HS.out.2.2.2.1 (i := pl R - 1) hlt
      rw [hval] at hq
      obtain ⟨z, hzz⟩ : ∃ z, z = (R (pl R - 1)).num := ⟨_, rfl⟩
      rw [← hzz] at hq
      have hind : ((pl R : Int) - 1).toNat = pl R - 1 := by omega
      have hkk : (pl R : Int) - 1 - ((pl G : Int) - 1) = (k : Nat) := by omega
      have hjn : j < n := by have := HS.out.1.deg; have := HN.out.2.2; omega
      have hzc : (z : Rat) = R (pl R - 1) := by rw [hzz]; exact (HS.out.1.zR.num _).symm
      have hst2 := HS.out.1.step HN.out.2.2 HX.out.2.2.1 HX.out.2.2.2.2.1 HX.out.2.2.2.1 HX.out.2.2.2.2.2.1 hle hk hzc
      have HZ := Lib.hid (show PrSt F G n s t (j + 1) (pad (psc (ld G) Q) (mono k (z : Rat))) (psb (psc (ld G) R) (cv (mono k (z : Rat)) G)) ∧ pl (psb (psc (ld G) R) (cv (mono k (z : Rat)) G)) < pl R ∧ z ≠ 0 ∧ qsz (z : Rat) + 1 ≤ M ∧ (∀ i, qsz (cv (mono k (z : Rat)) G i) ≤ 2 * M) ∧ (∀ i, qsz (mono k (z : Rat) i) ≤ M) ∧ (∀ i, qsz (psc (ld G) Q i) ≤ 2 * M) ∧ (∀ i, qsz (psc (ld G) R i) ≤ 2 * M) ∧ (∀ i, qsz (Q i) ≤ M) ∧ (∀ i, qsz (R i) ≤ M) ∧ pl (cv (mono k (z : Rat)) G) ≤ 549755813888 ∧ pl (mono k (z : Rat)) ≤ 549755813888 ∧ pl Q ≤ 549755813888 ∧ pl (psc (ld G) Q) ≤ 549755813888 ∧ pl (psc (ld G) R) ≤ 549755813888 ∧ pl R ≤ 549755813888 ∧ k ≤ l.length from by
        have o1 : qsz (0 : Rat) = 1 := by decide
        have o2 := one_le_qsz (z : Rat)
        have hpG := pl_pos HX.out.2.2.1 HX.out.2.2.2.2.1
        have hdeg := HS.out.1.deg
        have hQs : ∀ i, qsz (Q i) ≤ M := fun i => by have := HX.out.2.2.2.2.2.2.1 _ hj _ (HS.out.1.qQ i); omega
        have hRs : ∀ i, qsz (R i) ≤ M := fun i => by have := HX.out.2.2.2.2.2.2.1 _ hj _ (HS.out.1.qR i); omega
        have hzq : qsz (z : Rat) + 1 ≤ M := by rw [hzc]; have := HX.out.2.2.2.2.2.2.1 _ hj _ (HS.out.1.qR (pl R - 1)); omega
        have hlG : qsz (ld G) ≤ M := by have h1 : qsz (ld G) ≤ t := HX.out.2.2.2.2.2.1 _; have := HX.out.2.2.2.2.2.2.2.2.1; omega
        have hQp := pl_le HS.out.1.fQ
        refine ⟨hst2.1, hst2.2, fun e => ?_, hzq, fun i => ?_, fun i => ?_, fun i => ?_, fun i => ?_, hQs, hRs, ?_, ?_, ?_, ?_, ?_, ?_, ?_⟩
        · have h1 : R (pl R - 1) ≠ 0 := pl_top HS.out.1.fR (by omega)
          apply h1; rw [← hzc, e]; rfl
        · rw [mono_cv]
          show qsz ((z : Rat) * sh k G i) ≤ _
          have a1 := qsz_mul (z : Rat) (sh k G i)
          have a2 : qsz (sh k G i) ≤ M := by
            unfold sh; split
            · omega
            · have := HX.out.2.2.2.2.2.1 (i - k); have := HX.out.2.2.2.2.2.2.2.2.1; omega
          omega
        · unfold mono; split <;> omega
        · have a1 := qsz_mul (ld G) (Q i); have a2 := hQs i; show qsz (ld G * Q i) ≤ _; omega
        · have a1 := qsz_mul (ld G) (R i); have a2 := hRs i; show qsz (ld G * R i) ≤ _; omega
        · have := pl_le ((mono_sup k (z : Rat)).cv (pl_sup HX.out.2.2.1)); omega
        · have := pl_le (mono_sup k (z : Rat)); omega
        · omega
        · have := pl_le (HS.out.1.fQ.psc (ld G)); omega
        · have := pl_le ((pl_sup HS.out.1.fR).psc (ld G)); omega
        · omega
        · omega)
      have Hq := Lib.hid (And.intro hq (And.intro hk hzc))
      clear hq hk hzc hval hst2 hzz
      have xw := Ext.refl wr
      go_wp2_with fail
      have hzrow : HzV 0 (wr.alloc (.cells #[.bool b, .slice B1 n1 d1] 28)) (.slice (some ⟨wr.heap.size, 0, none⟩) 1 1) [z] :=
        ZsV.has (OwnZ.row (NewZ.own (NewZ.mk Hq.out.1 (base := 0) (Nat.zero_le _) 28))) (fun x hx => by
          simp at hx; subst hx
          have h1 : sz x.natAbs ≤ qsz (x : Rat) := by rw [qsz_cast]; omega
          have h2 := HX.out.2.2.2.2.2.2.2.1
          have h3 := HZ.out.2.2.2.1
          omega)
      have HR := Lib.hid hzrow; clear hzrow
      refine Calls.mono (shift_one _ z k _ HR.out HZ.out.2.2.1 (by have := HZ.out.2.2.2.2.2.2.2.2.2.2.2.2.2.2.2.2; omega)) ?_
      rintro e w6 ⟨r6, rfl, hr6, hx6⟩
      replace xw := (xw.alloc _).trans hx6
      replace hx := (hx.alloc _).trans hx6
      replace eb := (eb.alloc _).ext hx6
      have H6 := Lib.hid hr6
      have hl6 := HS.out.2.2.2.2.2.2.kd xw.kd
      have HL6 := Lib.hid hl6
      clear hr6 hx6 HR hkk hind q0 q1 hl6
      obtain ⟨ceb0, ceb1⟩ := eb.cells2
      have feb := eb.frozen
      go_wp2_with fail
      refine Calls.mono (rscale _ _ Q (ld G).num M _ (HS.out.2.2.2.2.2.1.ext xw) (HL6.out.has HLG.out.1) HZ.out.2.2.2.2.2.2.2.2.1 (by have := HLG.out.2.1; have := HX.out.2.2.2.2.2.2.2.1; omega) HZ.out.2.2.2.2.2.2.2.2.2.2.2.2.1) ?_
      rintro e w7 ⟨r7, rfl, hr7, hx7⟩
      rw [HLG.out.2.2.1] at hr7
      have h6 := H6.out.ext hx7
      replace xw := xw.trans hx7
      replace hx := hx.trans hx7
      have H7 := Lib.hid (And.intro hr7 h6)
      have HL7 := Lib.hid (HL6.out.kd hx7.kd)
      replace eb := eb.ext hx7
      clear hr7 h6 hx7 H6 HL6 ceb0 ceb1 feb
      go_wp2_with fail
      refine Calls.mono (radd _ _ (psc (ld G) Q) (mono k (z : Rat)) (2 * M) M _ H7.out.1 H7.out.2 HZ.out.2.2.2.2.2.2.1 HZ.out.2.2.2.2.2.1 (by have := HX.out.2.2.2.2.2.2.2.1; omega) HZ.out.2.2.2.2.2.2.2.2.2.2.2.2.2.1 HZ.out.2.2.2.2.2.2.2.2.2.2.2.1) ?_
      rintro e w8 ⟨r8, rfl, hr8, hx8⟩
      obtain ⟨A8, c8, rfl, -⟩ := hr8.shape
      have h7 := H7.out.2.ext hx8
      replace xw := xw.trans hx8
      replace hx := hx.trans hx8
      have H8 := Lib.hid (And.intro hr8 h7)
      have HL8 := Lib.hid (HL7.out.kd hx8.kd)
      replace eb := eb.ext hx8
      clear hr8 h7 hx8 H7 HL7
      obtain ⟨ceb0, ceb1⟩ := eb.cells2
      have feb := eb.frozen
      go_wp2_with fail
      refine Calls.mono (rscale _ _ R (ld G).num M _ (HS.out.2.2.2.2.1.ext xw) (HL8.out.has HLG.out.1) HZ.out.2.2.2.2.2.2.2.2.2.1 (by have := HLG.out.2.1; have := HX.out.2.2.2.2.2.2.2.1; omega) HZ.out.2.2.2.2.2.2.2.2.2.2.2.2.2.2.2.1) ?_
      rintro e w9 ⟨r9, rfl, hr9, hx9⟩
      rw [HLG.out.2.2.1] at hr9
      have h8 := H8.out.1.ext hx9
      have h8' := H8.out.2.ext hx9
      replace hx := hx.trans hx9
      have H9 := Lib.hid (And.intro hr9 (And.intro h8 h8'))
      have HL9 := Lib.hid (HL8.out.kd hx9.kd)
      replace eb := eb.ext hx9
      clear hr9 h8 h8' hx9 H8 HL8 ceb0 ceb1 feb
      go_wp2_with fail
      refine Calls.mono (HC.out.2.2 k z _ hx _ H9.out.2.2 HZ.out.2.2.2.2.2.2.2.2.2.2.2.2.2.2.2.2 (by have := HZ.out.2.2.2.1; omega)) ?_
      rintro e w10 ⟨r10, rfl, hr10, hx10⟩
      have h9 := H9.out.1.ext hx10
      have h9' := H9.out.2.1.ext hx10
      replace hx := hx.trans hx10
      have H10 := Lib.hid (And.intro hr10 (And.intro h9 h9'))
      have HL10 := Lib.hid (HL9.out.kd hx10.kd)
      replace eb := eb.ext hx10
      clear hr10 h9 h9' hx10 H9 HL9
      go_wp2_with fail
      refine Calls.mono (rsub _ _ (psc (ld G) R) (cv (mono k (z : Rat)) G) (2 * M) (2 * M) _ H10.out.2.1 H10.out.1 HZ.out.2.2.2.2.2.2.2.1 HZ.out.2.2.2.2.1 (by have := HX.out.2.2.2.2.2.2.2.1; omega) HZ.out.2.2.2.2.2.2.2.2.2.2.2.2.2.2.1 HZ.out.2.2.2.2.2.2.2.2.2.2.1) ?_
      rintro e w11 ⟨r11, rfl, hr11, hx11⟩
      obtain ⟨A11, c11, rfl, -⟩ := hr11.shape
      have h10 := H10.out.2.2.ext hx11
      replace hx := hx.trans hx11
      have H11 := Lib.hid (And.intro hr11 h10)
      have HL11 := Lib.hid (HL10.out.kd hx11.kd)
      replace eb := eb.ext hx11
      clear hr11 h10 hx11 H10 HL10
      go_wp2
      go_roundw
      case rel => exact ⟨j + 1, _, _, by go_num, by omega, HZ.out.1, H11.out.1, H11.out.2, BoxZ.mk eb HL11.out, hx⟩
      case measure => exact HZ.out.2.1
    · have hend := HS.out.1.end_ HN.out.2.2 HX.out.1 HX.out.2.2.1 HX.out.2.2.2.2.1 (by omega) hj
      have hnj : (n : Int) - j = ((n - j : Nat) : Int) := by omega
      have hsz := HX.out.2.2.2.2.2.2.2.2.2 (n - j) (by omega)
      have hpw := sz_powz (ld G).num t HLG.out.2.2.2 (n - j)
      have hQs : ∀ i, qsz (Q i) ≤ M := fun i => by have := HX.out.2.2.2.2.2.2.1 _ hj _ (HS.out.1.qQ i); omega
      have hRs : ∀ i, qsz (R i) ≤ M := fun i => by have := HX.out.2.2.2.2.2.2.1 _ hj _ (HS.out.1.qR i); omega
      have hQp := pl_le HS.out.1.fQ
      have hpc : (((ld G).num ^ (n - j) : Int) : Rat) = ld G ^ (n - j) := by rw [← pow_int, HLG.out.2.2.1]
      have hql : qsz (((ld G).num ^ (n - j) : Int) : Rat) ≤ M + 1 := by rw [qsz_cast]; omega
      have HE := Lib.hid (And.intro hend (And.intro hsz (And.intro hpw (And.intro hQs (And.intro hRs (And.intro (show pl Q ≤ 549755813888 by omega) (And.intro (show pl R ≤ 549755813888 by have := HS.out.1.deg; omega) (And.intro hpc hql))))))))
      clear hend hsz hpw hQs hRs hQp hpc hql
      have hnb : n - j ≤ 1099511627776 := by omega
      obtain ⟨ceb0, ceb1⟩ := eb.cells2
      have feb := eb.frozen
      go_wp2_with fail
      (try rw [hnj])
      refine Calls.mono (raised_r _ (ld G).num (n - j) t _ (HS.out.2.2.2.2.2.2.has HLG.out.1) HLG.out.2.2.2 HE.out.2.1.1 hnb) ?_
      rintro e w6 ⟨r6, rfl, hr6, hx6⟩
      obtain ⟨b7, A7, n7, c7, rfl⟩ := hr6.cells
      obtain ⟨W7, eW7, e7, x7⟩ := Box.made w6 28 #[.bool b7, .slice A7 n7 c7] (by simp [isDig])
      have xw := hx6.trans x7
      have hp7 := hr6.kd x7.kd
      replace hx := hx.trans xw
      have H7 := Lib.hid hp7
      clear hr6 hp7 hx6 x7 ceb0 ceb1 feb hnj
      go_upto_region 11 with (fail)
      rw [← eW7]
      clear eW7
      generalize w6.heap.size = g7 at *
      obtain ⟨q0, q1⟩ := e7.cells2
      go_wp2_with fail
      obtain ⟨Rr, hRr⟩ : ∃ Rr, Rr = R := ⟨_, rfl⟩
      have HRr := Lib.hid hRr; clear hRr
      refine wp_region_par (k := 8) (D := [62, 63, 64, 65, 66, 67, 4, 5]) (T := [[], [], [0, 1], [], [], [0, 1, 2, 3, 4], [0, 1, 2, 3, 4, 5], [0, 1, 2, 3, 4, 5, 6]]) (EK := [6, 12, 7]) (EV := [?e1x0, ?e1x1, ?e1x2]) (VL := [(kv ?v1x0), (kv ?v1x1), (fun γ => γ 2), (kv ?v1x3), (kv ?v1x4), (fun γ => γ 5), (fun γ => γ 2), (fun γ => γ 5)]) (FL := fun γ w' => [True, True, IsZP 0 w' (γ 2) (psc (((ld G).num ^ (n - j) : Int) : Rat) Q), True, True, IsZP 0 w' (γ 5) (psc (((ld G).num ^ (n - j) : Int) : Rat) Rr), True, True]) ?hE1 (by kernel_rfl) (by kernel_rfl) (by rfl) (by kernel_rfl) ?hloc1 ?hmono1 ?hstep1 ?htail1
      case hE1 => refine ⟨?_, ?_, ?_, trivial⟩ <;> (simp only [List.getElem?_toArray, List.getElem?_cons_succ, List.getElem?_cons_zero]; rfl)
      case hstep1 =>
        refine ⟨⟨⟨⟨⟨⟨⟨⟨trivial, ?_⟩, ?_⟩, ?_⟩, ?_⟩, ?_⟩, ?_⟩, ?_⟩, ?_⟩
        · intro γ w' he hf; clear hf; refine ⟨trivial, ?_⟩; intro R hR
          have hc := he.cells
          go_simp
          (try go_ints); (try (rw [if_neg (by omega)])); (try (rw [if_pos (by omega)])); (try go_simp); (try go_ints)
          refine hR _ _ (Ext.refl _) ?_ trivial
          rfl
        · intro γ w' he hf; clear hf; refine ⟨trivial, ?_⟩; intro R hR
          have hc := he.cells
          have cq0 := he.cell q0
          have cq1 := he.cell q1
          go_simp
          (try go_ints); (try (rw [if_neg (by omega)])); (try (rw [if_pos (by omega)])); (try go_simp); (try go_ints)
          refine hR _ _ (Ext.refl _) ?_ trivial
          rfl
        · intro γ w' he hf; clear hf; refine ⟨trivial, ?_⟩; intro R hR
          go_simp
          refine Calls.mono (show Calls _ _ _ w' (Gives w' fun r w'' => IsZP 0 w'' (r) (psc (((ld G).num ^ (n - j) : Int) : Rat) Q)) from rscale _ _ Q _ M w' (HS.out.2.2.2.2.2.1.ext (xw.trans he)) ((H7.out.kd he.kd).has (by have := HE.out.2.2.1; have := HE.out.2.1.2; have := HX.out.2.2.2.2.2.2.2.1; omega)) HE.out.2.2.2.1 (by have := HE.out.2.2.2.2.2.2.2.2; have := HX.out.2.2.2.2.2.2.2.1; omega) HE.out.2.2.2.2.2.1) ?_
          rintro e w2 ⟨v, rfl, hv, hx⟩
          exact ⟨v, rfl, hR v w2 hx rfl hv⟩
        · intro γ w' he hf; clear hf; refine ⟨trivial, ?_⟩; intro R hR
          have hc := he.cells
          go_simp
          (try go_ints); (try (rw [if_neg (by omega)])); (try (rw [if_pos (by omega)])); (try go_simp); (try go_ints)
          refine hR _ _ (Ext.refl _) ?_ trivial
          rfl
        · intro γ w' he hf; clear hf; refine ⟨trivial, ?_⟩; intro R hR
          have hc := he.cells
          have cq0 := he.cell q0
          have cq1 := he.cell q1
          go_simp
          (try go_ints); (try (rw [if_neg (by omega)])); (try (rw [if_pos (by omega)])); (try go_simp); (try go_ints)
          refine hR _ _ (Ext.refl _) ?_ trivial
          rfl
        · intro γ w' he hf; have f2 : IsZP 0 w' (γ 2) (psc (((ld G).num ^ (n - j) : Int) : Rat) Q) := hf 2 (by decide); clear hf; refine ⟨trivial, ?_⟩; intro R hR
          go_simp
          refine Calls.mono (show Calls _ _ _ w' (Gives w' fun r w'' => IsZP 0 w'' (r) (psc (((ld G).num ^ (n - j) : Int) : Rat) Rr)) from rscale _ _ Rr _ M w' (HRr.out ▸ HS.out.2.2.2.2.1.ext (xw.trans he)) ((H7.out.kd he.kd).has (by have := HE.out.2.2.1; have := HE.out.2.1.2; have := HX.out.2.2.2.2.2.2.2.1; omega)) (HRr.out ▸ HE.out.2.2.2.2.1) (by have := HE.out.2.2.2.2.2.2.2.2; have := HX.out.2.2.2.2.2.2.2.1; omega) (HRr.out ▸ HE.out.2.2.2.2.2.2.1)) ?_
          rintro e w2 ⟨v, rfl, hv, hx⟩
          exact ⟨v, rfl, hR v w2 hx rfl hv⟩
        · intro γ w' he hf; have f2 : IsZP 0 w' (γ 2) (psc (((ld G).num ^ (n - j) : Int) : Rat) Q) := hf 2 (by decide); have f5 : IsZP 0 w' (γ 5) (psc (((ld G).num ^ (n - j) : Int) : Rat) Rr) := hf 5 (by decide); clear hf; refine ⟨trivial, ?_⟩; intro R hR
          have hc := he.cells
          go_simp
          (try go_ints); (try (rw [if_neg (by omega)])); (try (rw [if_pos (by omega)])); (try go_simp); (try go_ints)
          refine hR _ _ (Ext.refl _) ?_ trivial
          rfl
        · intro γ w' he hf; have f2 : IsZP 0 w' (γ 2) (psc (((ld G).num ^ (n - j) : Int) : Rat) Q) := hf 2 (by decide); have f5 : IsZP 0 w' (γ 5) (psc (((ld G).num ^ (n - j) : Int) : Rat) Rr) := hf 5 (by decide); clear hf; refine ⟨trivial, ?_⟩; intro R hR
          have hc := he.cells
          go_simp
          (try go_ints); (try (rw [if_neg (by omega)])); (try (rw [if_pos (by omega)])); (try go_simp); (try go_ints)
          refine hR _ _ (Ext.refl _) ?_ trivial
          rfl
      case hloc1 =>
        exact ⟨⟨⟨⟨⟨⟨⟨⟨trivial, (fun γ γ' h => ⟨rfl, fun _ => rfl⟩)⟩, (fun γ γ' h => ⟨rfl, fun _ => rfl⟩)⟩, (fun γ γ' h => ⟨h 2 rfl, fun w' => (congrArg (fun a => IsZP 0 w' (a) (psc (((ld G).num ^ (n - j) : Int) : Rat) Q)) (h 2 rfl))⟩)⟩, (fun γ γ' h => ⟨rfl, fun _ => rfl⟩)⟩, (fun γ γ' h => ⟨rfl, fun _ => rfl⟩)⟩, (fun γ γ' h => ⟨h 5 rfl, fun w' => (congrArg (fun a => IsZP 0 w' (a) (psc (((ld G).num ^ (n - j) : Int) : Rat) Rr)) (h 5 rfl))⟩)⟩, (fun γ γ' h => ⟨(congrArg (fun a => a) (h 2 rfl)), fun _ => rfl⟩)⟩, (fun γ γ' h => ⟨(congrArg (fun a => a) (h 5 rfl)), fun _ => rfl⟩)⟩
      case hmono1 =>
        exact ⟨⟨⟨⟨⟨⟨⟨⟨trivial, (fun γ wA w' e h => h)⟩, (fun γ wA w' e h => h)⟩, (fun γ wA w' e h => (show IsZP 0 wA (γ 2) (psc (((ld G).num ^ (n - j) : Int) : Rat) Q) from h).ext e)⟩, (fun γ wA w' e h => h)⟩, (fun γ wA w' e h => h)⟩, (fun γ wA w' e h => (show IsZP 0 wA (γ 5) (psc (((ld G).num ^ (n - j) : Int) : Rat) Rr) from h).ext e)⟩, (fun γ wA w' e h => h)⟩, (fun γ wA w' e h => h)⟩
      intro γ w8 hx8 hF
      have p2 : IsZP 0 w8 (γ 2) (psc (((ld G).num ^ (n - j) : Int) : Rat) Q) := Each.get hF 2 (by decide)
      have p5 : IsZP 0 w8 (γ 5) (psc (((ld G).num ^ (n - j) : Int) : Rat) Rr) := Each.get hF 5 (by decide)
      clear hF
      simp only [fillAll, gV, kv, List.getD_cons_zero, List.getD_cons_succ, Act.put, List.setIfInBounds_toArray, List.set_cons_zero, List.set_cons_succ, List.toList_toArray, List.drop_succ_cons, List.drop_zero, List.drop_nil, Nat.zero_add, Nat.reduceAdd]
      generalize γ 2 = g2 at *
      generalize γ 5 = g5 at *
      clear γ
      rw [HE.out.2.2.2.2.2.2.2.1, HE.out.1.1] at p2
      rw [HRr.out, HE.out.2.2.2.2.2.2.2.1, HE.out.1.2] at p5
      have HP := Lib.hid (And.intro p2 p5); clear p2 p5
      go_wp2
      go_ret2
      exact Gives.mk ⟨_, _, rfl, HP.out.1, HP.out.2⟩ (hx.trans hx8)
end Go.Proofs.YtfacbpnegkjcgaaGreatDoor
namespace Go.Hp
open Go.RowKit
end Go.Hp
namespace Go.Proofs.YtfacbpnegkjcgaaGreatDoor
open Go.RowKit Go.Hp
end Go.Proofs.YtfacbpnegkjcgaaGreatDoor
namespace Go.Proofs.YtfacbpnegkjcgaaGreatDoor
open Go.RowKit Go.Hp
theorem rpdiv_p (v u : Value) (F G : Nat → Rat) (s M : Nat) (w : World) (hv : IsZP 0 w v F) (hu : IsZP 0 w u G) (hs : ∀ i, qsz (F i) ≤ s) (ht : ∀ i, qsz (G i) ≤ s) (h0 : G ≠ pz) (hn : pl F ≤ 1000000) (hm : pl G ≤ 1000000) (hM : s + (pl F + 2) * (s + 1) + s + 1 ≤ M) (hst : 2 + (pl F + pl G + 4) * (2 * M + 4) ≤ 274877906944) :
    Calls Tryz.prog 33 #[v, u] w (Gives w (TupP2 (psQ F G (pl F + 1 - pl G)) (psR F G (pl F + 1 - pl G)))) := by
  have hMb : 4 * M ≤ 274877906944 := by
    have : 4 * (2 * M + 4) ≤ (pl F + pl G + 4) * (2 * M + 4) := Nat.mul_le_mul_right _ (by omega)
    omega
  obtain ⟨l, h1, h2, -, rfl⟩ := hv.hz (fun i => by have := hs i; omega)
  obtain ⟨m, k1, k2, -, rfl⟩ := hu.hz (fun i => by have := ht i; omega)
  exact rpdiv_z v u l m s s M w h1 k1 hs ht (by omega) (by omega) h0 (by rw [h2]; exact hM) (by rw [h2, k2]; exact hst)
theorem rprim (v : Value) (F : Nat → Rat) (w : World) (hv : IsZP 0 w v F) (hs : ∀ i, qsz (F i) ≤ 549755813888) (hn : pl F ≤ 549755813888) :
    Calls Tryz.prog 18 #[v] w (Gives w fun r w' => IsZP w.heap.size w' r (pp F)) := by
  obtain ⟨l, h1, h2, -, rfl⟩ := hv.hz (fun i => by have := hs i; omega)
  exact primitive_rz v l w h1 hs (by omega)
set_option maxRecDepth 20000 in
set_option maxHeartbeats 8000000 in
theorem rgcd_z (v u : Value) (l m : List Int) (S M M2 : Nat) (w : World) (hv : HzV 0 w v l) (hu : HzV 0 w u m) (hs : ∀ i, qsz (cz l i) ≤ S) (ht : ∀ i, qsz (cz m i) ≤ S) (hn : l.length ≤ 1000) (hm : m.length ≤ 1000) (hM : (S + 1) * 2 ^ (pl (cz l) + pl (cz m)) ≤ M) (hB : M + (pl (cz l) + pl (cz m) + 2) * (M + 1) + M + 1 ≤ M2) (hB2 : 2 + (2 * (pl (cz l) + pl (cz m)) + 4) * (2 * M2 + 4) ≤ 274877906944) :
    Calls Tryz.prog 45 #[v, u] w (Gives w fun r w' => IsZP 0 w' r (zgc (cz l) (cz m))) := by
  have HV := Lib.hid hv; have HU := Lib.hid hu
  obtain ⟨A0, c0, rfl⟩ := hv.len
  obtain ⟨A1, c1, rfl⟩ := hu.len
  clear hv hu
  have hc1 := pl_le (cz_sup l)
  have hc2 := pl_le (cz_sup m)
  have hSM : S + 1 ≤ M := by
    have h : 0 < 2 ^ (pl (cz l) + pl (cz m)) := Nat.pow_pos (by decide)
    have := Nat.le_mul_of_pos_right (S + 1) h; omega
  have hM2b : 4 * M2 + 10 ≤ 274877906944 := by
    have : 2 * (2 * M2 + 4) ≤ (2 * (pl (cz l) + pl (cz m)) + 4) * (2 * M2 + 4) := Nat.mul_le_mul_right _ (by omega)
    omega
  have hMM : M ≤ M2 := by omega
  have hcn : sz (cn (cz l)) ≤ S ∧ sz (cn (cz m)) ≤ S := ⟨cn_sz hs _, cn_sz ht _⟩
  have hst := GzSt.start (Fin_.cz l) (Fin_.cz m) (ZI.cz l) (ZI.cz m) hs ht
  have hP1 := fun W (x : Ext w W) => primitive_rz _ l W (HV.out.ext x) (fun i => by have := hs i; omega) (by omega)
  have hP2 := fun W (x : Ext w W) => primitive_rz _ m W (HU.out.ext x) (fun i => by have := ht i; omega) (by omega)
  have hC1 := content_rz _ l w HV.out (fun i => by have := hs i; omega) (by omega)
  have hC2 := fun W (x : Ext w W) => content_rz _ m W (HU.out.ext x) (fun i => by have := ht i; omega) (by omega)
  have hz := (show (∀ A, GzSt (cz l) (cz m) (pl (cz l) + pl (cz m)) S A pz → psc ((Nat.gcd (cn (cz l)) (cn (cz m)) : Nat) : Rat) A = zgc (cz l) (cz m)) from
    fun A h => (zgc_eq (h.end_ (Fin_.cz l) (Fin_.cz m) (ZI.cz l) (ZI.cz m) rfl)).symm)
  have hpl : pl (cz l) + pl (cz m) ≤ 2000 := by omega
  obtain ⟨F, hF⟩ : ∃ F, F = cz l := ⟨_, rfl⟩
  obtain ⟨G, hG⟩ : ∃ G, G = cz m := ⟨_, rfl⟩
  rw [← hF] at hcn hC1
  rw [← hG] at hcn
  rw [← hF, ← hG] at hM hB hB2 hst hz hpl ⊢
  simp only [← hF] at hP1
  simp only [← hG] at hP2 hC2
  have HC := Lib.hid (And.intro hC1 (And.intro hC2 (And.intro hP1 hP2)))
  have HX := Lib.hid (And.intro hM (And.intro hB (And.intro hz (And.intro hcn (And.intro hSM (And.intro hB2 (And.intro hM2b hMM)))))))
  have HSt := Lib.hid (And.intro hst hpl)
  clear hs ht hn hm hM hB hB2 hM2b hMM hc1 hc2 hSM hcn hst hP1 hP2 hC1 hC2 hz hF hG hpl HV HU
  go_enter Tryz.func45, Tryz.ntmps45
  go_wp2_with fail
  refine Calls.mono HC.out.1 ?_
  rintro e w1 ⟨r1, rfl, hr1, hx⟩
  go_wp2_with fail
  refine Calls.mono (HC.out.2.1 w1 hx) ?_
  rintro e w2 ⟨r2, rfl, hr2, hx2⟩
  have H12 := Lib.hid (And.intro ((hr1.kd hx2.kd).has (by have h1 := HX.out.2.2.2.1.1; have h2 := HX.out.2.2.2.2.1; have h3 := HX.out.2.2.2.2.2.2; simp only [Int.natAbs_natCast]; omega)) (hr2.has (by have h1 := HX.out.2.2.2.1.2; have h2 := HX.out.2.2.2.2.1; have h3 := HX.out.2.2.2.2.2.2; simp only [Int.natAbs_natCast]; omega)))
  replace hx := hx.trans hx2
  clear hr1 hr2 hx2
  go_wp2_with fail
  refine Calls.mono (gcd_r _ _ (cn F : Nat) (cn G : Nat) _ H12.out.1 H12.out.2 (by have h1 := HX.out.2.2.2.1.1; have h2 := HX.out.2.2.2.2.1; have h3 := HX.out.2.2.2.2.2.2; simp only [Int.natAbs_natCast]; omega) (by have h1 := HX.out.2.2.2.1.2; have h2 := HX.out.2.2.2.2.1; have h3 := HX.out.2.2.2.2.2.2; simp only [Int.natAbs_natCast]; omega)) ?_
  rintro e w3 ⟨r3, rfl, hr3, hx3⟩
  obtain ⟨b5, A5, n5, c5, rfl⟩ := hr3.cells
  obtain ⟨cc, hcc⟩ : ∃ cc : Nat, cc = Nat.gcd (cn F) (cn G) := ⟨_, rfl⟩
  replace hr3 : IsZ w3 (.agg #[.bool b5, .slice A5 n5 c5]) (cc : Nat) := by rw [hcc]; exact hr3
  obtain ⟨W4, eW4, e4, x4⟩ := Box.made w3 28 #[.bool b5, .slice A5 n5 c5] (by simp [isDig])
  have ec := BoxZ.mk e4 (hr3.kd x4.kd)
  replace hx := (hx.trans hx3).trans x4
  have HCC := Lib.hid hcc
  clear hx3 x4 hr3 e4 H12 hcc
  go_wp2_with fail
  rw [← eW4]
  clear eW4
  generalize w3.heap.size = gc at *
  refine Calls.mono (HC.out.2.2.1 W4 hx) ?_
  rintro e w5 ⟨r5, rfl, hr5, hx5⟩
  have ec5 := ec.ext hx5
  replace hx := hx.trans hx5
  have H5 := Lib.hid (hr5.base_le (Nat.zero_le _)); clear hr5 hx5
  go_wp2_with fail
  refine Calls.mono (HC.out.2.2.2 w5 hx) ?_
  rintro e w6 ⟨r6, rfl, hr6, hx6⟩
  replace ec5 := ec5.ext hx6
  replace hx := hx.trans hx6
  have h5 := H5.out.ext hx6
  have h6 := hr6.base_le (Nat.zero_le _)
  clear hr6 hx6 H5
  go_wp2
  go_loopw [6, 7] (fun fv gv wr => ∃ A B, IsZP 0 wr fv A ∧ IsZP 0 wr gv B ∧ GzSt F G (pl F + pl G) S A B ∧ BoxZ wr gc 28 (cc : Nat) ∧ Ext w wr) (fun _ gv _ => lenV gv)
  case atStart => exact ⟨_, _, h5, h6, HSt.out.1, ec5, hx⟩
  case round =>
    clear h5 h6 ec5 hx ec
    obtain ⟨A, B, hA, hB, hst, ec, hx⟩ := hrel
    obtain ⟨A2, c2, rfl, -⟩ := hA.shape
    obtain ⟨A3, c3, rfl, -⟩ := hB.shape
    have HA := Lib.hid (And.intro hA hB); clear hA hB
    have HS := Lib.hid hst; clear hst
    by_cases h0 : 0 < pl B
    · have hbn : B ≠ pz := fun e => by rw [e, pl_pz] at h0; omega
      have hroom := HS.out.room rfl
      have hpl := HS.out.deg
      have HR := Lib.hid (show (∀ i, qsz (A i) ≤ M) ∧ (∀ i, qsz (B i) ≤ M) ∧ M + (pl A + 2) * (M + 1) + M + 1 ≤ M2 ∧ B ≠ pz ∧ 2 + (pl A + pl B + 4) * (2 * M2 + 4) ≤ 274877906944 ∧ pl A ≤ 1000000 ∧ pl B ≤ 1000000 from by
        refine ⟨fun i => Nat.le_trans (hroom.1 i) HX.out.1, fun i => Nat.le_trans (hroom.2.1 i) HX.out.1, ?_, hbn, ?_, by have := HSt.out.2; omega, by have := HSt.out.2; omega⟩
        · have h1 := HX.out.2.1
          have h2 : (pl A + 2) * (M + 1) ≤ (pl F + pl G + 2) * (M + 1) := Nat.mul_le_mul_right _ (by omega)
          omega
        · have h1 := HX.out.2.2.2.2.2.1
          have h2 : (pl A + pl B + 4) * (2 * M2 + 4) ≤ (2 * (pl F + pl G) + 4) * (2 * M2 + 4) := Nat.mul_le_mul_right _ (by omega)
          omega)
      have hst2 := HS.out.step hbn (R := psR A B (pl A + 1 - pl B)) rfl
      have HS2 := Lib.hid (And.intro hst2.1 (And.intro hst2.2 hroom.2.2)); clear hst2 hbn hroom hpl
      go_wp2_with fail
      refine Calls.mono (rpdiv_p _ _ A B M M2 _ HA.out.1 HA.out.2 HR.out.1 HR.out.2.1 HR.out.2.2.2.1 HR.out.2.2.2.2.2.1 HR.out.2.2.2.2.2.2 HR.out.2.2.1 HR.out.2.2.2.2.1) ?_
      rintro e w7 ⟨r7, rfl, ⟨qv, rv, rfl, hq, hr⟩, hx7⟩
      have hrr := hr.base_le (b := 0) (Nat.zero_le _)
      have hB7 := HA.out.2.ext hx7
      have ec7 := ec.ext hx7
      replace hx := hx.trans hx7
      have H7 := Lib.hid (And.intro hrr hB7); clear hr hrr hB7 hq hx7 ec
      go_wp2_with fail
      refine Calls.mono (rprim _ _ _ H7.out.1 (fun i => by
        have h1 := HS2.out.2.2 i
        have h2 := HX.out.1
        have h3 : (S + 1) * 2 ^ (pl F + pl G - (pl A + pl B) + (pl A + 1 - pl B)) ≤ (S + 1) * 2 ^ (pl F + pl G) * 2 := by
          have e1 : (S + 1) * 2 ^ (pl F + pl G) * 2 = (S + 1) * 2 ^ (pl F + pl G + 1) := by rw [Nat.pow_succ, Nat.mul_assoc]
          rw [e1]
          refine Nat.mul_le_mul_left _ (Nat.pow_le_pow_right (by decide) ?_)
          have := HS.out.deg
          omega
        have h4 := HX.out.2.2.2.2.2.2
        omega) (by have := psR_top HS.out.fA HS.out.fB HR.out.2.2.2.1; have := HR.out.2.2.2.2.2.2; omega)) ?_
      rintro e w8 ⟨r8, rfl, hr8, hx8⟩
      have hB8 := H7.out.2.ext hx8
      have hp8 := hr8.base_le (b := 0) (Nat.zero_le _)
      have ec8 := ec7.ext hx8
      replace hx := hx.trans hx8
      obtain ⟨A4, c4, rfl, -⟩ := hr8.shape
      have H8 := Lib.hid (And.intro hB8 hp8); clear hB8 hp8 hr8 hx8 ec7 H7
      go_wp2
      go_roundw
      case rel => exact ⟨_, _, H8.out.1, H8.out.2, HS2.out.1, ec8, hx⟩
      case measure => exact HS2.out.2.1
    · have hbz : B = pz := (pl_zero HS.out.fB).1 (by omega)
      have hroom := HS.out.room rfl
      subst hbz
      have hz := HX.out.2.2.1 A HS.out
      have HZ := Lib.hid (And.intro hz (And.intro hroom.1 (show pl A ≤ 2000 by have := HS.out.deg; have := HSt.out.2; omega))); have h0 : pl pz = 0 := pl_pz
      rw [h0]
      clear hz hroom
      obtain ⟨b, Bv, bn, bc, e8, hb8⟩ := ec
      have Hb := Lib.hid hb8; clear hb8
      obtain ⟨ce80, ce81⟩ := e8.cells2
      have fe8 := e8.frozen
      go_wp2_with fail
      have hcs : sz cc ≤ S := by
        rw [HCC.out]
        have h1 := HX.out.2.2.2.1
        by_cases e : cn F = 0
        · rw [e, Nat.gcd_zero_left]; exact h1.2
        · exact Nat.le_trans (sz_mono (Nat.gcd_le_left _ (Nat.pos_of_ne_zero e))) h1.1
      have Hcs := Lib.hid hcs; clear hcs
      refine Calls.mono (rscale _ _ A (cc : Nat) M _ HA.out.1 (Hb.out.has (by have h1 := Hcs.out; have h3 := HX.out.2.2.2.2.1; have h4 := HX.out.2.2.2.2.2.2; simp only [Int.natAbs_natCast]; omega)) (fun i => Nat.le_trans (HZ.out.2.1 i) HX.out.1) (by rw [qsz_cast]; have h1 := Hcs.out; have h3 := HX.out.2.2.2.2.1; have h4 := HX.out.2.2.2.2.2.2; simp only [Int.natAbs_natCast]; omega) (by have := HZ.out.2.2; omega)) ?_
      rintro e w9 ⟨r9, rfl, hr9, hx9⟩
      have h9 : IsZP 0 w9 r9 (zgc F G) := by
        rw [← HZ.out.1, ← HCC.out]; exact hr9
      have H9 := Lib.hid h9; clear h9 hr9
      go_wp2
      go_ret
      exact Gives.mk H9.out (hx.trans hx9)
end Go.Proofs.YtfacbpnegkjcgaaGreatDoor
namespace Go.Proofs.YtfacbpnegkjcgaaGreatDoor
open Go.RowKit Go.Hp
set_option maxRecDepth 20000 in
set_option maxHeartbeats 8000000 in
theorem zgcd_z (v u : Value) (l m : List Int) (S M : Nat) (w : World) (hv : HzV 0 w v l) (hu : HzV 0 w u m) (hs : ∀ i, qsz (cz l i) ≤ S) (ht : ∀ i, qsz (cz m i) ≤ S) (hn : l.length ≤ 549755813888) (hm : m.length ≤ 549755813888) (hM : (S + 1) * 2 ^ (pl (cz l) + pl (cz m)) ≤ M) (hB : M + (pl (cz l) + pl (cz m) + 1) * (M + 1) + M ≤ 549755813888) :
    Calls Tryz.prog 44 #[v, u] w (Gives w fun r w' => IsZP 0 w' r (zgc (cz l) (cz m))) := by
  have HV := Lib.hid hv; have HU := Lib.hid hu
  obtain ⟨A0, c0, rfl⟩ := hv.len
  obtain ⟨A1, c1, rfl⟩ := hu.len
  clear hv hu
  have hc1 := pl_le (cz_sup l)
  have hc2 := pl_le (cz_sup m)
  have hSM : S + 1 ≤ M := by
    have h : 0 < 2 ^ (pl (cz l) + pl (cz m)) := Nat.pow_pos (by decide)
    have := Nat.le_mul_of_pos_right (S + 1) h; omega
  have hcn : sz (cn (cz l)) ≤ S ∧ sz (cn (cz m)) ≤ S := ⟨cn_sz hs _, cn_sz ht _⟩
  have hst := GzSt.start (Fin_.cz l) (Fin_.cz m) (ZI.cz l) (ZI.cz m) hs ht
  have hP1 := fun W (x : Ext w W) => primitive_zp _ l W (HV.out.ext x) (by omega)
  have hP2 := fun W (x : Ext w W) => primitive_zp _ m W (HU.out.ext x) (by omega)
  have hC1 := content_zp _ l w HV.out (by omega)
  have hC2 := fun W (x : Ext w W) => content_zp _ m W (HU.out.ext x) (by omega)
  have hz := (show (∀ A, GzSt (cz l) (cz m) (pl (cz l) + pl (cz m)) S A pz → psc ((Nat.gcd (cn (cz l)) (cn (cz m)) : Nat) : Rat) A = zgc (cz l) (cz m)) from
    fun A h => (zgc_eq (h.end_ (Fin_.cz l) (Fin_.cz m) (ZI.cz l) (ZI.cz m) rfl)).symm)
  have hpl : pl (cz l) + pl (cz m) ≤ 1099511627776 := by omega
  obtain ⟨F, hF⟩ : ∃ F, F = cz l := ⟨_, rfl⟩
  obtain ⟨G, hG⟩ : ∃ G, G = cz m := ⟨_, rfl⟩
  rw [← hF] at hcn hC1
  rw [← hG] at hcn
  rw [← hF, ← hG] at hM hB hst hz hpl ⊢
  simp only [← hF] at hP1
  simp only [← hG] at hP2 hC2
  have HC := Lib.hid (And.intro hC1 (And.intro hC2 (And.intro hP1 hP2)))
  have HX := Lib.hid (And.intro hM (And.intro hB (And.intro hz (And.intro hcn hSM))))
  have HSt := Lib.hid (And.intro hst hpl)
  clear hs ht hn hm hM hB hc1 hc2 hSM hcn hst hP1 hP2 hC1 hC2 hz hF hG hpl HV HU
  go_enter Tryz.func44, Tryz.ntmps44
  go_wp2_with fail
  refine Calls.mono HC.out.1 ?_
  rintro e w1 ⟨r1, rfl, hr1, hx⟩
  go_wp2_with fail
  refine Calls.mono (HC.out.2.1 w1 hx) ?_
  rintro e w2 ⟨r2, rfl, hr2, hx2⟩
  have H12 := Lib.hid (And.intro ((hr1.kd hx2.kd).has (by have h1 := HX.out.2.2.2.1.1; have h2 := HX.out.2.2.2.2; have h3 := HX.out.2.1; simp; omega)) (hr2.has (by have h1 := HX.out.2.2.2.1.2; have h2 := HX.out.2.2.2.2; have h3 := HX.out.2.1; simp; omega)))
  replace hx := hx.trans hx2
  clear hr1 hr2 hx2
  go_wp2_with fail
  refine Calls.mono (gcd_z _ _ (cn F : Nat) (cn G : Nat) _ H12.out.1 H12.out.2) ?_
  rintro e w3 ⟨r3, rfl, hr3, hx3⟩
  obtain ⟨b5, A5, n5, c5, rfl⟩ := hr3.cells
  obtain ⟨cc, hcc⟩ : ∃ cc : Nat, cc = Nat.gcd (cn F) (cn G) := ⟨_, rfl⟩
  replace hr3 : IsZ w3 (.agg #[.bool b5, .slice A5 n5 c5]) (cc : Nat) := by rw [hcc]; exact hr3
  obtain ⟨W4, eW4, e4, x4⟩ := Box.made w3 28 #[.bool b5, .slice A5 n5 c5] (by simp [isDig])
  have ec := BoxZ.mk e4 (hr3.kd x4.kd)
  replace hx := (hx.trans hx3).trans x4
  have HCC := Lib.hid hcc
  clear hx3 x4 hr3 e4 H12 hcc
  go_wp2_with fail
  rw [← eW4]
  clear eW4
  generalize w3.heap.size = gc at *
  refine Calls.mono (HC.out.2.2.1 W4 hx) ?_
  rintro e w5 ⟨r5, rfl, hr5, hx5⟩
  have ec5 := ec.ext hx5
  replace hx := hx.trans hx5
  have H5 := Lib.hid (hr5.base_le (Nat.zero_le _)); clear hr5 hx5
  go_wp2_with fail
  refine Calls.mono (HC.out.2.2.2 w5 hx) ?_
  rintro e w6 ⟨r6, rfl, hr6, hx6⟩
  replace ec5 := ec5.ext hx6
  replace hx := hx.trans hx6
  have h5 := H5.out.ext hx6
  have h6 := hr6.base_le (Nat.zero_le _)
  clear hr6 hx6 H5
  go_wp2
  go_loopw [0, 1] (fun fv gv wr => ∃ A B, IsZP 0 wr fv A ∧ IsZP 0 wr gv B ∧ GzSt F G (pl F + pl G) S A B ∧ BoxZ wr gc 28 (cc : Nat) ∧ Ext w wr) (fun _ gv _ => lenV gv)
  case atStart => exact ⟨_, _, h5, h6, HSt.out.1, ec5, hx⟩
  case round =>
    clear h5 h6 ec5 hx ec
    obtain ⟨A, B, hA, hB, hst, ec, hx⟩ := hrel
    obtain ⟨A2, c2, rfl, -⟩ := hA.shape
    obtain ⟨A3, c3, rfl, -⟩ := hB.shape
    have HA := Lib.hid (And.intro hA hB); clear hA hB
    have HS := Lib.hid hst; clear hst
    by_cases h0 : 0 < pl B
    · have hbn : B ≠ pz := fun e => by rw [e, pl_pz] at h0; omega
      have hroom := HS.out.room rfl
      have hpl := HS.out.deg
      have HR := Lib.hid (show (∀ i, qsz (A i) ≤ M) ∧ (∀ i, qsz (B i) ≤ M) ∧ M + (pl A + 1) * (M + 1) + M ≤ 549755813888 ∧ B ≠ pz ∧ pl A ≤ 1099511627776 ∧ pl B ≤ 1099511627776 from by
        refine ⟨fun i => Nat.le_trans (hroom.1 i) HX.out.1, fun i => Nat.le_trans (hroom.2.1 i) HX.out.1, ?_, hbn, by have := HSt.out.2; omega, by have := HSt.out.2; omega⟩
        have h1 := HX.out.2.1
        have h2 : (pl A + 1) * (M + 1) ≤ (pl F + pl G + 1) * (M + 1) := Nat.mul_le_mul_right _ (by omega)
        omega)
      have hst2 := HS.out.step hbn (R := psR A B (pl A + 1 - pl B)) rfl
      have HS2 := Lib.hid (And.intro hst2.1 (And.intro hst2.2 hroom.2.2)); clear hst2 hbn hroom hpl
      go_wp2_with fail
      refine Calls.mono (pdiv_p _ _ A B M _ HA.out.1 HA.out.2 HR.out.1 HR.out.2.1 HR.out.2.2.2.1 (by have h1 := HR.out.2.2.1; have : (pl A + 1) * 1 ≤ (pl A + 1) * (M + 1) := Nat.mul_le_mul_left _ (by omega); omega) (by
        have h1 := HX.out.2.1; have h2 := HS.out.deg
        have : (pl F + pl G + 1) * 1 ≤ (pl F + pl G + 1) * (M + 1) := Nat.mul_le_mul_left _ (by omega); omega) HR.out.2.2.1) ?_
      rintro e w7 ⟨r7, rfl, ⟨qv, rv, rfl, hq, hr⟩, hx7⟩
      have hrr := hr.base_le (b := 0) (Nat.zero_le _)
      have hB7 := HA.out.2.ext hx7
      have ec7 := ec.ext hx7
      replace hx := hx.trans hx7
      have H7 := Lib.hid (And.intro hrr hB7); clear hr hrr hB7 hq hx7 ec
      go_wp2_with fail
      refine Calls.mono (primitive_p _ _ _ H7.out.1 (fun i => by
        have h1 := HS2.out.2.2 i
        have h2 := HX.out.1
        have h3 : (S + 1) * 2 ^ (pl F + pl G - (pl A + pl B) + (pl A + 1 - pl B)) ≤ (S + 1) * 2 ^ (pl F + pl G) * 2 := by
          have e1 : (S + 1) * 2 ^ (pl F + pl G) * 2 = (S + 1) * 2 ^ (pl F + pl G + 1) := by rw [Nat.pow_succ, Nat.mul_assoc]
          rw [e1]
          refine Nat.mul_le_mul_left _ (Nat.pow_le_pow_right (by decide) ?_)
          have := HS.out.deg
          omega
        have h4 := HX.out.2.1
        omega) (by have := psR_top HS.out.fA HS.out.fB HR.out.2.2.2.1; have := HR.out.2.2.2.2.2; omega)) ?_
      rintro e w8 ⟨r8, rfl, hr8, hx8⟩
      have hB8 := H7.out.2.ext hx8
      have hp8 := hr8.base_le (b := 0) (Nat.zero_le _)
      have ec8 := ec7.ext hx8
      replace hx := hx.trans hx8
      obtain ⟨A4, c4, rfl, -⟩ := hr8.shape
      have H8 := Lib.hid (And.intro hB8 hp8); clear hB8 hp8 hr8 hx8 ec7 H7
      go_wp2
      go_roundw
      case rel => exact ⟨_, _, H8.out.1, H8.out.2, HS2.out.1, ec8, hx⟩
      case measure => exact HS2.out.2.1
    · have hbz : B = pz := (pl_zero HS.out.fB).1 (by omega)
      have hroom := HS.out.room rfl
      subst hbz
      have hz := HX.out.2.2.1 A HS.out
      have HZ := Lib.hid (And.intro hz (And.intro hroom.1 (show pl A ≤ 1099511627776 by have := HS.out.deg; have := HSt.out.2; omega))); have h0 : pl pz = 0 := pl_pz
      rw [h0]
      clear hz hroom
      obtain ⟨b, Bv, bn, bc, e8, hb8⟩ := ec
      have Hb := Lib.hid hb8; clear hb8
      obtain ⟨ce80, ce81⟩ := e8.cells2
      have fe8 := e8.frozen
      go_wp2_with fail
      refine Calls.mono (zscale_pp _ _ A (cc : Nat) _ HA.out.1 (fun i => by have h1 := HZ.out.2.1 i; have h2 := HX.out.1; have h3 := HX.out.2.1; omega) (Hb.out.has (by
        rw [HCC.out]
        have h1 := HX.out.2.2.2.1
        have h2 : sz (Nat.gcd (cn F) (cn G)) ≤ S := by
          by_cases e : cn F = 0
          · rw [e, Nat.gcd_zero_left]; exact h1.2
          · exact Nat.le_trans (sz_mono (Nat.gcd_le_left _ (Nat.pos_of_ne_zero e))) h1.1
        have h3 := HX.out.2.2.2.2
        have h4 := HX.out.2.1
        simp only [Int.natAbs_natCast]
        omega)) HZ.out.2.2) ?_
      rintro e w9 ⟨r9, rfl, hr9, hx9⟩
      have h9 : IsZP 0 w9 r9 (zgc F G) := by
        rw [← HZ.out.1, ← HCC.out]; exact hr9
      have H9 := Lib.hid h9; clear h9 hr9
      go_wp2
      go_ret
      exact Gives.mk H9.out (hx.trans hx9)
theorem zgcd_p (v u : Value) (F G : Nat → Rat) (S M : Nat) (w : World) (hv : IsZP 0 w v F) (hu : IsZP 0 w u G) (hs : ∀ i, qsz (F i) ≤ S) (ht : ∀ i, qsz (G i) ≤ S) (hn : pl F ≤ 549755813888) (hm : pl G ≤ 549755813888) (hM : (S + 1) * 2 ^ (pl F + pl G) ≤ M) (hB : M + (pl F + pl G + 1) * (M + 1) + M ≤ 549755813888) :
    Calls Tryz.prog 44 #[v, u] w (Gives w fun r w' => IsZP 0 w' r (zgc F G)) := by
  have hSM : S + 1 ≤ M := by
    have h : 0 < 2 ^ (pl F + pl G) := Nat.pow_pos (by decide)
    have := Nat.le_mul_of_pos_right (S + 1) h; omega
  obtain ⟨l, h1, h2, -, rfl⟩ := hv.hz (fun i => by have := hs i; omega)
  obtain ⟨m, k1, k2, -, rfl⟩ := hu.hz (fun i => by have := ht i; omega)
  exact zgcd_z v u l m S M w h1 k1 hs ht (by omega) (by omega) hM hB
end Go.Proofs.YtfacbpnegkjcgaaGreatDoor
namespace Go.Hp
open Go.RowKit
theorem zi_cd {F : Nat → Rat} {s : Nat} (z : ZI F) (h : ∀ i, qsz (F i) ≤ s) : CD s F := by
  have h1 := one_le_qsz (F 0)
  have h2 := h 0
  refine ⟨1, bp s - 1, ⟨by omega, fun i => ⟨(F i).num, ?_, ?_⟩⟩, ?_, ?_⟩
  · have e : ((1 : Nat) : Rat) = 1 := rfl
    rw [e, ← z.num i]; grind
  · have h3 := qz_num (h i)
    have h4 := sz_le_iff.1 h3
    omega
  · have : sz 1 = 1 := by decide
    omega
  · have : 0 < bp s := by have := sz_le_iff.1 (show sz 0 ≤ s by have : sz 0 = 0 := by decide
                                                                omega); omega
    exact sz_le_of_lt (by omega)
theorem qsz_m1 : qsz (((-1 : Int)) : Rat) = 1 := by decide
theorem cvz_qsz {F G : Nat → Rat} {n s t : Nat} (zF : ZI F) (zG : ZI G) (hs : Sup n F) (hn : n < 4294967296) (h : ∀ i, qsz (F i) ≤ s) (k : ∀ i, qsz (G i) ≤ t) (i : Nat) : qsz (cv F G i) ≤ s + t + 1 :=
  (CD.cv hs hn (zi_cd zF h) (zi_cd zG k)).elem i
end Go.Hp
namespace Go.Proofs.YtfacbpnegkjcgaaGreatDoor
open Go.RowKit Go.Hp
set_option maxRecDepth 20000 in
set_option maxHeartbeats 16000000 in
theorem zgcds_law (v0 v1 v2 : Value) (l0 l1 l2 : List RawI) (w : World) (h0 : ZPolyV w v0 l0) (h1 : ZPolyV w v1 l1) (h2 : ZPolyV w v2 l2) :
    Calls Tryz.prog 7 #[v0, v1, v2] w (Gives w fun r _ => r = .bool true) := by
  have H0 := Lib.hid h0; have H1 := Lib.hid h1; have H2 := Lib.hid h2
  obtain ⟨A0, c0, rfl, k1, k2⟩ := h0.len
  obtain ⟨A1, c1, rfl, k3, k4⟩ := h1.len
  obtain ⟨A2, c2, rfl, k5, k6⟩ := h2.len
  clear h0 h1 h2
  go_enter Tryz.func7, Tryz.ntmps7
  go_wp2_with fail
  refine Calls.mono (awake_z _) ?_
  rintro e w1 ⟨r, rfl, rfl, hx⟩
  go_wp2_with fail
  refine Calls.mono (zlong_b 8 2 w1.heap.size 3 [(_, l0), (_, l1), (_, l2)] _ (by decide) (by decide) (by simp) (by simp) (listsZ_three w1 _ (H0.out.ext hx) (H1.out.ext hx) (H2.out.ext hx) rfl)) ?_
  rintro e w2 ⟨rfl, b, rfl, hb⟩
  replace hx := hx.alloc (.cells #[.slice A0 l0.length c0, .slice A1 l1.length c1, .slice A2 l2.length c2] 23)
  have Hb := Lib.hid hb; clear hb
  generalize w1.alloc (.cells #[.slice A0 l0.length c0, .slice A1 l1.length c1, .slice A2 l2.length c2] 23) = wb at hx ⊢
  cases b with
  | true =>
    go_wp2
    go_ret
    exact Gives.mk rfl hx
  | false =>
    obtain ⟨hl0, hs0⟩ := Hb.out (by trivial) (.slice A0 l0.length c0, l0) (by simp)
    obtain ⟨hl1, hs1⟩ := Hb.out (by trivial) (.slice A1 l1.length c1, l1) (by simp)
    obtain ⟨hl2, hs2⟩ := Hb.out (by trivial) (.slice A2 l2.length c2, l2) (by simp)
    simp only at hl0 hs0 hl1 hs1 hl2 hs2
    have P0 := Lib.hid (H0.out.has hs0).1; have P1 := Lib.hid (H1.out.has hs1).1; have P2 := Lib.hid (H2.out.has hs2).1
    have HC := Lib.hid (And.intro (H0.out.qsz hs0) (And.intro (H1.out.qsz hs1) (H2.out.qsz hs2)))
    have hll0 : (l0.map zOf).length = l0.length := by simp
    have hll1 : (l1.map zOf).length = l1.length := by simp
    have hll2 : (l2.map zOf).length = l2.length := by simp
    obtain ⟨m0, hm0⟩ : ∃ m0, m0 = l0.map zOf := ⟨_, rfl⟩
    obtain ⟨m1, hm1⟩ : ∃ m1, m1 = l1.map zOf := ⟨_, rfl⟩
    obtain ⟨m2, hm2⟩ : ∃ m2, m2 = l2.map zOf := ⟨_, rfl⟩
    rw [← hm0] at P0 HC hll0
    rw [← hm1] at P1 HC hll1
    rw [← hm2] at P2 HC hll2
    rw [← hll0] at hl0 k1 P0 ⊢
    rw [← hll1] at hl1 k3 P1 ⊢
    rw [← hll2] at hl2 k5 P2 ⊢
    clear hs0 hs1 hs2 hm0 hm1 hm2 hll0 hll1 hll2 Hb H0 H1 H2
    have hp0 := pl_le (cz_sup m0)
    have hp1 := pl_le (cz_sup m1)
    have hp2 := pl_le (cz_sup m2)
    have hpow : 2 ^ (pl (cz m0) + pl (cz m1)) ≤ 2 ^ 16 := Nat.pow_le_pow_right (by decide) (by omega)
    have hZ := zgc_all (Fin_.cz m0) (Fin_.cz m1) (ZI.cz m0) (ZI.cz m1) HC.out.1 HC.out.2.1
    have hZp := zgc_pl (Fin_.cz m0) (Fin_.cz m1) (ZI.cz m0) (ZI.cz m1) HC.out.1 HC.out.2.1
    have s0 : Sup 8 (cz m0) := (cz_sup m0).mono (by omega)
    have s1 : Sup 8 (cz m1) := (cz_sup m1).mono (by omega)
    have s2 : Sup 8 (cz m2) := (cz_sup m2).mono (by omega)
    have f02 := (Fin_.cz m0).cv (Fin_.cz m2)
    have f12 := (Fin_.cz m1).cv (Fin_.cz m2)
    have z02 := (ZI.cz m0).cv (ZI.cz m2)
    have z12 := (ZI.cz m1).cv (ZI.cz m2)
    have q02 := cvz_qsz (ZI.cz m0) (ZI.cz m2) s0 (by decide) HC.out.1 HC.out.2.2
    have q12 := cvz_qsz (ZI.cz m1) (ZI.cz m2) s1 (by decide) HC.out.2.1 HC.out.2.2
    have p02 : pl (cv (cz m0) (cz m2)) ≤ 15 := pl_le ((s0.cv s2).mono (by omega))
    have p12 : pl (cv (cz m1) (cz m2)) ≤ 15 := pl_le ((s1.cv s2).mono (by omega))
    have hZ2 := zgc_all f02 f12 z02 z12 q02 q12
    have hZ2p := zgc_pl f02 f12 z02 z12 q02 q12
    have hcom := hZ.1.common (Fin_.cz m0) (Fin_.cz m1) (ZI.cz m0) (ZI.cz m1) (Fin_.cz m2) (ZI.cz m2) hZ2.1
    have hDq : ∀ i, qsz (zgc (cz m0) (cz m1) i) ≤ 196614 := fun i => by have := hZ.2 i; omega
    have hD8 : Sup 8 (zgc (cz m0) (cz m1)) := (pl_sup hZ.1.1).mono (by omega)
    have hcq : ∀ i, qsz (cv (zgc (cz m0) (cz m1)) (cz m2) i) ≤ 196617 := fun i => cvz_qsz hZ.1.2.1 (ZI.cz m2) hD8 (by decide) hDq HC.out.2.2 i
    have hcp : pl (cv (zgc (cz m0) (cz m1)) (cz m2)) ≤ 15 := pl_le ((hD8.cv s2).mono (by omega))
    have HP := Lib.hid (show (IsZG (cz m0) (cz m1) (zgc (cz m0) (cz m1)) ∧ ∀ i, qsz (zgc (cz m0) (cz m1) i) ≤ 196614) ∧ pl (zgc (cz m0) (cz m1)) ≤ 8 ∧ ((∀ i, qsz (cv (cz m0) (cz m2) i) ≤ 5) ∧ (∀ i, qsz (cv (cz m1) (cz m2) i) ≤ 5) ∧ pl (cv (cz m0) (cz m2)) ≤ 15 ∧ pl (cv (cz m1) (cz m2)) ≤ 15) ∧ pl (zgc (cv (cz m0) (cz m2)) (cv (cz m1) (cz m2))) ≤ 15 ∧ (zgc (cv (cz m0) (cz m2)) (cv (cz m1) (cz m2)) = cv (zgc (cz m0) (cz m1)) (cz m2) ∨ zgc (cv (cz m0) (cz m2)) (cv (cz m1) (cz m2)) = psc ((-1 : Int) : Rat) (cv (zgc (cz m0) (cz m1)) (cz m2))) ∧ (∀ i, qsz (cv (zgc (cz m0) (cz m1)) (cz m2) i) ≤ 196617) ∧ pl (cv (zgc (cz m0) (cz m1)) (cz m2)) ≤ 15 from
      ⟨⟨hZ.1, hDq⟩, by omega, ⟨q02, q12, p02, p12⟩, by omega, hcom, hcq, hcp⟩)
    obtain ⟨Mg, hMg⟩ : ∃ Mg : Nat, Mg = 196608 := ⟨_, rfl⟩
    obtain ⟨Mh, hMh⟩ : ∃ Mh : Nat, Mh = 6442450944 := ⟨_, rfl⟩
    have HB := Lib.hid (show (2 + 1) * 2 ^ (pl (cz m0) + pl (cz m1)) ≤ Mg ∧ Mg + (pl (cz m0) + pl (cz m1) + 1) * (Mg + 1) + Mg ≤ 549755813888 ∧ Mg + (pl (cz m0) + pl (cz m1) + 2) * (Mg + 1) + Mg + 1 ≤ 4000000 ∧ 2 + (2 * (pl (cz m0) + pl (cz m1)) + 4) * (2 * 4000000 + 4) ≤ 274877906944 from by
      have e1 : (pl (cz m0) + pl (cz m1) + 1) * (Mg + 1) ≤ 17 * (Mg + 1) := Nat.mul_le_mul_right _ (by omega)
      have e2 : (pl (cz m0) + pl (cz m1) + 2) * (Mg + 1) ≤ 18 * (Mg + 1) := Nat.mul_le_mul_right _ (by omega)
      have e3 : (2 * (pl (cz m0) + pl (cz m1)) + 4) * (2 * 4000000 + 4) ≤ 36 * (2 * 4000000 + 4) := Nat.mul_le_mul_right _ (by omega)
      refine ⟨?_, ?_, ?_, ?_⟩ <;> omega)
    have HG := Lib.hid (show (5 + 1) * 2 ^ (pl (cv (cz m0) (cz m2)) + pl (cv (cz m1) (cz m2))) ≤ Mh ∧ Mh + (pl (cv (cz m0) (cz m2)) + pl (cv (cz m1) (cz m2)) + 1) * (Mh + 1) + Mh ≤ 549755813888 from by
      have e1 : 2 ^ (pl (cv (cz m0) (cz m2)) + pl (cv (cz m1) (cz m2))) ≤ 2 ^ 30 := Nat.pow_le_pow_right (by decide) (by omega)
      have e2 : (pl (cv (cz m0) (cz m2)) + pl (cv (cz m1) (cz m2)) + 1) * (Mh + 1) ≤ 31 * (Mh + 1) := Nat.mul_le_mul_right _ (by omega)
      refine ⟨?_, ?_⟩ <;> omega)
    clear hMg hMh
    clear hpow hZ hZp s0 s1 s2 f02 f12 z02 z12 q02 q12 p02 p12 hZ2 hZ2p hcom hDq hD8 hcq hcp
    go_wp2_with fail
    refine Calls.mono (zgcd_z _ _ m0 m1 2 Mg _ (P0.out.ext hx) (P1.out.ext hx) HC.out.1 HC.out.2.1 (by omega) (by omega) HB.out.1 HB.out.2.1) ?_
    rintro e w3 ⟨r3, rfl, hr3, hx3⟩
    obtain ⟨A3, c3, rfl, -⟩ := hr3.shape
    replace hx := hx.trans hx3
    have H3 := Lib.hid hr3; clear hr3 hx3
    go_wp2_with fail
    refine Calls.mono (rgcd_z _ _ m0 m1 2 Mg 4000000 _ (P0.out.ext hx) (P1.out.ext hx) HC.out.1 HC.out.2.1 (by omega) (by omega) HB.out.1 HB.out.2.2.1 HB.out.2.2.2) ?_
    rintro e w4 ⟨r4, rfl, hr4, hx4⟩
    replace hx := hx.trans hx4
    have H4 := Lib.hid (And.intro (H3.out.ext hx4) hr4); clear hr4 hx4 H3
    go_wp2_with fail
    refine Calls.mono (sameints_t _ _ _ _ _ _ H4.out.1 H4.out.2 (by have := HP.out.2.1; omega)) ?_
    rintro e w5 ⟨r5, rfl, rfl, hx5⟩
    replace hx := hx.trans hx5
    have H5 := Lib.hid (H4.out.1.ext hx5); clear hx5 H4
    obtain ⟨dl, g1, g2, -, g4⟩ := H5.out.hz (fun i => by have := HP.out.1.2 i; omega)
    have HDl := Lib.hid (And.intro g1 (And.intro g2 g4)); clear g1 g2 g4
    have xd := Ext.refl w5
    by_cases hpd : 0 < pl (zgc (cz m0) (cz m1))
    · have hDn : zgc (cz m0) (cz m1) ≠ pz := fun e => by rw [e, pl_pz] at hpd; omega
      have HZd := Lib.hid (And.intro (HP.out.1.1.zdv (ZI.cz m0) (Fin_.cz m0) hDn) (And.intro (HP.out.1.1.symm_.zdv (ZI.cz m1) (Fin_.cz m1) hDn) hDn)); clear hDn
      go_wp2_with fail
      refine Calls.mono (zdivide_z _ _ m0 dl 2 196614 _ (P0.out.ext hx) (HDl.out.1.ext xd) HC.out.1 (by rw [HDl.out.2.2]; exact HP.out.1.2) (by omega) (by have := HDl.out.2.1; have := HP.out.2.1; omega) (by rw [HDl.out.2.2]; exact HZd.out.2.2) (by have : (m0.length + 2) * (196614 + 1) ≤ 10 * 196615 := Nat.mul_le_mul_right _ (by omega); omega)) ?_
      rintro e w6 ⟨r6, rfl, hz6, hx6⟩
      rw [HDl.out.2.2] at hz6
      obtain ⟨q6, rfl, -⟩ := hz6.1 HZd.out.1
      replace hx := hx.trans hx6
      replace xd := xd.trans hx6
      clear hz6 hx6
      go_wp2_with fail
      refine Calls.mono (zdivide_z _ _ m1 dl 2 196614 _ (P1.out.ext hx) (HDl.out.1.ext xd) HC.out.2.1 (by rw [HDl.out.2.2]; exact HP.out.1.2) (by omega) (by have := HDl.out.2.1; have := HP.out.2.1; omega) (by rw [HDl.out.2.2]; exact HZd.out.2.2) (by have : (m1.length + 2) * (196614 + 1) ≤ 10 * 196615 := Nat.mul_le_mul_right _ (by omega); omega)) ?_
      rintro e w7 ⟨r7, rfl, hz7, hx7⟩
      rw [HDl.out.2.2] at hz7
      obtain ⟨q7, rfl, -⟩ := hz7.1 HZd.out.2.1
      replace hx := hx.trans hx7
      replace xd := xd.trans hx7
      clear hz7 hx7
      -- the common factor
      go_wp2_with fail
      refine Calls.mono (zmul_p _ _ dl m2 196614 2 _ (HDl.out.1.ext xd) (P2.out.ext hx) (by rw [HDl.out.2.2]; exact HP.out.1.2) HC.out.2.2 (by have := HDl.out.2.1; have := HP.out.2.1; omega) (by omega) (by
        have h1 := HDl.out.2.1
        have h2 := HP.out.2.1
        have : (dl.length + 1) * (196614 + 2 + 1) ≤ 9 * 196617 := Nat.mul_le_mul_right _ (by omega)
        omega)) ?_
      rintro e w20 ⟨r20, rfl, hr20, hx20⟩
      rw [HDl.out.2.2] at hr20
      obtain ⟨A20, c20, rfl, -⟩ := hr20.shape
      replace hx := hx.trans hx20
      have H20 := Lib.hid (hr20.base_le (b := 0) (Nat.zero_le _)); clear hr20 hx20
      go_wp2_with fail
      refine Calls.mono (zmul_p _ _ m0 m2 2 2 _ (P0.out.ext hx) (P2.out.ext hx) HC.out.1 HC.out.2.2 (by omega) (by omega) (by have : (m0.length + 1) * (2 + 2 + 1) ≤ 9 * 5 := Nat.mul_le_mul_right _ (by omega); omega)) ?_
      rintro e w21 ⟨r21, rfl, hr21, hx21⟩
      replace hx := hx.trans hx21
      have H21 := Lib.hid (And.intro (H20.out.ext hx21) (hr21.base_le (b := 0) (Nat.zero_le _))); clear hr21 hx21 H20
      go_wp2_with fail
      refine Calls.mono (zmul_p _ _ m1 m2 2 2 _ (P1.out.ext hx) (P2.out.ext hx) HC.out.2.1 HC.out.2.2 (by omega) (by omega) (by have : (m1.length + 1) * (2 + 2 + 1) ≤ 9 * 5 := Nat.mul_le_mul_right _ (by omega); omega)) ?_
      rintro e w22 ⟨r22, rfl, hr22, hx22⟩
      replace hx := hx.trans hx22
      have H22 := Lib.hid (And.intro (H21.out.1.ext hx22) (And.intro (H21.out.2.ext hx22) (hr22.base_le (b := 0) (Nat.zero_le _)))); clear hr22 hx22 H21
      go_wp2_with fail
      refine Calls.mono (zgcd_p _ _ (cv (cz m0) (cz m2)) (cv (cz m1) (cz m2)) 5 Mh _ H22.out.2.1 H22.out.2.2 HP.out.2.2.1.1 HP.out.2.2.1.2.1 (by have := HP.out.2.2.1.2.2.1; omega) (by have := HP.out.2.2.1.2.2.2; omega) HG.out.1 HG.out.2) ?_
      rintro e w23 ⟨r23, rfl, hr23, hx23⟩
      obtain ⟨A23, c23, rfl, -⟩ := hr23.shape
      replace hx := hx.trans hx23
      have H23 := Lib.hid (And.intro (H22.out.1.ext hx23) hr23); clear hr23 hx23 H22
      go_wp2_with fail
      refine Calls.mono (sameints_p _ _ _ _ _ _ _ H23.out.2 H23.out.1 (by have := HP.out.2.2.2.1; omega)) ?_
      rintro e w24 ⟨r24, rfl, ⟨b24, rfl, hb24⟩, hx24⟩
      replace hx := hx.trans hx24
      have H24 := Lib.hid (And.intro (H23.out.1.ext hx24) (And.intro (H23.out.2.ext hx24) hb24)); clear hx24 H23 hb24
      cases b24 with
      | true =>
        go_wp2
        go_ret
        exact Gives.mk rfl hx
      | false =>
        have hneg := HP.out.2.2.2.2.1.resolve_left (fun e => by have := H24.out.2.2.2 e; cases this)
        have HNeg := Lib.hid hneg; clear hneg
        go_wp2_with fail
        refine Calls.mono (z_b (-1) _ (by omega) (by omega)) ?_
        rintro e w25 ⟨r25, rfl, hr25, hx25⟩
        replace hx := hx.trans hx25
        have H25 := Lib.hid (And.intro (H24.out.1.ext hx25) (And.intro (H24.out.2.1.ext hx25) (hr25.has (by decide)))); clear hr25 hx25 H24
        go_wp2_with fail
        refine Calls.mono (rscale _ _ (cv (zgc (cz m0) (cz m1)) (cz m2)) (-1) 196617 _ H25.out.1 H25.out.2.2 HP.out.2.2.2.2.2.1 (by have := qsz_m1; omega) (by have := HP.out.2.2.2.2.2.2; omega)) ?_
        rintro e w26 ⟨r26, rfl, hr26, hx26⟩
        rw [← HNeg.out] at hr26
        replace hx := hx.trans hx26
        have H26 := Lib.hid (And.intro (H25.out.2.1.ext hx26) hr26); clear hr26 hx26 H25
        go_wp2_with fail
        refine Calls.mono (sameints_t _ _ _ _ _ _ H26.out.1 H26.out.2 (by have := HP.out.2.2.2.1; omega)) ?_
        rintro e w27 ⟨r27, rfl, rfl, hx27⟩
        replace hx := hx.trans hx27
        go_wp2
        go_ret
        exact Gives.mk rfl hx
    · skip
      -- the common factor
      go_wp2_with fail
      refine Calls.mono (zmul_p _ _ dl m2 196614 2 _ (HDl.out.1.ext xd) (P2.out.ext hx) (by rw [HDl.out.2.2]; exact HP.out.1.2) HC.out.2.2 (by have := HDl.out.2.1; have := HP.out.2.1; omega) (by omega) (by
        have h1 := HDl.out.2.1
        have h2 := HP.out.2.1
        have : (dl.length + 1) * (196614 + 2 + 1) ≤ 9 * 196617 := Nat.mul_le_mul_right _ (by omega)
        omega)) ?_
      rintro e w20 ⟨r20, rfl, hr20, hx20⟩
      rw [HDl.out.2.2] at hr20
      obtain ⟨A20, c20, rfl, -⟩ := hr20.shape
      replace hx := hx.trans hx20
      have H20 := Lib.hid (hr20.base_le (b := 0) (Nat.zero_le _)); clear hr20 hx20
      go_wp2_with fail
      refine Calls.mono (zmul_p _ _ m0 m2 2 2 _ (P0.out.ext hx) (P2.out.ext hx) HC.out.1 HC.out.2.2 (by omega) (by omega) (by have : (m0.length + 1) * (2 + 2 + 1) ≤ 9 * 5 := Nat.mul_le_mul_right _ (by omega); omega)) ?_
      rintro e w21 ⟨r21, rfl, hr21, hx21⟩
      replace hx := hx.trans hx21
      have H21 := Lib.hid (And.intro (H20.out.ext hx21) (hr21.base_le (b := 0) (Nat.zero_le _))); clear hr21 hx21 H20
      go_wp2_with fail
      refine Calls.mono (zmul_p _ _ m1 m2 2 2 _ (P1.out.ext hx) (P2.out.ext hx) HC.out.2.1 HC.out.2.2 (by omega) (by omega) (by have : (m1.length + 1) * (2 + 2 + 1) ≤ 9 * 5 := Nat.mul_le_mul_right _ (by omega); omega)) ?_
      rintro e w22 ⟨r22, rfl, hr22, hx22⟩
      replace hx := hx.trans hx22
      have H22 := Lib.hid (And.intro (H21.out.1.ext hx22) (And.intro (H21.out.2.ext hx22) (hr22.base_le (b := 0) (Nat.zero_le _)))); clear hr22 hx22 H21
      go_wp2_with fail
      refine Calls.mono (zgcd_p _ _ (cv (cz m0) (cz m2)) (cv (cz m1) (cz m2)) 5 Mh _ H22.out.2.1 H22.out.2.2 HP.out.2.2.1.1 HP.out.2.2.1.2.1 (by have := HP.out.2.2.1.2.2.1; omega) (by have := HP.out.2.2.1.2.2.2; omega) HG.out.1 HG.out.2) ?_
      rintro e w23 ⟨r23, rfl, hr23, hx23⟩
      obtain ⟨A23, c23, rfl, -⟩ := hr23.shape
      replace hx := hx.trans hx23
      have H23 := Lib.hid (And.intro (H22.out.1.ext hx23) hr23); clear hr23 hx23 H22
      go_wp2_with fail
      refine Calls.mono (sameints_p _ _ _ _ _ _ _ H23.out.2 H23.out.1 (by have := HP.out.2.2.2.1; omega)) ?_
      rintro e w24 ⟨r24, rfl, ⟨b24, rfl, hb24⟩, hx24⟩
      replace hx := hx.trans hx24
      have H24 := Lib.hid (And.intro (H23.out.1.ext hx24) (And.intro (H23.out.2.ext hx24) hb24)); clear hx24 H23 hb24
      cases b24 with
      | true =>
        go_wp2
        go_ret
        exact Gives.mk rfl hx
      | false =>
        have hneg := HP.out.2.2.2.2.1.resolve_left (fun e => by have := H24.out.2.2.2 e; cases this)
        have HNeg := Lib.hid hneg; clear hneg
        go_wp2_with fail
        refine Calls.mono (z_b (-1) _ (by omega) (by omega)) ?_
        rintro e w25 ⟨r25, rfl, hr25, hx25⟩
        replace hx := hx.trans hx25
        have H25 := Lib.hid (And.intro (H24.out.1.ext hx25) (And.intro (H24.out.2.1.ext hx25) (hr25.has (by decide)))); clear hr25 hx25 H24
        go_wp2_with fail
        refine Calls.mono (rscale _ _ (cv (zgc (cz m0) (cz m1)) (cz m2)) (-1) 196617 _ H25.out.1 H25.out.2.2 HP.out.2.2.2.2.2.1 (by have := qsz_m1; omega) (by have := HP.out.2.2.2.2.2.2; omega)) ?_
        rintro e w26 ⟨r26, rfl, hr26, hx26⟩
        rw [← HNeg.out] at hr26
        replace hx := hx.trans hx26
        have H26 := Lib.hid (And.intro (H25.out.2.1.ext hx26) hr26); clear hr26 hx26 H25
        go_wp2_with fail
        refine Calls.mono (sameints_t _ _ _ _ _ _ H26.out.1 H26.out.2 (by have := HP.out.2.2.2.1; omega)) ?_
        rintro e w27 ⟨r27, rfl, rfl, hx27⟩
        replace hx := hx.trans hx27
        go_wp2
        go_ret
        exact Gives.mk rfl hx
end Go.Proofs.YtfacbpnegkjcgaaGreatDoor
namespace Go.Proofs.YtfacbpnegkjcgaaGreatDoor
open Go.ChangeShapes Go.WideShapes Go.ChangeAt Go.RowKit Go.Hp
open Go.ChangeMaps (open_string shut_string)
theorem own_ : ownKnob Tryz.prog.godebug = none := by kernel_rfl
theorem laidOut_ : laidOutB Tryz.prog = true := by kernel_rfl
theorem zpolyGcds_door (os : Os) (args : Array Value) : laidMetH Tryz.prog [("math/bits.deBruijn32tab", Rows.laid_math_bits_deBruijn32tab), ("math/bits.deBruijn64tab", Rows.laid_math_bits_deBruijn64tab), ("internal/strconv.uint64pow10", Rows.laid_internal_strconv_uint64pow10)] ((World.doorLaid Tryz.prog 400 os).forCall (fun _ _ => 0) ⟨#[], args, []⟩).memory :=
  laidMetH_of_parts3 (fuel := 8) (laidMet_of_run' 8 (by kernel_rfl) (by kernel_rfl)) (by kernel_rfl) (by kernel_rfl)
set_option maxRecDepth 100000 in
theorem zpolyGcds_lifted (os : Os) (started : os.Started) (H : Type) (enc : TypeId × Value → H) :
    ReturnsInHanded {} Tryz.checked os 7 .any (fun w args => (Rows.zpolyGcdsSpec.pre enc Tryz.prog Tryz.f7 [] false w args ∧ laidMetH Tryz.prog [("math/bits.deBruijn32tab", Rows.laid_math_bits_deBruijn32tab), ("math/bits.deBruijn64tab", Rows.laid_math_bits_deBruijn64tab), ("internal/strconv.uint64pow10", Rows.laid_internal_strconv_uint64pow10)] w) ∧ sizedMet enc Tryz.prog Tryz.f7 (OpenSpec.ofChange Rows.zpolyGcdsSpec) false w args)
      (Rows.zpolyGcdsSpec.post enc Tryz.prog Tryz.f7 false true false false) := by
  refine returnsInHanded_of_change_and (C := Tryz.checked) (X := fun w _ => laidMetH Tryz.prog [("math/bits.deBruijn32tab", Rows.laid_math_bits_deBruijn32tab), ("math/bits.deBruijn64tab", Rows.laid_math_bits_deBruijn64tab), ("internal/strconv.uint64pow10", Rows.laid_internal_strconv_uint64pow10)] w) (fun _ _ _ hh h => h.of_heap hh) own_ started (by kernel_rfl) Tryz.func7
    (ChangeSpec.witness_shaped (enc := enc) (C := Tryz.checked) (os := os) (X := fun w _ => laidMetH Tryz.prog [("math/bits.deBruijn32tab", Rows.laid_math_bits_deBruijn32tab), ("math/bits.deBruijn64tab", Rows.laid_math_bits_deBruijn64tab), ("internal/strconv.uint64pow10", Rows.laid_internal_strconv_uint64pow10)] w) false (World.doorLaid Tryz.prog 400 os) #[.slice none 0 0, .slice none 0 0, .slice none 0 0] 8 rfl (World.shaped_of_RefB (by kernel_rfl) (by kernel_rfl)) (by kernel_rfl) (by kernel_rfl) (by kernel_rfl) (zpolyGcds_door os _)) ?_
  intro W base args ds gs before hval0 hW _ _ hL _
  clear hL
  have hval : ∀ (j : Nat) t v, Tryz.f7.params[j]? = some t → args[j]? = some v → Value.okWide Tryz.prog W .any base t v := hval0
  have hW' := hW
  obtain ⟨p, q, hA0, hV, rfl, hfz, hnd⟩ := hW
  have hA : DataW.TrodAll enc Tryz.prog W 0 (fun _ => true) true Tryz.f7.params.toList args.toList ds p := hA0
  rw [Tryz.params7] at hA hval
  obtain ⟨v0, v1, v2, d0, d1, d2, p0, p1, p2, hargs, rfl, rfl, h0, h1, h2⟩ := trodAll_three hA
  obtain rfl : args = #[v0, v1, v2] := by cases args; simp_all
  obtain ⟨rfl, rfl⟩ := trodVars_none hV
  have lt0 : ∀ x ∈ p0, x.block < W.heap.size := by obtain ⟨m, hm⟩ := h0; exact DataW.trod_lt m _ _ _ hm
  have lt1 : ∀ x ∈ p1, x.block < W.heap.size := by obtain ⟨m, hm⟩ := h1; exact DataW.trod_lt m _ _ _ hm
  have lt2 : ∀ x ∈ p2, x.block < W.heap.size := by obtain ⟨m, hm⟩ := h2; exact DataW.trod_lt m _ _ _ hm
  obtain ⟨l0, w0⟩ : ∃ l, ZPolyV W v0 l := by obtain ⟨m, hm⟩ := h0; exact open_zpoly Tryz.underlying23 hm (okWide_slice Tryz.underlying23 (hval 0 23 v0 rfl rfl))
  obtain ⟨l1, w1⟩ : ∃ l, ZPolyV W v1 l := by obtain ⟨m, hm⟩ := h1; exact open_zpoly Tryz.underlying23 hm (okWide_slice Tryz.underlying23 (hval 1 23 v1 rfl rfl))
  obtain ⟨l2, w2⟩ : ∃ l, ZPolyV W v2 l := by obtain ⟨m, hm⟩ := h2; exact open_zpoly Tryz.underlying23 hm (okWide_slice Tryz.underlying23 (hval 2 23 v2 rfl rfl))
  clear hA0 hval0
  refine (zgcds_law v0 v1 v2 l0 l1 l2 W w0 w1 w2).mono fun e W' ⟨v, he, hv, bel⟩ => ?_
  subst he hv
  exact ⟨_, rfl, _, _, _, [], _, [], hW', trodAll_mk1 (shut_bool Tryz.underlying4 _), (trodAll_cons_mk (Below.trod laidOut_ (by kernel_rfl) (of_decide_eq_true (by kernel_rfl)) h0 bel lt0) (trodAll_cons_mk (Below.trod laidOut_ (by kernel_rfl) (of_decide_eq_true (by kernel_rfl)) h1 bel lt1) (trodAll_cons_mk (Below.trod laidOut_ (by kernel_rfl) (of_decide_eq_true (by kernel_rfl)) h2 bel lt2) trodAll_mk0))), rfl, bel.frame _, fun h => by cases h⟩
theorem zpolyGcds_over : Rows.zpolyGcdsRow.holds Tryz.pinned (OpenSpec.ofChange Rows.zpolyGcdsSpec) :=
  OpenClaim.holds_of_wide 7 Tryz.f7 rfl rfl rfl rfl rfl rfl rfl ⟨rfl, rfl, rfl, rfl, rfl⟩ rfl rfl rfl rfl rfl (by kernel_rfl) Tryz.func7 (by kernel_rfl)
    (of_decide_eq_true (by kernel_rfl)) (by unfold Func.isWrapper; first | (rw [if_pos (by decide +kernel)]; kernel_rfl) | (rw [if_neg (by decide +kernel)]; exact ⟨rfl, rfl⟩))
    (fun os started H enc _ => zpolyGcds_lifted os started H enc)
theorem zpolyGcds_proved : Rows.ZpolyGcdsSaid := zpolyGcds_over
theorem zpolyGcds_card : Rows.ZpolyGcdsCardSaid :=
  Claim7.holds_tied_plain_at .later [] [.data, .data, .data] true _ false
    zpolyGcds_over (fun _ h => by cases h) (by kernel_rfl) (fun _ h => by cases h) zpolyGcds_row_tie rfl ⟨rfl, rfl⟩ (by kernel_rfl) rfl
    (fun f fn hf hfn => by
      obtain rfl : f = 7 := Option.some.inj ((show Tryz.prog.funcNamed "halfplane/halfplanelaw05.ZpolyGcds" = some 7 by kernel_rfl).symm.trans hf) |>.symm
      obtain rfl : fn = Tryz.f7 := (Option.some.inj (Tryz.func7.symm.trans hfn)).symm
      exact ⟨by kernel_rfl, fun j t ht => by
        rw [Tryz.params7] at ht
        have hm : t ∈ [23] := by simpa using Array.mem_of_getElem? ht
        have hall : ([23].all fun u => !Tryz.prog.wantsStandIn u) = true := by kernel_rfl
        exact (show Tryz.prog.wantsStandIn t = false by simpa using List.all_eq_true.1 hall t hm)⟩)
    (by kernel_rfl)
end Go.Proofs.YtfacbpnegkjcgaaGreatDoor
