/- The statement ZpolyContents holds: for every two polynomials over the integers the law returns true, and the arguments read afterwards as before. Package-level tables as the program's text lays them (the card ties them); no other condition. -/
import Derived.Test.YtfacbpnegkjcgaaGreatDoorCt1
import Derived.Test.YtfacbpnegkjcgaaGreatDoorCt2
import Derived.Test.YtfacbpnegkjcgaaGreatDoorCt3
import Derived.Test.YtfacbpnegkjcgaaGreatDoorCt4
import Derived.Test.YtfacbpnegkjcgaaGreatDoorRows
import Derived.Test.YtfacbpnegkjcgaaGreatDoorCards
import Derived.Test.YtfacbpnegkjcgaaGreatDoorTie
import Derived.WalkKit
import Derived.ProofKit
import Derived.LaidMore
import Derived.OpenShut
import Derived.ShutString
import Derived.ChangeOld
import Derived.Below
import Derived.SevenTiedAt
import Derived.Stop.Joined
set_option linter.unusedVariables false
set_option linter.unusedSimpArgs false
namespace Go.Hp
open Go.RowKit
theorem div_at {F : Nat → Rat} {a : Int} (hz : ZI F) (ha : a ≠ 0) (i : Nat) (hd : a ∣ (F i).num) : psc (1 / (a : Rat)) F i = (((F i).num / a : Int) : Rat) := by
  obtain ⟨k, hk⟩ := hd
  have ha' : (a : Rat) ≠ 0 := fun e => ha (by exact_mod_cast e)
  rw [hk, Int.mul_ediv_cancel_left _ ha]
  show 1 / (a : Rat) * F i = _
  rw [hz.num i, hk, Rat.intCast_mul]
  grind
theorem lzf_hz {base : Nat} {w : World} {v : Value} {n : Nat} {F : Nat → Rat} {e : TypeId} (h : OwnZ base e w v (lzf n F)) (hs : ∀ i, qsz (F i) ≤ 1099511627776) : HzV 0 w v (lzf n F) :=
  ZsV.has h.row fun x hx => by
    obtain ⟨i, hi, rfl⟩ := List.getElem_of_mem hx
    rw [lzf_get]
    have := hs i
    unfold qsz at this; omega
end Go.Hp
namespace Go.Proofs.YtfacbpnegkjcgaaGreatDoor
open Go.RowKit Go.Hp
theorem append_nz (W : World) (v x : Value) (base b ty : Nat) (l : List Int) (q : Int) (h : OwnZ base 28 W v l) (hx : NewZ W x b q 28) (hn : l.length ≤ 1099511627776) (hb : base ≤ W.heap.size) :
    ∃ v' w', (Builtin.append_ #[22, 22] ty #[v, x]).run Tryz.prog W = .ok v' w' ∧ (OwnZ base 28 w' v' (l ++ [q]) ∧ Upd (blk v) W w') := by
  obtain ⟨g, cs, rfl, h1, h2, h3, h4⟩ := hx
  obtain ⟨i0, hi, hz0, hz1, hz2⟩ := info_parts info_int
  have ho := IsZ.one h4
  obtain ⟨v', w', a, b, c⟩ := OwnR.append (P := Tryz.prog) h 22 ty i0 _ 32 Tryz.underlying22 hi hz0 hz1 hz2 rfl (by simp [nodig, isDig, Value.cells]) (by decide) ⟨g, 0, none⟩ 1 cs h3 h4 h2.news ho.1 ho.2.1 (small_lenz hn) (by omega) hb (fun _ _ _ k hq => IsZ.kd hq k)
  exact ⟨v', w', a, b, c⟩
set_option maxHeartbeats 1000000 in
theorem content_rz (v : Value) (l : List Int) (w : World) (hv : HzV 0 w v l) (hs : ∀ i, qsz (cz l i) ≤ 549755813888) (hn : l.length ≤ 1099511627776) : Calls Tryz.prog 16 #[v] w (Gives w fun r w' => IsZ w' r (cn (cz l) : Nat)) := by
  obtain ⟨A, c, rfl, hl, hc, hA⟩ := hv
  have HA : Hid (HzAt 0 w A l) := Lib.hid hA; clear hA
  have HS := Lib.hid hs; clear hs
  rw [cn_eq (cz_sup l)]
  go_enter Tryz.func16, Tryz.ntmps16
  go_wp2_with fail
  refine Calls.mono (of_r 0 _ (by omega) (by omega)) ?_
  rintro e w1 ⟨r, rfl, hr, hx1⟩
  obtain ⟨b5, A5, n5, c5, rfl⟩ := hr.cells
  have ea := (Box.new w 28 #[.bool false, .slice none 0 0] (by simp [isDig])).ext hx1
  obtain ⟨W0, eW, eb, x0⟩ := Box.made w1 28 #[.bool b5, .slice A5 n5 c5] (by simp [isDig])
  replace hr := hr.kd x0.kd
  replace ea := ea.ext x0
  have hs1 := hx1.size
  have hx := hx1.a1.trans x0
  have hgb : w.heap.size < w1.heap.size := by simp at hs1; omega
  go_wp2
  rw [← eW]
  clear eW x0 hx1 hs1
  generalize w1.heap.size = gb at *
  go_loopw [4] (fun iv wr => ∃ k : Nat, k ≤ l.length ∧ iv = .int .i64 k ∧ Box wr w.heap.size 28 #[.bool false, .slice none 0 0] ∧ BoxZ wr gb 28 (ct k (cz l) : Nat) ∧ Ext w wr) (fun iv _ => l.length - (intOf iv).toNat)
  case atStart => exact ⟨0, Nat.zero_le _, rfl, ea, BoxZ.mk eb hr, hx⟩
  case round =>
    clear hx ea eb hr
    obtain ⟨k, hk, rfl, ea, ⟨b, B, bn, bc, eb, hb⟩, hx⟩ := hrel
    have Hb := Lib.hid hb; clear hb
    by_cases hkl : k < l.length
    · obtain ⟨g, o, b1, A1, n, c1, rfl, _, q0, q1, hq⟩ := HA.out.at_ (j := k) hkl
      replace q0 := hx.cell q0
      replace q1 := hx.cell q1
      have Hq := Lib.hid (hq.kd hx.kd); clear hq
      have hsk := cn_sz HS.out k
      have hqk := HS.out k
      rw [cz_lt hkl, qsz_cast] at hqk
      have HK := Lib.hid (And.intro hsk hqk); clear hsk hqk
      obtain ⟨r0, r1⟩ := eb.cells2
      have e1 : Int.gcd (ct k (cz l) : Nat) l[k] = ct (k + 1) (cz l) := by rw [ct_succ, cz_lt hkl]; rfl
      have He := Lib.hid e1; clear e1
      go_wp2_with fail
      refine wp_region_par (k := 6) (D := [12, 13, 14, 15, 16, 17]) (T := [[], [], [], [1, 2], [1, 2, 3], [0, 1, 2, 3, 4], [0, 1, 2, 3, 4, 5]]) (EK := [3, 0, 4]) (EV := [?e1x0, ?e1x1, ?e1x2]) (VL := [(kv ?v1x0), (kv ?v1x1), (kv ?v1x2), (kv ?v1x3), (kv ?v1x4), (fun γ => γ 5)]) (FL := fun γ w' => [True, True, True, True, True, IsZ w' (γ 5) (ct (k + 1) (cz l) : Nat)]) ?hE1 (by kernel_rfl) (by kernel_rfl) (by rfl) (by kernel_rfl) ?hloc1 ?hmono1 ?hstep1 ?htail1
      case hE1 => refine ⟨?_, ?_, ?_, trivial⟩ <;> (simp only [List.getElem?_toArray, List.getElem?_cons_succ, List.getElem?_cons_zero]; rfl)
      case hstep1 =>
        refine ⟨⟨⟨⟨⟨⟨trivial, ?_⟩, ?_⟩, ?_⟩, ?_⟩, ?_⟩, ?_⟩
        · intro γ w' he hf; clear hf; refine ⟨trivial, ?_⟩; intro R hR
          have hc := he.cells
          have cq0 := he.cell q0
          have cq1 := he.cell q1
          have cq2 := he.cell r0
          have cq3 := he.cell r1
          go_simp
          (try go_ints); (try (rw [if_neg (by omega)])); (try (rw [if_pos (by omega)])); (try go_simp); (try go_ints)
          refine hR _ _ (Ext.refl _) ?_ trivial
          rfl
        · intro γ w' he hf; clear hf; refine ⟨trivial, ?_⟩; intro R hR
          have hc := he.cells
          go_simp
          (try go_ints); (try (rw [if_neg (by omega)])); (try (rw [if_pos (by omega)])); (try go_simp); (try go_ints)
          refine hR _ _ (Ext.refl _) ?_ trivial
          rfl
        · intro γ w' he hf; clear hf; refine ⟨trivial, ?_⟩; intro R hR
          have hc := he.cells
          go_simp
          (try go_ints); (try (rw [if_neg (by omega)])); (try (rw [if_pos (by omega)])); (try go_simp); (try go_ints)
          refine hR _ _ (Ext.refl _) ?_ trivial
          rfl
        · intro γ w' he hf; clear hf; refine ⟨trivial, ?_⟩; intro R hR
          have hc := he.cells
          go_simp
          (try go_ints); (try (rw [if_neg (by omega)])); (try (rw [if_pos (by omega)])); (try go_simp); (try go_ints)
          refine hR _ _ (Ext.refl _) ?_ trivial
          rfl
        · intro γ w' he hf; clear hf; refine ⟨trivial, ?_⟩; intro R hR
          have hc := he.cells
          have cq0 := he.cell q0
          have cq1 := he.cell q1
          have cq2 := he.cell r0
          have cq3 := he.cell r1
          go_simp
          (try go_ints); (try (rw [if_neg (by omega)])); (try (rw [if_pos (by omega)])); (try go_simp); (try go_ints)
          refine hR _ _ (Ext.refl _) ?_ trivial
          rfl
        · intro γ w' he hf; clear hf; refine ⟨trivial, ?_⟩; intro R hR
          go_simp
          refine Calls.mono (show Calls _ _ _ w' (Gives w' fun r w'' => IsZ w'' (r) (ct (k + 1) (cz l) : Nat)) from He.out ▸ gcd_r _ _ (ct k (cz l) : Nat) l[k] w' ((Hb.out.kd he.kd).has (by have := HK.out.1; simp; omega)) (Hq.out.kd he.kd) (by have := HK.out.1; simp; omega) (by have := HK.out.2; omega)) ?_
          rintro e w2 ⟨v, rfl, hv, hx⟩
          exact ⟨v, rfl, hR v w2 hx rfl hv⟩
      case hloc1 =>
        exact ⟨⟨⟨⟨⟨⟨trivial, (fun γ γ' h => ⟨rfl, fun _ => rfl⟩)⟩, (fun γ γ' h => ⟨rfl, fun _ => rfl⟩)⟩, (fun γ γ' h => ⟨rfl, fun _ => rfl⟩)⟩, (fun γ γ' h => ⟨rfl, fun _ => rfl⟩)⟩, (fun γ γ' h => ⟨rfl, fun _ => rfl⟩)⟩, (fun γ γ' h => ⟨h 5 rfl, fun w' => (congrArg (fun a => IsZ w' (a) (ct (k + 1) (cz l) : Nat)) (h 5 rfl))⟩)⟩
      case hmono1 =>
        exact ⟨⟨⟨⟨⟨⟨trivial, (fun γ wA w' e h => h)⟩, (fun γ wA w' e h => h)⟩, (fun γ wA w' e h => h)⟩, (fun γ wA w' e h => h)⟩, (fun γ wA w' e h => h)⟩, (fun γ wA w' e h => (show IsZ wA (γ 5) (ct (k + 1) (cz l) : Nat) from h).ext e)⟩
      intro γ w2 hx2 hF
      have p5 : IsZ w2 (γ 5) (ct (k + 1) (cz l) : Nat) := Each.get hF 5 (by decide)
      clear hF
      simp only [fillAll, gV, kv, List.getD_cons_zero, List.getD_cons_succ, Act.put, List.setIfInBounds_toArray, List.set_cons_zero, List.set_cons_succ, List.toList_toArray, List.drop_succ_cons, List.drop_zero, List.drop_nil, Nat.zero_add, Nat.reduceAdd]
      generalize γ 5 = g5 at *
      clear γ
      obtain ⟨b6, A6, n6, c6, rfl⟩ := p5.cells
      replace ea := ea.ext hx2
      replace eb := eb.ext hx2
      replace hx := hx.trans hx2
      clear hx2 q0 q1 r0 r1 He HK Hb Hq
      obtain ⟨ceb0, ceb1⟩ := eb.cells2
      have feb := eb.frozen
      go_wp2
      obtain ⟨W3, eW, eb', U⟩ := eb.put2 (.bool b6) (.slice A6 n6 c6) rfl rfl
      rw [← eW]
      clear eW eb
      replace p5 := p5.kd U.kd
      replace ea := ea.upd U (by simp <;> omega)
      replace hx := U.from_ hx (by simp <;> omega)
      have eb := eb'
      clear U eb'
      go_roundw
      case rel => exact ⟨k + 1, by omega, by go_num, ea, BoxZ.mk eb p5, hx⟩
      case measure => simp [intOf]; omega
    · obtain rfl : k = l.length := by omega
      obtain ⟨cea0, cea1⟩ := ea.cells2
      have fea := ea.frozen
      obtain ⟨ceb0, ceb1⟩ := eb.cells2
      have feb := eb.frozen
      go_wp2
      have hr := Hb.out
      obtain ⟨W3, eW, ea', U⟩ := ea.put2 (.bool b) (.slice B bn bc) rfl rfl
      rw [← eW]
      clear eW ea
      replace hr := hr.kd U.kd
      replace hx := U.from_ hx (by simp <;> omega)
      have ea := ea'
      clear U ea'
      clear cea0 cea1
      obtain ⟨cea0, cea1⟩ := ea.cells2
      have fea := ea.frozen
      refine bodyPost_ret (v := .agg #[.bool b, .slice B bn bc]) (by simp [results, Tryz.results16, go_sem, cea0, cea1]) rfl ?_
      exact Gives.mk hr hx
set_option maxRecDepth 20000 in
set_option maxHeartbeats 2000000 in
theorem over_rz (v u : Value) (l : List Int) (a : Int) (w : World) (hv : HzV 0 w v l) (hu : HasZ w u a) (hs : ∀ i, qsz (cz l i) ≤ 549755813888) (sa : sz a.natAbs ≤ 549755813888) (ha : a ≠ 0) (hd : ∀ i, a ∣ (cz l i).num) (hn : l.length ≤ 549755813888) :
    Calls Tryz.prog 67 #[v, u] w (Gives w fun r w' => IsZP w.heap.size w' r (psc (1 / (a : Rat)) (cz l))) := by
  have HU := Lib.hid hu
  obtain ⟨b1, A1, n1, c1, rfl⟩ := hu.cells
  obtain ⟨A, c, rfl, hl, hc, hA⟩ := hv
  clear hu
  have HA : Hid (HzAt 0 w A l) := Lib.hid hA; clear hA
  obtain ⟨G, hG⟩ : ∃ G, G = psc (1 / (a : Rat)) (cz l) := ⟨_, rfl⟩
  have hGi : ∀ i, G i = (((cz l i).num / a : Int) : Rat) := fun i => by rw [hG]; exact div_at (ZI.cz l) ha i (hd i)
  have hGs : Sup l.length G := by rw [hG]; exact (cz_sup l).psc _
  have hGq : ∀ i, qsz (G i) ≤ 549755813888 := fun i => by
    rw [hGi, qsz_cast]
    have h1 := sz_ediv (hd i); have h2 := hs i
    unfold qsz at h2; omega
  rw [← hG]
  have HG := Lib.hid (And.intro hGi (And.intro hGs (And.intro hGq (show ZI G from fun i => ⟨_, hGi i⟩)))); clear hG hGi hGs hGq
  have HS := Lib.hid (And.intro hs (And.intro ha hd)); clear hs ha hd
  go_enter Tryz.func67, Tryz.ntmps67
  go_wp2
  go_loopw [5, 6] (fun ov iv wr => ∃ (k : Nat), k ≤ l.length ∧ iv = .int .i64 k ∧ OwnZ (w.heap.size + 1) 28 wr ov (lzf k G) ∧ Ext (w.alloc (.cells #[.bool b1, .slice A1 n1 c1] 28)) wr) (fun _ iv _ => l.length - (intOf iv).toNat)
  case atStart => exact ⟨0, Nat.zero_le _, rfl, OwnR.nil _ _ _ _ _, Ext.refl _⟩
  case round =>
    obtain ⟨k, hk, rfl, hown, hx⟩ := hrel
    by_cases hkl : k < l.length
    · obtain ⟨g, o, b, A2, n, c2, rfl, _, q0, q1, hq⟩ := HA.out.at_ (j := k) hkl
      replace q0 := hx.a1.cell q0
      replace q1 := hx.a1.cell q1
      have ca0 := hx.box (g := w.heap.size) (i := 0) rfl rfl
      have ca1 := hx.box (g := w.heap.size) (i := 1) rfl rfl
      have hqk := HS.out.1 k
      rw [cz_lt hkl, qsz_cast] at hqk
      have hGk : l[k] / a = (G k).num := by rw [HG.out.1, cz_lt hkl]; rfl
      have Hq := Lib.hid (And.intro hq (And.intro hqk hGk)); clear hq hqk hGk
      have Hown := Lib.hid hown; clear hown
      go_wp2_with fail
      refine wp_region_par (k := 8) (D := [13, 14, 15, 16, 17, 18, 19, 20]) (T := [[], [], [], [1, 2], [1, 2, 3], [], [1, 2, 3, 4, 5], [1, 2, 3, 4, 5, 6], [0, 1, 2, 3, 4, 5, 6, 7], [0, 1, 2, 3, 4, 5, 6, 7, 8]]) (EK := [5, 0, 6, 3]) (EV := [?e2x0, ?e2x1, ?e2x2, ?e2x3]) (VL := [(kv ?v2x0), (kv ?v2x1), (kv ?v2x2), (kv ?v2x3), (kv ?v2x4), (kv ?v2x5), (fun γ => γ 6), (fun γ => γ 7)]) (FL := fun γ w' => [True, True, True, True, True, True, IsZ w' (γ 6) (G k).num, NewZ w' (γ 7) (wr.heap.size) ((G k).num) 28]) ?hE2 (by kernel_rfl) (by kernel_rfl) (by rfl) (by kernel_rfl) ?hloc2 ?hmono2 ?hstep2 ?htail2
      case hE2 => refine ⟨?_, ?_, ?_, ?_, trivial⟩ <;> (simp only [List.getElem?_toArray, List.getElem?_cons_succ, List.getElem?_cons_zero]; rfl)
      case hstep2 =>
        refine ⟨⟨⟨⟨⟨⟨⟨⟨trivial, ?_⟩, ?_⟩, ?_⟩, ?_⟩, ?_⟩, ?_⟩, ?_⟩, ?_⟩
        · intro γ w' he hf; clear hf; refine ⟨trivial, ?_⟩; intro R hR
          have hc := he.cells
          go_simp
          (try go_ints); (try (rw [if_neg (by omega)])); (try (rw [if_pos (by omega)])); (try go_simp); (try go_ints)
          refine hR _ _ (Ext.refl _) ?_ trivial
          rfl
        · intro γ w' he hf; clear hf; refine ⟨trivial, ?_⟩; intro R hR
          have hc := he.cells
          go_simp
          (try go_ints); (try (rw [if_neg (by omega)])); (try (rw [if_pos (by omega)])); (try go_simp); (try go_ints)
          refine hR _ _ (Ext.refl _) ?_ trivial
          rfl
        · intro γ w' he hf; clear hf; refine ⟨trivial, ?_⟩; intro R hR
          have hc := he.cells
          go_simp
          (try go_ints); (try (rw [if_neg (by omega)])); (try (rw [if_pos (by omega)])); (try go_simp); (try go_ints)
          refine hR _ _ (Ext.refl _) ?_ trivial
          rfl
        · intro γ w' he hf; clear hf; refine ⟨trivial, ?_⟩; intro R hR
          have hc := he.cells
          go_simp
          (try go_ints); (try (rw [if_neg (by omega)])); (try (rw [if_pos (by omega)])); (try go_simp); (try go_ints)
          refine hR _ _ (Ext.refl _) ?_ trivial
          rfl
        · intro γ w' he hf; clear hf; refine ⟨trivial, ?_⟩; intro R hR
          have hc := he.cells
          have cq0 := he.cell q0
          have cq1 := he.cell q1
          have cq2 := he.cell ca0
          have cq3 := he.cell ca1
          go_simp
          (try go_ints); (try (rw [if_neg (by omega)])); (try (rw [if_pos (by omega)])); (try go_simp); (try go_ints)
          refine hR _ _ (Ext.refl _) ?_ trivial
          rfl
        · intro γ w' he hf; clear hf; refine ⟨trivial, ?_⟩; intro R hR
          have hc := he.cells
          have cq0 := he.cell q0
          have cq1 := he.cell q1
          have cq2 := he.cell ca0
          have cq3 := he.cell ca1
          go_simp
          (try go_ints); (try (rw [if_neg (by omega)])); (try (rw [if_pos (by omega)])); (try go_simp); (try go_ints)
          refine hR _ _ (Ext.refl _) ?_ trivial
          rfl
        · intro γ w' he hf; clear hf; refine ⟨trivial, ?_⟩; intro R hR
          go_simp
          refine Calls.mono (show Calls _ _ _ w' (Gives w' fun r w'' => IsZ w'' (r) (G k).num) from Hq.out.2.2 ▸ exact_r _ _ _ _ w' (Hq.out.1.kd (hx.a1.trans he).kd) (HU.out.kd (hx.a1.trans he).kd) HS.out.2.1 (by have := Hq.out.2.1; omega) sa) ?_
          rintro e w2 ⟨v, rfl, hv, hx⟩
          exact ⟨v, rfl, hR v w2 hx rfl hv⟩
        · intro γ w' he hf; have f6 : IsZ w' (γ 6) (G k).num := hf 6 (by decide); clear hf; refine ⟨trivial, ?_⟩; intro R hR
          refine IsZ.el f6 fun b5 A5 n5 c5 e6 f6' => ?_
          clear f6
          go_simp
          exact hR _ _ ((Ext.refl _).alloc _) rfl (NewZ.mk f6' (Nat.le_trans (by simp) he.size) _)
      case hloc2 =>
        exact ⟨⟨⟨⟨⟨⟨⟨⟨trivial, (fun γ γ' h => ⟨rfl, fun _ => rfl⟩)⟩, (fun γ γ' h => ⟨rfl, fun _ => rfl⟩)⟩, (fun γ γ' h => ⟨rfl, fun _ => rfl⟩)⟩, (fun γ γ' h => ⟨rfl, fun _ => rfl⟩)⟩, (fun γ γ' h => ⟨rfl, fun _ => rfl⟩)⟩, (fun γ γ' h => ⟨rfl, fun _ => rfl⟩)⟩, (fun γ γ' h => ⟨h 6 rfl, fun w' => (congrArg (fun a => IsZ w' (a) (G k).num) (h 6 rfl))⟩)⟩, (fun γ γ' h => ⟨h 7 rfl, fun w' => (congrArg (fun a => NewZ w' (a) (wr.heap.size) ((G k).num) 28) (h 7 rfl))⟩)⟩
      case hmono2 =>
        exact ⟨⟨⟨⟨⟨⟨⟨⟨trivial, (fun γ wA w' e h => h)⟩, (fun γ wA w' e h => h)⟩, (fun γ wA w' e h => h)⟩, (fun γ wA w' e h => h)⟩, (fun γ wA w' e h => h)⟩, (fun γ wA w' e h => h)⟩, (fun γ wA w' e h => (show IsZ wA (γ 6) (G k).num from h).ext e)⟩, (fun γ wA w' e h => (show NewZ wA (γ 7) (wr.heap.size) ((G k).num) 28 from h).ext e)⟩
      intro γ w1 hx1 hF
      have p6 : IsZ w1 (γ 6) (G k).num := Each.get hF 6 (by decide)
      have p7 : NewZ w1 (γ 7) (wr.heap.size) ((G k).num) 28 := Each.get hF 7 (by decide)
      clear hF
      simp only [fillAll, gV, kv, List.getD_cons_zero, List.getD_cons_succ, Act.put, List.setIfInBounds_toArray, List.set_cons_zero, List.set_cons_succ, List.toList_toArray, List.drop_succ_cons, List.drop_zero, List.drop_nil, Nat.zero_add, Nat.reduceAdd]
      generalize γ 6 = g6 at *
      generalize γ 7 = g7 at *
      clear γ
      have hs : w.heap.size + 1 ≤ wr.heap.size := by have := hx.size; simpa using this
      have hs1 := hx1.size
      refine wpList_append_run rfl _ _ 22 rfl u5 g7 rfl rfl (append_nz w1 _ _ (w.heap.size + 1) _ _ _ _ (Hown.out.ext hx1) p7 (by rw [lzf_len]; omega) (by omega)) ?_
      rintro v' w2 ⟨hown, U⟩
      replace hx := (Hown.out.ext hx1).from_ U (hx.trans hx1) (by simp)
      have Hown' := Lib.hid hown; clear hown U p7 p6 q0 q1 ca0 ca1
      go_wp2
      go_roundw
      case rel => exact ⟨k + 1, by omega, by go_num, by rw [lzf_succ]; exact Hown'.out, hx⟩
      case measure => simp [intOf] <;> omega
    · obtain rfl : k = l.length := by omega
      have hh := lzf_hz hown (fun i => by have := HG.out.2.2.1 i; omega)
      obtain ⟨A2, c2, e2⟩ := hh.len
      rw [lzf_len] at e2
      rw [e2] at hh
      clear hown
      subst e2
      have hczl := cz_lzf HG.out.2.2.2 HG.out.2.1
      have HH := Lib.hid (And.intro hh hczl); clear hh hczl
      go_wp2_with fail
      refine Calls.mono (normal_rz _ _ _ HH.out.1 (by rw [lzf_len]; omega)) ?_
      rintro e w9 ⟨r, rfl, hr, hx9⟩
      rw [HH.out.2] at hr
      have hsz := hx.a1.size
      have Hr := Lib.hid hr; clear hr
      go_wp2
      go_ret
      exact Gives.mk (Hr.out.base_le hsz) (hx.a1.trans hx9)
set_option maxHeartbeats 1000000 in
theorem primitive_rz (v : Value) (l : List Int) (w : World) (hv : HzV 0 w v l) (hs : ∀ i, qsz (cz l i) ≤ 549755813888) (hn : l.length ≤ 549755813888) :
    Calls Tryz.prog 18 #[v] w (Gives w fun r w' => IsZP w.heap.size w' r (pp (cz l))) := by
  have HV := Lib.hid hv
  obtain ⟨A, c, rfl⟩ := hv.len
  clear hv
  have hfin := Fin_.cz l; have hzi := ZI.cz l
  have HX := Lib.hid (And.intro hs (And.intro hfin hzi)); clear hs hfin hzi
  go_enter Tryz.func18, Tryz.ntmps18
  go_wp2_with fail
  refine Calls.mono (content_rz _ l _ HV.out HX.out.1 (by omega)) ?_
  rintro e w1 ⟨r1, rfl, hr1, hx1⟩
  obtain ⟨b5, A5, n5, c5, rfl⟩ := hr1.cells
  obtain ⟨W0, eW, eb, x0⟩ := Box.made w1 28 #[.bool b5, .slice A5 n5 c5] (by simp [isDig])
  replace hr1 := hr1.kd x0.kd
  have hs1 := hx1.size
  replace hx1 := hx1.trans x0
  have hcz : sz ((cn (cz l) : Nat) : Int).natAbs ≤ 549755813888 := by have := cn_sz HX.out.1 (pl (cz l)); simpa [cn] using this
  have Hr1 := Lib.hid (And.intro hr1 hcz); clear hr1 hcz
  subst eW
  clear x0
  obtain ⟨C, hC⟩ : ∃ C, C = cn (cz l) := ⟨_, rfl⟩
  rw [← hC] at Hr1
  have HC := Lib.hid hC; clear hC
  go_upto_region 2 with (fail)
  generalize w1.alloc (.cells #[.bool b5, .slice A5 n5 c5] 28) = W0 at *
  generalize w1.heap.size = gb at *
  obtain ⟨ceb0, ceb1⟩ := eb.cells2
  have feb := eb.frozen
  go_wp2_with fail
  refine Calls.mono (sign_r _ (C : Int) _ (Hr1.out.1.has (by have := Hr1.out.2; omega))) ?_
  rintro e w2 ⟨r2, rfl, rfl, hx2⟩
  by_cases h0 : C = 0
  · have hb : ((C : Int).sign == 0) = true := by rw [h0]; rfl
    have hF : cz l = pz := Classical.byContradiction fun h => cn_ne HX.out.2.2 HX.out.2.1 h (by rw [← HC.out, h0])
    have HF := Lib.hid hF; clear hF h0
    go_wp2
    go_ret
    rw [HF.out, pp_pz]
    exact Gives.mk (IsZP.nil _ _) (hx1.trans hx2)
  · have hb : ((C : Int).sign == 0) = false := by
      have : (C : Int).sign ≠ 0 := fun e => h0 (by have := Int.sign_eq_zero_iff_zero.1 e; omega)
      simpa using this
    have hF : cz l ≠ pz := fun h => h0 (by rw [HC.out, h, cn_pz])
    have HF := Lib.hid hF; clear hF h0
    replace eb := eb.ext hx2
    have Hr2 := Lib.hid (Hr1.out.1.kd hx2.kd)
    replace hx1 := hx1.trans hx2
    have hHC := Hr1.out.2
    clear hx2 ceb0 ceb1 feb
    go_wp2_with fail
    refine Calls.mono (lead_rz _ l _ (HV.out.ext hx1) (by omega)) ?_
    rintro e w3 ⟨r3, rfl, hr3, hx3⟩
    have hlz : sz (ld (cz l)).num.natAbs ≤ 1099511627776 := by have := HX.out.1 (pl (cz l) - 1); unfold qsz at this; show sz (cz l (pl (cz l) - 1)).num.natAbs ≤ _; omega
    have Hr3 := Lib.hid (hr3.has hlz); clear hr3 hlz
    replace eb := eb.ext hx3
    have Hr4 := Lib.hid (Hr2.out.kd hx3.kd)
    replace hx1 := hx1.trans hx3
    clear hx3 Hr2
    go_wp2_with fail
    refine Calls.mono (sign_r _ (ld (cz l)).num _ Hr3.out) ?_
    rintro e w4 ⟨r4, rfl, rfl, hx4⟩
    replace eb := eb.ext hx4
    have Hr2 := Lib.hid (Hr4.out.kd hx4.kd)
    replace hx1 := hx1.trans hx4
    clear hx4 Hr3 Hr4
    have hldz : ld (cz l) = ((ld (cz l)).num : Rat) := HX.out.2.2.num _
    have hpd := fun i => pcn_dvd HX.out.2.1 i
    have hpn := pcn_ne HX.out.2.2 HX.out.2.1 HF.out
    have hpa : sz (pcn (cz l)).natAbs ≤ 549755813888 := by rw [pcn_abs]; simpa [HC.out] using hHC
    by_cases hneg : (ld (cz l)).num < 0
    · have hb2 : decide ((ld (cz l)).num < 0) = true := by simpa using hneg
      have hpc : pcn (cz l) = -(C : Int) := by
        unfold pcn; rw [hldz, if_pos (by exact_mod_cast hneg), HC.out]
      have Hpc := Lib.hid (And.intro hpc (And.intro hpd (And.intro hpn hpa))); clear hpc hldz hpd hpn hpa hneg
      obtain ⟨ceb0, ceb1⟩ := eb.cells2
      have feb := eb.frozen
      go_wp2_with fail
      refine Calls.mono (neg_r _ (C : Int) _ (Hr2.out.has (by omega))) ?_
      rintro e w5 ⟨r5, rfl, hr5, hx5⟩
      obtain ⟨b6, A6, n6, c6, rfl⟩ := hr5.cells
      replace eb := eb.ext hx5
      replace hx1 := hx1.trans hx5
      clear hx5 ceb0 ceb1 feb Hr2
      obtain ⟨ceb0, ceb1⟩ := eb.cells2
      have feb := eb.frozen
      go_upto_region 6 with (fail)
      obtain ⟨W3, eW, eb', U⟩ := eb.put2 (.bool b6) (.slice A6 n6 c6) rfl rfl
      rw [← eW]
      clear eW eb
      replace hr5 := hr5.kd U.kd
      replace hx1 := U.from_ hx1 (by simp <;> omega)
      have eb := eb'
      clear U eb'
      clear ceb0 ceb1 feb
      obtain ⟨ceb0, ceb1⟩ := eb.cells2
      have feb := eb.frozen
      rw [← Hpc.out.1] at hr5
      have Hr5 := Lib.hid (hr5.has (by have := Hpc.out.2.2.2; omega)); clear hr5
      go_wp2_with fail
      refine Calls.mono (over_rz _ _ l (pcn (cz l)) _ (HV.out.ext hx1) Hr5.out HX.out.1 Hpc.out.2.2.2 Hpc.out.2.2.1 Hpc.out.2.1 hn) ?_
      rintro e w6 ⟨r6, rfl, hr6, hx6⟩
      have hsz := hx1.size
      have Hr6 := Lib.hid hr6; clear hr6
      go_wp2
      go_ret
      exact Gives.mk (Hr6.out.base_le hsz) (hx1.trans hx6)
    · have hb2 : decide ((ld (cz l)).num < 0) = false := by simpa using hneg
      have hpc : pcn (cz l) = (C : Int) := by
        unfold pcn; rw [hldz, if_neg (by intro h; exact hneg (by exact_mod_cast h)), HC.out]
      have Hpc := Lib.hid (And.intro hpc (And.intro hpd (And.intro hpn hpa))); clear hpc hldz hpd hpn hpa hneg
      obtain ⟨ceb0, ceb1⟩ := eb.cells2
      have feb := eb.frozen
      have hr5 := Hr2.out
      rw [← Hpc.out.1] at hr5
      have Hr5 := Lib.hid (hr5.has (by have := Hpc.out.2.2.2; omega)); clear hr5
      go_wp2_with fail
      refine Calls.mono (over_rz _ _ l (pcn (cz l)) _ (HV.out.ext hx1) Hr5.out HX.out.1 Hpc.out.2.2.2 Hpc.out.2.2.1 Hpc.out.2.1 hn) ?_
      rintro e w6 ⟨r6, rfl, hr6, hx6⟩
      have hsz := hx1.size
      have Hr6 := Lib.hid hr6; clear hr6
      go_wp2
      go_ret
      exact Gives.mk (Hr6.out.base_le hsz) (hx1.trans hx6)
end Go.Proofs.YtfacbpnegkjcgaaGreatDoor
namespace Go.Hp
theorem psc_pp_cn {F : Nat → Rat} (z : ZI F) (f : Fin_ F) : psc (((cn F : Nat) : Int) : Rat) (pp F) = F ∨ psc ((-1 : Int) : Rat) (psc (((cn F : Nat) : Int) : Rat) (pp F)) = F := by
  by_cases h0 : F = pz
  · left; rw [h0, pp_pz, psc_pz]
  · have h1 := pp_eq z f h0
    by_cases hn : ld F < 0
    · right
      have e : (((-1 : Int)) : Rat) * ((((cn F : Nat) : Int)) : Rat) = (pcn F : Rat) := by
        unfold pcn; rw [if_pos hn, ← Rat.intCast_mul]; congr 1; omega
      rw [psc_psc, e, ← h1]
    · left
      have e : ((((cn F : Nat) : Int)) : Rat) = (pcn F : Rat) := by unfold pcn; rw [if_neg hn]
      rw [e, ← h1]
end Go.Hp
namespace Go.Proofs.YtfacbpnegkjcgaaGreatDoor
open Go.RowKit Go.Hp
/-- Scale, over polynomials. -/
theorem zscale_pp (v u : Value) (F : Nat → Rat) (a : Int) (w : World) (hv : IsZP 0 w v F) (hs : ∀ i, qsz (F i) ≤ 1099511627776) (hu : HasZ w u a) (hn : pl F ≤ 1099511627776) :
    Calls Tryz.prog 19 #[v, u] w (Gives w fun r w' => IsZP 0 w' r (psc (a : Rat) F)) := by
  obtain ⟨l, h1, h2, -, rfl⟩ := hv.hz hs
  exact Gives.imp (zscale_p v u l a w h1 hu (by omega)) fun _ _ h => h.base_le (Nat.zero_le _)
theorem content_zpp (v : Value) (F : Nat → Rat) (w : World) (hv : IsZP 0 w v F) (hs : ∀ i, qsz (F i) ≤ 1099511627776) (hn : pl F ≤ 1099511627776) : Calls Tryz.prog 13 #[v] w (Gives w fun r w' => IsZ w' r (cn F : Nat)) := by
  obtain ⟨l, h1, h2, -, rfl⟩ := hv.hz hs
  exact content_zp v l w h1 (by omega)
set_option maxRecDepth 20000 in
set_option maxHeartbeats 16000000 in
theorem contents_law (v0 v1 : Value) (l0 l1 : List RawI) (w : World) (h0 : ZPolyV w v0 l0) (h1 : ZPolyV w v1 l1) :
    Calls Tryz.prog 3 #[v0, v1] w (Gives w fun r _ => r = .bool true) := by
  have H0 := Lib.hid h0; have H1 := Lib.hid h1
  obtain ⟨A0, c0, rfl, k1, k2⟩ := h0.len
  obtain ⟨A1, c1, rfl, k3, k4⟩ := h1.len
  clear h0 h1
  go_enter Tryz.func3, Tryz.ntmps3
  go_wp2_with fail
  refine Calls.mono (awake_z _) ?_
  rintro e w1 ⟨r, rfl, rfl, hx⟩
  go_wp2_with fail
  refine Calls.mono (zlong_b 20 6 w1.heap.size 2 [(_, l0), (_, l1)] _ (by decide) (by decide) (by simp) (by simp) (listsZ_two w1 _ (H0.out.ext hx) (H1.out.ext hx) rfl)) ?_
  rintro e w2 ⟨rfl, b, rfl, hb⟩
  replace hx := hx.alloc (.cells #[.slice A0 l0.length c0, .slice A1 l1.length c1] 23)
  have Hb := Lib.hid hb; clear hb
  generalize w1.alloc (.cells #[.slice A0 l0.length c0, .slice A1 l1.length c1] 23) = wb at hx ⊢
  cases b with
  | true =>
    go_wp2
    go_ret
    exact Gives.mk rfl hx
  | false =>
    obtain ⟨hl0, hs0⟩ := Hb.out (by trivial) (.slice A0 l0.length c0, l0) (by simp)
    obtain ⟨hl1, hs1⟩ := Hb.out (by trivial) (.slice A1 l1.length c1, l1) (by simp)
    simp only at hl0 hs0 hl1 hs1
    have P0 := Lib.hid (H0.out.has hs0).1; have P1 := Lib.hid (H1.out.has hs1).1
    have HC := Lib.hid (And.intro (H0.out.qsz hs0) (H1.out.qsz hs1))
    have hll0 : (l0.map zOf).length = l0.length := by simp
    have hll1 : (l1.map zOf).length = l1.length := by simp
    obtain ⟨m0, hm0⟩ : ∃ m0, m0 = l0.map zOf := ⟨_, rfl⟩
    obtain ⟨m1, hm1⟩ : ∃ m1, m1 = l1.map zOf := ⟨_, rfl⟩
    rw [← hm0] at P0 HC hll0
    rw [← hm1] at P1 HC hll1
    rw [← hll0] at hl0 k1 P0 ⊢
    rw [← hll1] at hl1 k3 P1 ⊢
    clear hs0 hs1 hm0 hm1 hll0 hll1 Hb H0 H1
    have hp0 := pl_le (cz_sup m0)
    have hp1 := pl_le (cz_sup m1)
    have HK := Lib.hid (show pl (pp (cz m0)) ≤ 20 ∧ pl (cz m0) ≤ 20 ∧ pl (cv (cz m0) (cz m1)) ≤ 40 ∧ (m0.length + 1) * (6 + 6 + 1) ≤ 21 * 13 by
      refine ⟨by rw [pp_pl (ZI.cz m0) (Fin_.cz m0)]; omega, by omega, pl_le ((((cz_sup m0).mono (m := 20) (by omega)).cv ((cz_sup m1).mono (m := 20) (by omega))).mono (by omega)), Nat.mul_le_mul_right _ (by omega)⟩)
    have HP := Lib.hid (fun i => pp_qsz (ZI.cz m0) (Fin_.cz m0) HC.out.1 i)
    have Hc := Lib.hid (show sz ((cn (cz m0) : Nat) : Int).natAbs ≤ 6 ∧ sz ((cn (cz m1) : Nat) : Int).natAbs ≤ 6 from ⟨by have := cn_sz HC.out.1 (pl (cz m0)); simpa [cn] using this, by have := cn_sz HC.out.2 (pl (cz m1)); simpa [cn] using this⟩)
    have Hq := Lib.hid (show ∀ i, qsz (cv (cz m0) (cz m1) i) ≤ 1000 from fun i => by
      rw [cv_sm]
      have h1 := smm_qsz HC.out.1 HC.out.2 i (i + 1)
      rcases Nat.lt_or_ge i 40 with h | h
      · have : (i + 1) * (6 + 6 + 1) ≤ 41 * 13 := Nat.mul_le_mul_right _ (by omega)
        omega
      · rw [← cv_sm, pl_sup ((Fin_.cz m0).cv (Fin_.cz m1)) i (by have := HK.out.2.2.1; omega)]; decide)
    have Hx := Lib.hid hx; clear hx hp0 hp1
    go_wp2_with fail
    refine Calls.mono (content_zp _ m0 _ (P0.out.ext Hx.out) (by omega)) ?_
    rintro e w2 ⟨r2, rfl, hr2, hx2⟩
    obtain ⟨b5, A5, n5, c5, rfl⟩ := hr2.cells
    go_wp2_with fail
    refine Calls.mono (content_zp _ m1 _ (P1.out.ext (Hx.out.trans hx2)) (by omega)) ?_
    rintro e w3 ⟨r3, rfl, hr3, hx3⟩
    obtain ⟨b6, A6, n6, c6, rfl⟩ := hr3.cells
    have eA := (Box.new w3 28 #[.bool b5, .slice A5 n5 c5] (by simp [isDig])).alloc (.cells #[.bool b6, .slice A6 n6 c6] 28)
    have eB := Box.new (w3.alloc (.cells #[.bool b5, .slice A5 n5 c5] 28)) 28 #[.bool b6, .slice A6 n6 c6] (by simp [isDig])
    rw [World.size_alloc] at eB
    have x5 := ((Ext.refl w3).alloc (.cells #[.bool b5, .slice A5 n5 c5] 28)).alloc (.cells #[.bool b6, .slice A6 n6 c6] 28)
    have hc := Hc.out
    have HA := Lib.hid ((hr2.kd (hx3.trans x5).kd)); have HB := Lib.hid (hr3.kd x5.kd)
    have Hx5 := Lib.hid (Hx.out.trans ((hx2.trans hx3).trans x5))
    clear hr2 hr3 hx2 hx3 hc x5 Hx
    go_upto_region 6 with (fail)
    obtain ⟨gA, hgA⟩ : ∃ gA, gA = w3.heap.size := ⟨_, rfl⟩
    rw [← hgA] at eA eB ⊢
    clear hgA
    generalize (w3.alloc (.cells #[.bool b5, .slice A5 n5 c5] 28)).alloc (.cells #[.bool b6, .slice A6 n6 c6] 28) = W5 at *
    go_wp2_with fail
    refine Calls.mono (primitive_zp _ m0 _ (P0.out.ext Hx5.out) (by omega)) ?_
    rintro e w6 ⟨r6, rfl, hr6, hx6⟩
    obtain ⟨A7, c7, rfl, k5, k6⟩ := hr6.shape
    have Hp := Lib.hid (hr6.base_le (Nat.zero_le _)); clear hr6
    replace eA := eA.ext hx6
    replace eB := eB.ext hx6
    have HA' := Lib.hid (HA.out.kd hx6.kd); have HB' := Lib.hid (HB.out.kd hx6.kd)
    have Hx6 := Lib.hid (Hx5.out.trans hx6)
    clear HA HB Hx5 hx6
    obtain ⟨ceA0, ceA1⟩ := eA.cells2
    have feA := eA.frozen
    go_wp2_with fail
    refine wp_region_par (k := 11) (D := [21, 22, 23, 24, 25, 26, 27, 28, 29, 30, 31]) (T := [[], [], [1], [0, 1, 2], [0, 1, 2, 3], [0, 1, 2, 3, 4], [0, 1, 2, 3, 4, 5], [0, 1, 2, 3, 4, 5], [0, 1, 2, 3, 4, 5, 7], [0, 1, 2, 3, 4, 5, 6, 7, 8], [0, 1, 2, 3, 4, 5, 6, 7, 8, 9], [0, 1, 2, 3, 4, 5, 6, 7, 8, 9, 10]]) (EK := [5, 0, 7]) (EV := [?e1x0, ?e1x1, ?e1x2]) (VL := [(kv ?v1x0), (kv ?v1x1), (fun γ => γ 2), (kv (.bool true)), (kv ?v1x4), (kv ?v1x5), (kv ?v1x6), (kv ?v1x7), (fun γ => γ 8), (kv (.bool true)), (kv ?v1x10)]) (FL := fun γ w' => [True, True, IsZ w' (γ 2) (cn (cz m0) : Nat), True, True, True, True, True, IsZP 0 w' (γ 8) (pp (cz m0)), True, True]) ?hE1 (by kernel_rfl) (by kernel_rfl) (by rfl) (by kernel_rfl) ?hloc1 ?hmono1 ?hstep1 ?htail1
    case hE1 => refine ⟨?_, ?_, ?_, trivial⟩ <;> (simp only [List.getElem?_toArray, List.getElem?_cons_succ, List.getElem?_cons_zero]; rfl)
    case hstep1 =>
      refine ⟨⟨⟨⟨⟨⟨⟨⟨⟨⟨⟨trivial, ?_⟩, ?_⟩, ?_⟩, ?_⟩, ?_⟩, ?_⟩, ?_⟩, ?_⟩, ?_⟩, ?_⟩, ?_⟩
      · intro γ w' he hf; clear hf; refine ⟨trivial, ?_⟩; intro R hR
        have hc := he.cells
        have cq0 := he.cell ceA0
        have cq1 := he.cell ceA1
        go_simp
        (try go_ints); (try (rw [if_neg (by omega)])); (try (rw [if_pos (by omega)])); (try go_simp); (try go_ints)
        refine hR _ _ (Ext.refl _) ?_ trivial
        rfl
      · intro γ w' he hf; clear hf; refine ⟨trivial, ?_⟩; intro R hR
        have hc := he.cells
        go_simp
        (try go_ints); (try (rw [if_neg (by omega)])); (try (rw [if_pos (by omega)])); (try go_simp); (try go_ints)
        refine hR _ _ (Ext.refl _) ?_ trivial
        rfl
      · intro γ w' he hf; clear hf; refine ⟨trivial, ?_⟩; intro R hR
        go_simp
        refine Calls.mono (show Calls _ _ _ w' (Gives w' fun r w'' => IsZ w'' (r) (cn (cz m0) : Nat)) from content_rz _ m0 w' (P0.out.ext (Hx6.out.trans he)) (fun i => by have := HC.out.1 i; omega) (by omega)) ?_
        rintro e w2 ⟨v, rfl, hv, hx⟩
        exact ⟨v, rfl, hR v w2 hx rfl hv⟩
      · intro γ w' he hf; have f2 : IsZ w' (γ 2) (cn (cz m0) : Nat) := hf 2 (by decide); clear hf; refine ⟨trivial, ?_⟩; intro R hR
        go_simp
        refine Calls.mono (show Calls _ _ _ w' (Gives w' fun r _ => r = .bool true) from sameint_t _ _ _ w' (HA'.out.kd he.kd) f2) ?_
        rintro e w2 ⟨v, rfl, rfl, hx⟩
        exact ⟨_, rfl, hR _ w2 hx rfl trivial⟩
      · intro γ w' he hf; have f2 : IsZ w' (γ 2) (cn (cz m0) : Nat) := hf 2 (by decide); clear hf; refine ⟨trivial, ?_⟩; intro R hR
        have hc := he.cells
        go_simp
        (try go_ints); (try (rw [if_neg (by omega)])); (try (rw [if_pos (by omega)])); (try go_simp); (try go_ints)
        refine hR _ _ (Ext.refl _) ?_ trivial
        rfl
      · intro γ w' he hf; have f2 : IsZ w' (γ 2) (cn (cz m0) : Nat) := hf 2 (by decide); clear hf; refine ⟨trivial, ?_⟩; intro R hR
        have hc := he.cells
        go_simp
        (try go_ints); (try (rw [if_neg (by omega)])); (try (rw [if_pos (by omega)])); (try go_simp); (try go_ints)
        refine hR _ _ (Ext.refl _) ?_ trivial
        rfl
      · intro γ w' he hf; have f2 : IsZ w' (γ 2) (cn (cz m0) : Nat) := hf 2 (by decide); clear hf; refine ⟨rfl, ?_⟩; intro R hR
        have hc := he.cells
        go_simp
        (try go_ints); (try (rw [if_neg (by omega)])); (try (rw [if_pos (by omega)])); (try go_simp); (try go_ints)
        refine hR _ _ (Ext.refl _) ?_ trivial
        rfl
      · intro γ w' he hf; have f2 : IsZ w' (γ 2) (cn (cz m0) : Nat) := hf 2 (by decide); clear hf; refine ⟨rfl, ?_⟩; intro R hR
        have hc := he.cells
        go_simp
        (try go_ints); (try (rw [if_neg (by omega)])); (try (rw [if_pos (by omega)])); (try go_simp); (try go_ints)
        refine hR _ _ (Ext.refl _) ?_ trivial
        rfl
      · intro γ w' he hf; have f2 : IsZ w' (γ 2) (cn (cz m0) : Nat) := hf 2 (by decide); clear hf; refine ⟨rfl, ?_⟩; intro R hR
        go_simp
        refine Calls.mono (show Calls _ _ _ w' (Gives w' fun r w'' => IsZP 0 w'' (r) (pp (cz m0))) from Gives.imp (primitive_rz _ m0 w' (P0.out.ext (Hx6.out.trans he)) (fun i => by have := HC.out.1 i; omega) (by omega)) fun _ _ h => h.base_le (Nat.zero_le _)) ?_
        rintro e w2 ⟨v, rfl, hv, hx⟩
        exact ⟨v, rfl, hR v w2 hx rfl hv⟩
      · intro γ w' he hf; have f2 : IsZ w' (γ 2) (cn (cz m0) : Nat) := hf 2 (by decide); have f8 : IsZP 0 w' (γ 8) (pp (cz m0)) := hf 8 (by decide); clear hf; refine ⟨rfl, ?_⟩; intro R hR
        go_simp
        refine Calls.mono (show Calls _ _ _ w' (Gives w' fun r _ => r = .bool true) from sameints_t _ _ _ _ _ w' (Hp.out.ext he) f8 (by have := HK.out.1; omega)) ?_
        rintro e w2 ⟨v, rfl, rfl, hx⟩
        exact ⟨_, rfl, hR _ w2 hx rfl trivial⟩
      · intro γ w' he hf; have f2 : IsZ w' (γ 2) (cn (cz m0) : Nat) := hf 2 (by decide); have f8 : IsZP 0 w' (γ 8) (pp (cz m0)) := hf 8 (by decide); clear hf; refine ⟨rfl, ?_⟩; intro R hR
        have hc := he.cells
        go_simp
        (try go_ints); (try (rw [if_neg (by omega)])); (try (rw [if_pos (by omega)])); (try go_simp); (try go_ints)
        refine hR _ _ (Ext.refl _) ?_ trivial
        rfl
    case hloc1 =>
      exact ⟨⟨⟨⟨⟨⟨⟨⟨⟨⟨⟨trivial, (fun γ γ' h => ⟨rfl, fun _ => rfl⟩)⟩, (fun γ γ' h => ⟨rfl, fun _ => rfl⟩)⟩, (fun γ γ' h => ⟨h 2 rfl, fun w' => (congrArg (fun a => IsZ w' (a) (cn (cz m0) : Nat)) (h 2 rfl))⟩)⟩, (fun γ γ' h => ⟨rfl, fun _ => rfl⟩)⟩, (fun γ γ' h => ⟨rfl, fun _ => rfl⟩)⟩, (fun γ γ' h => ⟨rfl, fun _ => rfl⟩)⟩, (fun γ γ' h => ⟨rfl, fun _ => rfl⟩)⟩, (fun γ γ' h => ⟨rfl, fun _ => rfl⟩)⟩, (fun γ γ' h => ⟨h 8 rfl, fun w' => (congrArg (fun a => IsZP 0 w' (a) (pp (cz m0))) (h 8 rfl))⟩)⟩, (fun γ γ' h => ⟨rfl, fun _ => rfl⟩)⟩, (fun γ γ' h => ⟨rfl, fun _ => rfl⟩)⟩
    case hmono1 =>
      exact ⟨⟨⟨⟨⟨⟨⟨⟨⟨⟨⟨trivial, (fun γ wA w' e h => h)⟩, (fun γ wA w' e h => h)⟩, (fun γ wA w' e h => (show IsZ wA (γ 2) (cn (cz m0) : Nat) from h).ext e)⟩, (fun γ wA w' e h => h)⟩, (fun γ wA w' e h => h)⟩, (fun γ wA w' e h => h)⟩, (fun γ wA w' e h => h)⟩, (fun γ wA w' e h => h)⟩, (fun γ wA w' e h => (show IsZP 0 wA (γ 8) (pp (cz m0)) from h).ext e)⟩, (fun γ wA w' e h => h)⟩, (fun γ wA w' e h => h)⟩
    intro γ w7 hx7 hF
    have p2 : IsZ w7 (γ 2) (cn (cz m0) : Nat) := Each.get hF 2 (by decide)
    have p8 : IsZP 0 w7 (γ 8) (pp (cz m0)) := Each.get hF 8 (by decide)
    clear hF
    simp only [fillAll, gV, kv, List.getD_cons_zero, List.getD_cons_succ, Act.put, List.setIfInBounds_toArray, List.set_cons_zero, List.set_cons_succ, List.toList_toArray, List.drop_succ_cons, List.drop_zero, List.drop_nil, Nat.zero_add, Nat.reduceAdd]
    generalize γ 2 = g2 at *
    generalize γ 8 = g8 at *
    clear γ
    clear p2 p8 ceA0 ceA1 feA
    replace eA := eA.ext hx7
    replace eB := eB.ext hx7
    have HA := Lib.hid (HA'.out.kd hx7.kd); have HB := Lib.hid (HB'.out.kd hx7.kd)
    have Hp' := Lib.hid (Hp.out.ext hx7)
    have Hx7 := Lib.hid (Hx6.out.trans hx7)
    clear HA' HB' Hp Hx6 hx7
    obtain ⟨ceA0, ceA1⟩ := eA.cells2
    have feA := eA.frozen
    go_wp2_with fail
    refine Calls.mono (zscale_pp _ _ (pp (cz m0)) (cn (cz m0) : Nat) _ Hp'.out (fun i => by have := HP.out i; omega) (HA.out.has (by have := Hc.out.1; omega)) (by have := HK.out.1; omega)) ?_
    rintro e w8 ⟨r8, rfl, hr8, hx8⟩
    obtain ⟨A8, c8, rfl, k7, k8⟩ := hr8.shape
    have Hs := Lib.hid hr8; clear hr8 ceA0 ceA1 feA
    replace eA := eA.ext hx8
    replace eB := eB.ext hx8
    have HA' := Lib.hid (HA.out.kd hx8.kd); have HB' := Lib.hid (HB.out.kd hx8.kd)
    have Hx8 := Lib.hid (Hx7.out.trans hx8)
    clear HA HB Hp' Hx7 hx8
    have HSp := Lib.hid (show (∀ i, qsz (psc (((cn (cz m0) : Nat) : Int) : Rat) (pp (cz m0)) i) ≤ 12) ∧ pl (psc (((cn (cz m0) : Nat) : Int) : Rat) (pp (cz m0))) ≤ 20 from by
      refine ⟨fun i => ?_, pl_le (((pl_sup (pp_fin (Fin_.cz m0))).psc _).mono HK.out.1)⟩
      have h1 := qsz_mul (((cn (cz m0) : Nat) : Int) : Rat) (pp (cz m0) i)
      have h2 := HP.out i
      have h3 := Hc.out.1
      rw [qsz_cast] at h1
      show qsz (_ * _) ≤ _
      omega)
    go_wp2_with fail
    refine Calls.mono (normal_rz _ m0 _ (P0.out.ext Hx8.out) (by omega)) ?_
    rintro e w9 ⟨r9, rfl, hr9, hx9⟩
    replace eA := eA.ext hx9
    replace eB := eB.ext hx9
    have HA := Lib.hid (HA'.out.kd hx9.kd); have HB := Lib.hid (HB'.out.kd hx9.kd)
    have Hx9 := Lib.hid (Hx8.out.trans hx9)
    have Hs' := Lib.hid (Hs.out.ext hx9)
    have Hn := Lib.hid hr9
    clear HA' HB' Hx8 hx9 Hs hr9
    go_wp2_with fail
    refine Calls.mono (sameints_p _ _ _ _ _ _ _ Hs'.out Hn.out (by have := HSp.out.2; omega)) ?_
    rintro e w10 ⟨r10, rfl, ⟨b10, rfl, hb10⟩, hx10⟩
    replace eA := eA.ext hx10
    replace eB := eB.ext hx10
    have HA' := Lib.hid (HA.out.kd hx10.kd); have HB' := Lib.hid (HB.out.kd hx10.kd)
    have Hx10 := Lib.hid (Hx9.out.trans hx10)
    have Hs := Lib.hid (Hs'.out.ext hx10)
    have H10 := Lib.hid hb10
    clear HA HB Hx9 hx10 Hs' hb10 Hn
    cases b10 with
    | true =>
      obtain ⟨ceA0, ceA1⟩ := eA.cells2
      have feA := eA.frozen
      obtain ⟨ceB0, ceB1⟩ := eB.cells2
      have feB := eB.frozen
      go_wp2_with fail
      refine wp_region_par (k := 8) (D := [50, 51, 52, 53, 54, 55, 56, 57]) (T := [[], [], [0, 1], [0, 1, 2], [], [], [0, 1, 2, 3, 4, 5], [0, 1, 2, 3, 4, 5, 6], [0, 1, 2, 3, 4, 5, 6, 7]]) (EK := [0, 1, 5, 6]) (EV := [?e2x0, ?e2x1, ?e2x2, ?e2x3]) (VL := [(kv ?v2x0), (kv ?v2x1), (fun γ => γ 2), (fun γ => γ 3), (kv ?v2x4), (kv ?v2x5), (fun γ => γ 6), (kv (.bool true))]) (FL := fun γ w' => [True, True, IsZP 0 w' (γ 2) (cv (cz m0) (cz m1)), IsZ w' (γ 3) (cn (cv (cz m0) (cz m1)) : Nat), True, True, IsZ w' (γ 6) (cn (cv (cz m0) (cz m1)) : Nat), True]) ?hE2 (by kernel_rfl) (by kernel_rfl) (by rfl) (by kernel_rfl) ?hloc2 ?hmono2 ?hstep2 ?htail2
      case hE2 => refine ⟨?_, ?_, ?_, ?_, trivial⟩ <;> (simp only [List.getElem?_toArray, List.getElem?_cons_succ, List.getElem?_cons_zero]; rfl)
      case hstep2 =>
        refine ⟨⟨⟨⟨⟨⟨⟨⟨trivial, ?_⟩, ?_⟩, ?_⟩, ?_⟩, ?_⟩, ?_⟩, ?_⟩, ?_⟩
        · intro γ w' he hf; clear hf; refine ⟨trivial, ?_⟩; intro R hR
          have hc := he.cells
          go_simp
          (try go_ints); (try (rw [if_neg (by omega)])); (try (rw [if_pos (by omega)])); (try go_simp); (try go_ints)
          refine hR _ _ (Ext.refl _) ?_ trivial
          rfl
        · intro γ w' he hf; clear hf; refine ⟨trivial, ?_⟩; intro R hR
          have hc := he.cells
          go_simp
          (try go_ints); (try (rw [if_neg (by omega)])); (try (rw [if_pos (by omega)])); (try go_simp); (try go_ints)
          refine hR _ _ (Ext.refl _) ?_ trivial
          rfl
        · intro γ w' he hf; clear hf; refine ⟨trivial, ?_⟩; intro R hR
          go_simp
          refine Calls.mono (show Calls _ _ _ w' (Gives w' fun r w'' => IsZP 0 w'' (r) (cv (cz m0) (cz m1))) from Gives.imp (zmul_p _ _ m0 m1 6 6 w' (P0.out.ext (Hx10.out.trans he)) (P1.out.ext (Hx10.out.trans he)) HC.out.1 HC.out.2 (by omega) (by omega) (by have := HK.out.2.2.2; omega)) fun _ _ h => h.base_le (Nat.zero_le _)) ?_
          rintro e w2 ⟨v, rfl, hv, hx⟩
          exact ⟨v, rfl, hR v w2 hx rfl hv⟩
        · intro γ w' he hf; have f2 : IsZP 0 w' (γ 2) (cv (cz m0) (cz m1)) := hf 2 (by decide); clear hf; refine ⟨trivial, ?_⟩; intro R hR
          go_simp
          refine Calls.mono (show Calls _ _ _ w' (Gives w' fun r w'' => IsZ w'' (r) (cn (cv (cz m0) (cz m1)) : Nat)) from content_zpp _ _ w' f2 (fun i => by have := Hq.out i; omega) (by have := HK.out.2.2.1; omega)) ?_
          rintro e w2 ⟨v, rfl, hv, hx⟩
          exact ⟨v, rfl, hR v w2 hx rfl hv⟩
        · intro γ w' he hf; clear hf; refine ⟨trivial, ?_⟩; intro R hR
          have hc := he.cells
          have cq0 := he.cell ceA0
          have cq1 := he.cell ceA1
          have cq2 := he.cell ceB0
          have cq3 := he.cell ceB1
          go_simp
          (try go_ints); (try (rw [if_neg (by omega)])); (try (rw [if_pos (by omega)])); (try go_simp); (try go_ints)
          refine hR _ _ (Ext.refl _) ?_ trivial
          rfl
        · intro γ w' he hf; clear hf; refine ⟨trivial, ?_⟩; intro R hR
          have hc := he.cells
          have cq0 := he.cell ceA0
          have cq1 := he.cell ceA1
          have cq2 := he.cell ceB0
          have cq3 := he.cell ceB1
          go_simp
          (try go_ints); (try (rw [if_neg (by omega)])); (try (rw [if_pos (by omega)])); (try go_simp); (try go_ints)
          refine hR _ _ (Ext.refl _) ?_ trivial
          rfl
        · intro γ w' he hf; have f2 : IsZP 0 w' (γ 2) (cv (cz m0) (cz m1)) := hf 2 (by decide); have f3 : IsZ w' (γ 3) (cn (cv (cz m0) (cz m1)) : Nat) := hf 3 (by decide); clear hf; refine ⟨trivial, ?_⟩; intro R hR
          go_simp
          refine Calls.mono (show Calls _ _ _ w' (Gives w' fun r w'' => IsZ w'' (r) (cn (cv (cz m0) (cz m1)) : Nat)) from by rw [gauss (ZI.cz m0) (ZI.cz m1) (Fin_.cz m0) (Fin_.cz m1)]; exact Gives.imp (mul_r _ _ _ _ w' ((HA'.out.kd he.kd).has (by have := Hc.out.1; omega)) ((HB'.out.kd he.kd).has (by have := Hc.out.2; omega)) (by have := Hc.out.1; omega) (by have := Hc.out.2; omega)) fun _ _ h => by rw [Int.natCast_mul]; exact h) ?_
          rintro e w2 ⟨v, rfl, hv, hx⟩
          exact ⟨v, rfl, hR v w2 hx rfl hv⟩
        · intro γ w' he hf; have f2 : IsZP 0 w' (γ 2) (cv (cz m0) (cz m1)) := hf 2 (by decide); have f3 : IsZ w' (γ 3) (cn (cv (cz m0) (cz m1)) : Nat) := hf 3 (by decide); have f6 : IsZ w' (γ 6) (cn (cv (cz m0) (cz m1)) : Nat) := hf 6 (by decide); clear hf; refine ⟨trivial, ?_⟩; intro R hR
          go_simp
          refine Calls.mono (show Calls _ _ _ w' (Gives w' fun r _ => r = .bool true) from sameint_t _ _ _ w' f3 f6) ?_
          rintro e w2 ⟨v, rfl, rfl, hx⟩
          exact ⟨_, rfl, hR _ w2 hx rfl trivial⟩
      case hloc2 =>
        exact ⟨⟨⟨⟨⟨⟨⟨⟨trivial, (fun γ γ' h => ⟨rfl, fun _ => rfl⟩)⟩, (fun γ γ' h => ⟨rfl, fun _ => rfl⟩)⟩, (fun γ γ' h => ⟨h 2 rfl, fun w' => (congrArg (fun a => IsZP 0 w' (a) (cv (cz m0) (cz m1))) (h 2 rfl))⟩)⟩, (fun γ γ' h => ⟨h 3 rfl, fun w' => (congrArg (fun a => IsZ w' (a) (cn (cv (cz m0) (cz m1)) : Nat)) (h 3 rfl))⟩)⟩, (fun γ γ' h => ⟨rfl, fun _ => rfl⟩)⟩, (fun γ γ' h => ⟨rfl, fun _ => rfl⟩)⟩, (fun γ γ' h => ⟨h 6 rfl, fun w' => (congrArg (fun a => IsZ w' (a) (cn (cv (cz m0) (cz m1)) : Nat)) (h 6 rfl))⟩)⟩, (fun γ γ' h => ⟨rfl, fun _ => rfl⟩)⟩
      case hmono2 =>
        exact ⟨⟨⟨⟨⟨⟨⟨⟨trivial, (fun γ wA w' e h => h)⟩, (fun γ wA w' e h => h)⟩, (fun γ wA w' e h => (show IsZP 0 wA (γ 2) (cv (cz m0) (cz m1)) from h).ext e)⟩, (fun γ wA w' e h => (show IsZ wA (γ 3) (cn (cv (cz m0) (cz m1)) : Nat) from h).ext e)⟩, (fun γ wA w' e h => h)⟩, (fun γ wA w' e h => h)⟩, (fun γ wA w' e h => (show IsZ wA (γ 6) (cn (cv (cz m0) (cz m1)) : Nat) from h).ext e)⟩, (fun γ wA w' e h => h)⟩
      intro γ w20 hx20 hF
      have p2 : IsZP 0 w20 (γ 2) (cv (cz m0) (cz m1)) := Each.get hF 2 (by decide)
      have p3 : IsZ w20 (γ 3) (cn (cv (cz m0) (cz m1)) : Nat) := Each.get hF 3 (by decide)
      have p6 : IsZ w20 (γ 6) (cn (cv (cz m0) (cz m1)) : Nat) := Each.get hF 6 (by decide)
      clear hF
      simp only [fillAll, gV, kv, List.getD_cons_zero, List.getD_cons_succ, Act.put, List.setIfInBounds_toArray, List.set_cons_zero, List.set_cons_succ, List.toList_toArray, List.drop_succ_cons, List.drop_zero, List.drop_nil, Nat.zero_add, Nat.reduceAdd]
      generalize γ 2 = g2 at *
      generalize γ 3 = g3 at *
      generalize γ 6 = g6 at *
      clear γ
      clear p2 p3 p6
      go_wp2
      go_ret
      exact Gives.mk rfl (Hx10.out.trans hx20)
    | false =>
      have hor := (psc_pp_cn (ZI.cz m0) (Fin_.cz m0)).resolve_left (fun e => by have := H10.out.2 e; cases this)
      have HO := Lib.hid hor; clear hor
      go_wp2_with fail
      refine Calls.mono (z_b (-1) _ (by omega) (by omega)) ?_
      rintro e w11 ⟨r11, rfl, hr11, hx11⟩
      replace eA := eA.ext hx11
      replace eB := eB.ext hx11
      have HA := Lib.hid (HA'.out.kd hx11.kd); have HB := Lib.hid (HB'.out.kd hx11.kd)
      have Hx11 := Lib.hid (Hx10.out.trans hx11)
      have Hs' := Lib.hid (Hs.out.ext hx11)
      have H11 := Lib.hid (hr11.has (by decide))
      clear HA' HB' Hx10 hx11 Hs hr11
      go_wp2_with fail
      refine Calls.mono (zscale_pp _ _ _ (-1) _ Hs'.out (fun i => by have := HSp.out.1 i; omega) H11.out (by have := HSp.out.2; omega)) ?_
      rintro e w12 ⟨r12, rfl, hr12, hx12⟩
      rw [HO.out] at hr12
      replace eA := eA.ext hx12
      replace eB := eB.ext hx12
      have HA' := Lib.hid (HA.out.kd hx12.kd); have HB' := Lib.hid (HB.out.kd hx12.kd)
      have Hx12 := Lib.hid (Hx11.out.trans hx12)
      have H12 := Lib.hid hr12
      clear HA HB Hx11 hx12 Hs' hr12 H11
      go_wp2_with fail
      refine Calls.mono (normal_rz _ m0 _ (P0.out.ext Hx12.out) (by omega)) ?_
      rintro e w13 ⟨r13, rfl, hr13, hx13⟩
      replace eA := eA.ext hx13
      replace eB := eB.ext hx13
      have HA := Lib.hid (HA'.out.kd hx13.kd); have HB := Lib.hid (HB'.out.kd hx13.kd)
      have Hx13 := Lib.hid (Hx12.out.trans hx13)
      have H13 := Lib.hid (H12.out.ext hx13)
      have Hn := Lib.hid hr13
      clear HA' HB' Hx12 hx13 H12 hr13
      go_wp2_with fail
      refine Calls.mono (sameints_t _ _ _ _ _ _ H13.out Hn.out (by have := HK.out.2.1; omega)) ?_
      rintro e w14 ⟨r14, rfl, rfl, hx14⟩
      replace eA := eA.ext hx14
      replace eB := eB.ext hx14
      have HA' := Lib.hid (HA.out.kd hx14.kd); have HB' := Lib.hid (HB.out.kd hx14.kd)
      have Hx10 := Lib.hid (Hx13.out.trans hx14)
      clear HA HB Hx13 hx14 H13 Hn
      obtain ⟨ceA0, ceA1⟩ := eA.cells2
      have feA := eA.frozen
      obtain ⟨ceB0, ceB1⟩ := eB.cells2
      have feB := eB.frozen
      go_wp2_with fail
      refine wp_region_par (k := 8) (D := [50, 51, 52, 53, 54, 55, 56, 57]) (T := [[], [], [0, 1], [0, 1, 2], [], [], [0, 1, 2, 3, 4, 5], [0, 1, 2, 3, 4, 5, 6], [0, 1, 2, 3, 4, 5, 6, 7]]) (EK := [0, 1, 5, 6]) (EV := [?e3x0, ?e3x1, ?e3x2, ?e3x3]) (VL := [(kv ?v3x0), (kv ?v3x1), (fun γ => γ 2), (fun γ => γ 3), (kv ?v3x4), (kv ?v3x5), (fun γ => γ 6), (kv (.bool true))]) (FL := fun γ w' => [True, True, IsZP 0 w' (γ 2) (cv (cz m0) (cz m1)), IsZ w' (γ 3) (cn (cv (cz m0) (cz m1)) : Nat), True, True, IsZ w' (γ 6) (cn (cv (cz m0) (cz m1)) : Nat), True]) ?hE3 (by kernel_rfl) (by kernel_rfl) (by rfl) (by kernel_rfl) ?hloc3 ?hmono3 ?hstep3 ?htail3
      case hE3 => refine ⟨?_, ?_, ?_, ?_, trivial⟩ <;> (simp only [List.getElem?_toArray, List.getElem?_cons_succ, List.getElem?_cons_zero]; rfl)
      case hstep3 =>
        refine ⟨⟨⟨⟨⟨⟨⟨⟨trivial, ?_⟩, ?_⟩, ?_⟩, ?_⟩, ?_⟩, ?_⟩, ?_⟩, ?_⟩
        · intro γ w' he hf; clear hf; refine ⟨trivial, ?_⟩; intro R hR
          have hc := he.cells
          go_simp
          (try go_ints); (try (rw [if_neg (by omega)])); (try (rw [if_pos (by omega)])); (try go_simp); (try go_ints)
          refine hR _ _ (Ext.refl _) ?_ trivial
          rfl
        · intro γ w' he hf; clear hf; refine ⟨trivial, ?_⟩; intro R hR
          have hc := he.cells
          go_simp
          (try go_ints); (try (rw [if_neg (by omega)])); (try (rw [if_pos (by omega)])); (try go_simp); (try go_ints)
          refine hR _ _ (Ext.refl _) ?_ trivial
          rfl
        · intro γ w' he hf; clear hf; refine ⟨trivial, ?_⟩; intro R hR
          go_simp
          refine Calls.mono (show Calls _ _ _ w' (Gives w' fun r w'' => IsZP 0 w'' (r) (cv (cz m0) (cz m1))) from Gives.imp (zmul_p _ _ m0 m1 6 6 w' (P0.out.ext (Hx10.out.trans he)) (P1.out.ext (Hx10.out.trans he)) HC.out.1 HC.out.2 (by omega) (by omega) (by have := HK.out.2.2.2; omega)) fun _ _ h => h.base_le (Nat.zero_le _)) ?_
          rintro e w2 ⟨v, rfl, hv, hx⟩
          exact ⟨v, rfl, hR v w2 hx rfl hv⟩
        · intro γ w' he hf; have f2 : IsZP 0 w' (γ 2) (cv (cz m0) (cz m1)) := hf 2 (by decide); clear hf; refine ⟨trivial, ?_⟩; intro R hR
          go_simp
          refine Calls.mono (show Calls _ _ _ w' (Gives w' fun r w'' => IsZ w'' (r) (cn (cv (cz m0) (cz m1)) : Nat)) from content_zpp _ _ w' f2 (fun i => by have := Hq.out i; omega) (by have := HK.out.2.2.1; omega)) ?_
          rintro e w2 ⟨v, rfl, hv, hx⟩
          exact ⟨v, rfl, hR v w2 hx rfl hv⟩
        · intro γ w' he hf; clear hf; refine ⟨trivial, ?_⟩; intro R hR
          have hc := he.cells
          have cq0 := he.cell ceA0
          have cq1 := he.cell ceA1
          have cq2 := he.cell ceB0
          have cq3 := he.cell ceB1
          go_simp
          (try go_ints); (try (rw [if_neg (by omega)])); (try (rw [if_pos (by omega)])); (try go_simp); (try go_ints)
          refine hR _ _ (Ext.refl _) ?_ trivial
          rfl
        · intro γ w' he hf; clear hf; refine ⟨trivial, ?_⟩; intro R hR
          have hc := he.cells
          have cq0 := he.cell ceA0
          have cq1 := he.cell ceA1
          have cq2 := he.cell ceB0
          have cq3 := he.cell ceB1
          go_simp
          (try go_ints); (try (rw [if_neg (by omega)])); (try (rw [if_pos (by omega)])); (try go_simp); (try go_ints)
          refine hR _ _ (Ext.refl _) ?_ trivial
          rfl
        · intro γ w' he hf; have f2 : IsZP 0 w' (γ 2) (cv (cz m0) (cz m1)) := hf 2 (by decide); have f3 : IsZ w' (γ 3) (cn (cv (cz m0) (cz m1)) : Nat) := hf 3 (by decide); clear hf; refine ⟨trivial, ?_⟩; intro R hR
          go_simp
          refine Calls.mono (show Calls _ _ _ w' (Gives w' fun r w'' => IsZ w'' (r) (cn (cv (cz m0) (cz m1)) : Nat)) from by rw [gauss (ZI.cz m0) (ZI.cz m1) (Fin_.cz m0) (Fin_.cz m1)]; exact Gives.imp (mul_r _ _ _ _ w' ((HA'.out.kd he.kd).has (by have := Hc.out.1; omega)) ((HB'.out.kd he.kd).has (by have := Hc.out.2; omega)) (by have := Hc.out.1; omega) (by have := Hc.out.2; omega)) fun _ _ h => by rw [Int.natCast_mul]; exact h) ?_
          rintro e w2 ⟨v, rfl, hv, hx⟩
          exact ⟨v, rfl, hR v w2 hx rfl hv⟩
        · intro γ w' he hf; have f2 : IsZP 0 w' (γ 2) (cv (cz m0) (cz m1)) := hf 2 (by decide); have f3 : IsZ w' (γ 3) (cn (cv (cz m0) (cz m1)) : Nat) := hf 3 (by decide); have f6 : IsZ w' (γ 6) (cn (cv (cz m0) (cz m1)) : Nat) := hf 6 (by decide); clear hf; refine ⟨trivial, ?_⟩; intro R hR
          go_simp
          refine Calls.mono (show Calls _ _ _ w' (Gives w' fun r _ => r = .bool true) from sameint_t _ _ _ w' f3 f6) ?_
          rintro e w2 ⟨v, rfl, rfl, hx⟩
          exact ⟨_, rfl, hR _ w2 hx rfl trivial⟩
      case hloc3 =>
        exact ⟨⟨⟨⟨⟨⟨⟨⟨trivial, (fun γ γ' h => ⟨rfl, fun _ => rfl⟩)⟩, (fun γ γ' h => ⟨rfl, fun _ => rfl⟩)⟩, (fun γ γ' h => ⟨h 2 rfl, fun w' => (congrArg (fun a => IsZP 0 w' (a) (cv (cz m0) (cz m1))) (h 2 rfl))⟩)⟩, (fun γ γ' h => ⟨h 3 rfl, fun w' => (congrArg (fun a => IsZ w' (a) (cn (cv (cz m0) (cz m1)) : Nat)) (h 3 rfl))⟩)⟩, (fun γ γ' h => ⟨rfl, fun _ => rfl⟩)⟩, (fun γ γ' h => ⟨rfl, fun _ => rfl⟩)⟩, (fun γ γ' h => ⟨h 6 rfl, fun w' => (congrArg (fun a => IsZ w' (a) (cn (cv (cz m0) (cz m1)) : Nat)) (h 6 rfl))⟩)⟩, (fun γ γ' h => ⟨rfl, fun _ => rfl⟩)⟩
      case hmono3 =>
        exact ⟨⟨⟨⟨⟨⟨⟨⟨trivial, (fun γ wA w' e h => h)⟩, (fun γ wA w' e h => h)⟩, (fun γ wA w' e h => (show IsZP 0 wA (γ 2) (cv (cz m0) (cz m1)) from h).ext e)⟩, (fun γ wA w' e h => (show IsZ wA (γ 3) (cn (cv (cz m0) (cz m1)) : Nat) from h).ext e)⟩, (fun γ wA w' e h => h)⟩, (fun γ wA w' e h => h)⟩, (fun γ wA w' e h => (show IsZ wA (γ 6) (cn (cv (cz m0) (cz m1)) : Nat) from h).ext e)⟩, (fun γ wA w' e h => h)⟩
      intro γ w20 hx20 hF
      have p2 : IsZP 0 w20 (γ 2) (cv (cz m0) (cz m1)) := Each.get hF 2 (by decide)
      have p3 : IsZ w20 (γ 3) (cn (cv (cz m0) (cz m1)) : Nat) := Each.get hF 3 (by decide)
      have p6 : IsZ w20 (γ 6) (cn (cv (cz m0) (cz m1)) : Nat) := Each.get hF 6 (by decide)
      clear hF
      simp only [fillAll, gV, kv, List.getD_cons_zero, List.getD_cons_succ, Act.put, List.setIfInBounds_toArray, List.set_cons_zero, List.set_cons_succ, List.toList_toArray, List.drop_succ_cons, List.drop_zero, List.drop_nil, Nat.zero_add, Nat.reduceAdd]
      generalize γ 2 = g2 at *
      generalize γ 3 = g3 at *
      generalize γ 6 = g6 at *
      clear γ
      clear p2 p3 p6
      go_wp2
      go_ret
      exact Gives.mk rfl (Hx10.out.trans hx20)
end Go.Proofs.YtfacbpnegkjcgaaGreatDoor
namespace Go.Proofs.YtfacbpnegkjcgaaGreatDoor
open Go.ChangeShapes Go.WideShapes Go.ChangeAt Go.RowKit Go.Hp
open Go.ChangeMaps (open_string shut_string)
theorem own_ : ownKnob Tryz.prog.godebug = none := by kernel_rfl
theorem laidOut_ : laidOutB Tryz.prog = true := by kernel_rfl
theorem zpolyContents_door (os : Os) (args : Array Value) : laidMetH Tryz.prog [("math/bits.deBruijn32tab", Rows.laid_math_bits_deBruijn32tab), ("math/bits.deBruijn64tab", Rows.laid_math_bits_deBruijn64tab), ("internal/strconv.uint64pow10", Rows.laid_internal_strconv_uint64pow10)] ((World.doorLaid Tryz.prog 400 os).forCall (fun _ _ => 0) ⟨#[], args, []⟩).memory :=
  laidMetH_of_parts3 (fuel := 8) (laidMet_of_run' 8 (by kernel_rfl) (by kernel_rfl)) (by kernel_rfl) (by kernel_rfl)
set_option maxRecDepth 100000 in
theorem zpolyContents_lifted (os : Os) (started : os.Started) (H : Type) (enc : TypeId × Value → H) :
    ReturnsInHanded {} Tryz.checked os 3 .any (fun w args => (Rows.zpolyContentsSpec.pre enc Tryz.prog Tryz.f3 [] false w args ∧ laidMetH Tryz.prog [("math/bits.deBruijn32tab", Rows.laid_math_bits_deBruijn32tab), ("math/bits.deBruijn64tab", Rows.laid_math_bits_deBruijn64tab), ("internal/strconv.uint64pow10", Rows.laid_internal_strconv_uint64pow10)] w) ∧ sizedMet enc Tryz.prog Tryz.f3 (OpenSpec.ofChange Rows.zpolyContentsSpec) false w args)
      (Rows.zpolyContentsSpec.post enc Tryz.prog Tryz.f3 false true false false) := by
  refine returnsInHanded_of_change_and (C := Tryz.checked) (X := fun w _ => laidMetH Tryz.prog [("math/bits.deBruijn32tab", Rows.laid_math_bits_deBruijn32tab), ("math/bits.deBruijn64tab", Rows.laid_math_bits_deBruijn64tab), ("internal/strconv.uint64pow10", Rows.laid_internal_strconv_uint64pow10)] w) (fun _ _ _ hh h => h.of_heap hh) own_ started (by kernel_rfl) Tryz.func3
    (ChangeSpec.witness_shaped (enc := enc) (C := Tryz.checked) (os := os) (X := fun w _ => laidMetH Tryz.prog [("math/bits.deBruijn32tab", Rows.laid_math_bits_deBruijn32tab), ("math/bits.deBruijn64tab", Rows.laid_math_bits_deBruijn64tab), ("internal/strconv.uint64pow10", Rows.laid_internal_strconv_uint64pow10)] w) false (World.doorLaid Tryz.prog 400 os) #[.slice none 0 0, .slice none 0 0] 8 rfl (World.shaped_of_RefB (by kernel_rfl) (by kernel_rfl)) (by kernel_rfl) (by kernel_rfl) (by kernel_rfl) (zpolyContents_door os _)) ?_
  intro W base args ds gs before hval0 hW _ _ hL _
  clear hL
  have hval : ∀ (j : Nat) t v, Tryz.f3.params[j]? = some t → args[j]? = some v → Value.okWide Tryz.prog W .any base t v := hval0
  have hW' := hW
  obtain ⟨p, q, hA0, hV, rfl, hfz, hnd⟩ := hW
  have hA : DataW.TrodAll enc Tryz.prog W 0 (fun _ => true) true Tryz.f3.params.toList args.toList ds p := hA0
  rw [Tryz.params3] at hA hval
  obtain ⟨v0, v1, d0, d1, p0, p1, hargs, rfl, rfl, h0, h1⟩ := trodAll_two hA
  obtain rfl : args = #[v0, v1] := by cases args; simp_all
  obtain ⟨rfl, rfl⟩ := trodVars_none hV
  have lt0 : ∀ x ∈ p0, x.block < W.heap.size := by obtain ⟨m, hm⟩ := h0; exact DataW.trod_lt m _ _ _ hm
  have lt1 : ∀ x ∈ p1, x.block < W.heap.size := by obtain ⟨m, hm⟩ := h1; exact DataW.trod_lt m _ _ _ hm
  obtain ⟨l0, w0⟩ : ∃ l, ZPolyV W v0 l := by obtain ⟨m, hm⟩ := h0; exact open_zpoly Tryz.underlying23 hm (okWide_slice Tryz.underlying23 (hval 0 23 v0 rfl rfl))
  obtain ⟨l1, w1⟩ : ∃ l, ZPolyV W v1 l := by obtain ⟨m, hm⟩ := h1; exact open_zpoly Tryz.underlying23 hm (okWide_slice Tryz.underlying23 (hval 1 23 v1 rfl rfl))
  clear hA0 hval0
  refine (contents_law v0 v1 l0 l1 W w0 w1).mono fun e W' ⟨v, he, hv, bel⟩ => ?_
  subst he hv
  exact ⟨_, rfl, _, _, _, [], _, [], hW', trodAll_mk1 (shut_bool Tryz.underlying4 _), (trodAll_cons_mk (Below.trod laidOut_ (by kernel_rfl) (of_decide_eq_true (by kernel_rfl)) h0 bel lt0) (trodAll_cons_mk (Below.trod laidOut_ (by kernel_rfl) (of_decide_eq_true (by kernel_rfl)) h1 bel lt1) trodAll_mk0)), rfl, bel.frame _, fun h => by cases h⟩
theorem zpolyContents_over : Rows.zpolyContentsRow.holds Tryz.pinned (OpenSpec.ofChange Rows.zpolyContentsSpec) :=
  OpenClaim.holds_of_wide 3 Tryz.f3 rfl rfl rfl rfl rfl rfl rfl ⟨rfl, rfl, rfl, rfl, rfl⟩ rfl rfl rfl rfl rfl (by kernel_rfl) Tryz.func3 (by kernel_rfl)
    (of_decide_eq_true (by kernel_rfl)) (by unfold Func.isWrapper; first | (rw [if_pos (by decide +kernel)]; kernel_rfl) | (rw [if_neg (by decide +kernel)]; exact ⟨rfl, rfl⟩))
    (fun os started H enc _ => zpolyContents_lifted os started H enc)
theorem zpolyContents_proved : Rows.ZpolyContentsSaid := zpolyContents_over
theorem zpolyContents_card : Rows.ZpolyContentsCardSaid :=
  Claim7.holds_tied_plain_at .later [] [.data, .data, .data] true _ false
    zpolyContents_over (fun _ h => by cases h) (by kernel_rfl) (fun _ h => by cases h) zpolyContents_row_tie rfl ⟨rfl, rfl⟩ (by kernel_rfl) rfl
    (fun f fn hf hfn => by
      obtain rfl : f = 3 := Option.some.inj ((show Tryz.prog.funcNamed "halfplane/halfplanelaw05.ZpolyContents" = some 3 by kernel_rfl).symm.trans hf) |>.symm
      obtain rfl : fn = Tryz.f3 := (Option.some.inj (Tryz.func3.symm.trans hfn)).symm
      exact ⟨by kernel_rfl, fun j t ht => by
        rw [Tryz.params3] at ht
        have hm : t ∈ [23] := by simpa using Array.mem_of_getElem? ht
        have hall : ([23].all fun u => !Tryz.prog.wantsStandIn u) = true := by kernel_rfl
        exact (show Tryz.prog.wantsStandIn t = false by simpa using List.all_eq_true.1 hall t hm)⟩)
    (by kernel_rfl)
end Go.Proofs.YtfacbpnegkjcgaaGreatDoor
