/- Lemmas: The walks of the reference's integers: Mul. The walks of the reference's integers: Bits, shifted. The walk of the reference's long division. The contracts of bigint's functions: addition, multiplication. The contracts of bigint's functions: division. The contracts of the reference's integers: Euclid, Divided, Gcd. The contracts of bigint's functions: the greatest common divisor. The contracts of the reference's integers: Divided, Gcd. The contracts of bigint's functions: Gcd, Exact. The contracts of rational's functions. The contracts of rational's functions. The contracts of the reference's fractions. -/
import Derived.Test.YtedoifjbgokmcaaGreatK1
import Derived.Test.YtedoifjbgokmcaaGreatK2
set_option linter.unusedVariables false
set_option linter.unusedSimpArgs false
namespace Go.Proofs.YtedoifjbgokmcaaGreat
open Go.RowKit Go.Hp
set_option maxHeartbeats 1000000 in
theorem word_r (v : Value) (ds : List Nat) (w : World) (hv : DigV w v ds) (hn : ds.length ≤ 2) :
    Calls Tryz.prog 119 #[v] w (Gives w fun r _ => r = .int .u64 (nv ds : Nat)) := by
  obtain ⟨A, p1, rfl, hl, hc, hA⟩ := hv
  go_enter Tryz.func119, Tryz.ntmps119
  go_wp2
  go_loopw [3, 4] (fun nw iv wr => ∃ k : Nat, k ≤ ds.length ∧ (∃ q : Int, q + 1 = k ∧ iv = .int .i64 q) ∧ nw = .int .u64 (nv (ds.drop k) : Nat) ∧ Ext w wr) (fun _ iv _ => (intOf iv + 1).toNat)
  case atStart => exact ⟨ds.length, Nat.le_refl _, ⟨_, by omega, rfl⟩, by rw [List.drop_length]; rfl, Ext.refl _⟩
  case round =>
    obtain ⟨k, hk, ⟨q, hq, rfl⟩, rfl, hx⟩ := hrel
    have hb := nv_lt (Digs.drop hA.1 k)
    have hb2 : bp (ds.drop k).length ≤ bp (2 - k) := bp_le (by rw [List.length_drop]; omega)
    by_cases hk0 : 0 < k
    · obtain ⟨k, rfl⟩ : ∃ j, k = j + 1 := ⟨k - 1, by omega⟩
      obtain rfl : q = (k : Int) := by omega
      clear hq
      have hb3 : bp (2 - (k + 1)) ≤ 4294967296 := by rw [← bp_one]; exact bp_le (by omega)
      have hd := nv_drop (show k < ds.length by omega)
      rw [← dg_lt (show k < ds.length by omega)] at hd
      obtain ⟨a, rfl, hca⟩ := dig_at hA (k := k) (by omega)
      replace hca := hx.cell hca
      have x1 := dg_bound hA.1 k
      generalize hxx : dg ds k = x at *
      generalize hyy : nv (ds.drop (k + 1)) = y at *
      have hy : y < 4294967296 := by omega
      clear hb hb2 hb3 hxx
      have Hd := Lib.hid hd; clear hd hyy
      go_wp2
      go_roundw
      case rel => exact ⟨k, by omega, ⟨_, by omega, rfl⟩, by rw [Hd.out]; go_num, hx⟩
      case measure => simp [intOf] <;> omega
    · obtain rfl : k = 0 := by omega
      have q1 : q < 0 := by omega
      clear hb hb2
      go_wp2
      go_ret
      exact Gives.mk (by rw [List.drop_zero]; rfl) hx
theorem split_r (N : Nat) (w : World) (hN : N < 18446744073709551616) :
    Calls Tryz.prog 120 #[.int .u64 (N : Nat)] w (Gives w fun r w' => NatV w' r N) := by
  have key : ∀ (n g : Nat) (W : World) (t : TypeId) (a b : Int), a = (n % 4294967296 : Nat) → b = (n / 4294967296 : Nat) → g = W.heap.size → n < 18446744073709551616 → NumV (W.alloc (.cells #[.int .u32 a, .int .u32 b] t)) (.slice (some ⟨g, 0, none⟩) 2 2) n 2 := by
    intro n g W t a b ha hb hg hn
    subst ha hb hg
    have hb : DBlk (W.alloc (.cells #[.int .u32 (n % 4294967296 : Nat), .int .u32 (n / 4294967296 : Nat)] t)) W.heap.size t [n % 4294967296, n / 4294967296] := dblk_lit2 (heap_alloc_new W _)
    exact ⟨_, hb.digv (Digs.cons (by omega) (Digs.cons (by omega) Digs.nil)) (c := 2) (by simp) (by omega), by simp [nv_cons, nv_nil]; omega, by simp⟩
  have Hk := Lib.hid key; clear key
  go_enter Tryz.func120, Tryz.ntmps120
  go_wp2_with fail
  refine Calls.mono (trim_num _ N 2 _ (Hk.out N _ _ _ _ _ (by omega) (by omega) (by simp) (by omega)) (by omega)) ?_
  rintro e w1 ⟨r, rfl, hr, hx1⟩
  go_wp2
  go_ret
  exact Gives.mk hr hx1.a1
set_option maxHeartbeats 2000000 in
theorem mul_r (v u : Value) (x y : Int) (w : World) (hv : HasZ w v x) (hu : HasZ w u y) (sx : sz x.natAbs ≤ 549755813888) (sy : sz y.natAbs ≤ 549755813888) : Calls Tryz.prog 85 #[v, u] w (Gives w fun r w' => IsZ w' r (x * y)) := by
  obtain ⟨neg, A, n, c, N, rfl, h1, h2, h3, hN, hx⟩ := hv.form
  obtain ⟨neg', A', n', c', M, rfl, k1, k2, k3, kN, hy⟩ := hu.form
  have HN := Lib.hid hN; have HM := Lib.hid kN; clear hN hv hu kN
  have sN : sz N ≤ 549755813888 := by rw [hx] at sx; cases neg <;> simpa using sx
  have sM : sz M ≤ 549755813888 := by rw [hy] at sy; cases neg' <;> simpa using sy
  have Hz := Lib.hid (show x * y = if (neg != neg') = true then -((N * M : Nat) : Int) else ((N * M : Nat) : Int) by rw [hx, hy]; cases neg <;> cases neg' <;> simp [Int.neg_mul, Int.mul_neg])
  clear hx hy sx sy
  go_enter Tryz.func85, Tryz.ntmps85
  go_wp2_with fail
  refine wp_region_par (k := 5) (D := [12, 13, 14, 15, 16]) (T := [[], [0], [0, 1], [], [3], [0, 1, 2, 3, 4], [0, 1, 2, 3, 4, 5], [0, 1, 2, 3, 4, 5, 6]]) (EK := [2, 3]) (EV := [?e1x0, ?e1x1]) (VL := [(kv ?v1x0), (kv ?v1x1), (fun γ => γ 2), (kv ?v1x3), (kv ?v1x4)]) (FL := fun γ w' => [True, True, NatV w' (γ 2) N, True, True]) ?hE1 (by kernel_rfl) (by kernel_rfl) (by rfl) (by kernel_rfl) ?hloc1 ?hmono1 ?hstep1 ?htail1
  case hE1 => refine ⟨?_, ?_, trivial⟩ <;> (simp only [List.getElem?_toArray, List.getElem?_cons_succ, List.getElem?_cons_zero]; rfl)
  case hstep1 =>
    refine ⟨⟨⟨⟨⟨trivial, ?_⟩, ?_⟩, ?_⟩, ?_⟩, ?_⟩
    · intro γ w' he hf; clear hf; refine ⟨trivial, ?_⟩; intro R hR
      have hc := he.cells
      go_simp
      (try go_ints); (try (rw [if_neg (by omega)])); (try (rw [if_pos (by omega)])); (try go_simp); (try go_ints)
      refine hR _ _ (Ext.refl _) ?_ trivial
      rfl
    · intro γ w' he hf; clear hf; refine ⟨trivial, ?_⟩; intro R hR
      have hc := he.cells
      go_simp
      (try go_ints); (try (rw [if_neg (by omega)])); (try (rw [if_pos (by omega)])); (try go_simp); (try go_ints)
      refine hR _ _ (Ext.refl _) ?_ trivial
      rfl
    · intro γ w' he hf; clear hf; refine ⟨trivial, ?_⟩; intro R hR
      go_simp
      refine Calls.mono (show Calls _ _ _ w' (Gives w' fun r w'' => NatV w'' (r) N) from trim_num _ N n w' (HN.out.ext he.a3) (by omega)) ?_
      rintro e w2 ⟨v, rfl, hv, hx⟩
      exact ⟨v, rfl, hR v w2 hx rfl hv⟩
    · intro γ w' he hf; clear hf; refine ⟨trivial, ?_⟩; intro R hR
      have hc := he.cells
      go_simp
      (try go_ints); (try (rw [if_neg (by omega)])); (try (rw [if_pos (by omega)])); (try go_simp); (try go_ints)
      refine hR _ _ (Ext.refl _) ?_ trivial
      rfl
    · intro γ w' he hf; clear hf; refine ⟨trivial, ?_⟩; intro R hR
      have hc := he.cells
      go_simp
      (try go_ints); (try (rw [if_neg (by omega)])); (try (rw [if_pos (by omega)])); (try go_simp); (try go_ints)
      refine hR _ _ (Ext.refl _) ?_ trivial
      rfl
  case hloc1 =>
    exact ⟨⟨⟨⟨⟨trivial, (fun γ γ' h => ⟨rfl, fun _ => rfl⟩)⟩, (fun γ γ' h => ⟨rfl, fun _ => rfl⟩)⟩, (fun γ γ' h => ⟨h 2 rfl, fun w' => (congrArg (fun a => NatV w' (a) N) (h 2 rfl))⟩)⟩, (fun γ γ' h => ⟨rfl, fun _ => rfl⟩)⟩, (fun γ γ' h => ⟨rfl, fun _ => rfl⟩)⟩
  case hmono1 =>
    exact ⟨⟨⟨⟨⟨trivial, (fun γ wA w' e h => h)⟩, (fun γ wA w' e h => h)⟩, (fun γ wA w' e h => (show NatV wA (γ 2) N from h).ext e)⟩, (fun γ wA w' e h => h)⟩, (fun γ wA w' e h => h)⟩
  intro γ w1 hx1 hF
  have p2 : NatV w1 (γ 2) N := Each.get hF 2 (by decide)
  clear hF
  simp only [fillAll, gV, kv, List.getD_cons_zero, List.getD_cons_succ, Act.put, List.setIfInBounds_toArray, List.set_cons_zero, List.set_cons_succ, List.toList_toArray, List.drop_succ_cons, List.drop_zero, List.drop_nil, Nat.zero_add, Nat.reduceAdd]
  generalize γ 2 = g2 at *
  clear γ
  go_wp2_with fail
  refine Calls.mono (trim_num _ M n' _ (HM.out.ext hx1.a3) (by omega)) ?_
  rintro e w2 ⟨r, rfl, p5, hx2⟩
  replace p2 := p2.ext hx2
  replace hx1 := hx1.trans hx2
  clear hx2
  obtain ⟨ds, hd, hnv, -, hl⟩ := p2.len
  obtain ⟨es, he, hnv', -, hl'⟩ := p5.len
  clear p2 p5
  obtain ⟨E, r1, rfl, hdl, hdc, hE⟩ := hd
  obtain ⟨F, r2, rfl, hel, hec, hF⟩ := he
  have hdn : ds.length ≤ 549755813888 := by omega
  have hen : es.length ≤ 549755813888 := by omega
  rw [← hnv, ← hnv'] at Hz
  clear hnv hnv' hl hl' sN sM HN HM h1 h2 h3 k1 k2 k3
  have hmk := fun W => make_u32 (ds.length + es.length) ((ds.length : Int) + es.length) (by omega) (by omega) W
  go_wp2
  go_loopw [8] (fun iv wr => ∃ (i : Nat) (l : List Nat), i ≤ ds.length ∧ iv = .int .i64 i ∧ l.length = ds.length + es.length ∧ DBlk wr w2.heap.size 112 l ∧ Digs l ∧ (∀ q, i + es.length ≤ q → dg l q = 0) ∧ nv l = nv (ds.take i) * nv es ∧ Ext w2 wr) (fun iv _ => ds.length - (intOf iv).toNat)
  case atStart => exact ⟨0, _, Nat.zero_le _, rfl, List.length_replicate, DBlk.new _ _ _, Digs.zeros _, fun q _ => by unfold dg; rw [List.getD_eq_getElem?_getD, List.getElem?_replicate]; split <;> rfl, by rw [nv_zeros]; simp [nv_nil], (Ext.refl w2).alloc _⟩
  case round =>
    obtain ⟨i, l, hi, rfl, hll, hblk, hdl, hz, hval, hx⟩ := hrel
    have Hll := Lib.hid hll; clear hll
    have Hval := Lib.hid hval; clear hval
    have Hz' := Lib.hid hz; clear hz
    by_cases hil : i < ds.length
    · obtain ⟨a, rfl, hca⟩ := dig_at hE hil
      have x1 := dg_bound hE.1 i
      generalize hxx : dg ds i = x at *
      have Hx := Lib.hid hxx; clear hxx
      go_wp2
      obtain ⟨wo, rfl⟩ : ∃ wo : World, wo = wr := ⟨_, rfl⟩
      go_loopw [9, 10] (fun cv jv wr => ∃ (j c0 : Nat) (m : List Nat), j ≤ es.length ∧ jv = .int .i64 j ∧ cv = .int .u64 c0 ∧ c0 < 4294967296 ∧ m.length = ds.length + es.length ∧ DBlk wr w2.heap.size 112 m ∧ Digs m ∧ (∀ q, i + es.length ≤ q → dg m q = 0) ∧ nv m + c0 * (bp i * bp j) = nv l + x * bp i * nv (es.take j) ∧ Ext w2 wr) (fun _ jv _ => es.length - (intOf jv).toNat)
      case atStart => exact ⟨0, 0, l, Nat.zero_le _, rfl, rfl, by omega, Hll.out, hblk, hdl, Hz'.out, by simp [nv_nil], hx⟩
      case round =>
        obtain ⟨j, c0, m, hj, rfl, rfl, hc0, hml, hbm, hdm, hzm, hvm, hxm⟩ := hrel
        have Hml := Lib.hid hml; clear hml
        have Hvm := Lib.hid hvm; clear hvm
        have Hzm := Lib.hid hzm; clear hzm
        by_cases hje : j < es.length
        · obtain ⟨b, rfl, hcb⟩ := dig_at hF hje
          replace hcb := hxm.cell hcb
          have hcar := hxm.cell hca
          have y1 := dg_bound hF.1 j
          generalize hyy : dg es j = y at *
          have Hy := Lib.hid hyy; clear hyy
          have hmc := hbm.celld (i := i + j) (by have := Hml.out; omega)
          have z1 := dg_bound hdm (i + j)
          have hfz := hbm.frozen (i + j)
          generalize hzz : dg m (i + j) = z at *
          have Hzz := Lib.hid hzz; clear hzz
          have hxy : x * y ≤ 4294967295 * 4294967295 := Nat.mul_le_mul (by omega) (by omega)
          have hxy2 : x * y ≤ 18446744065119617025 := hxy
          clear hxy
          have k1 : (0 : Int) ≤ (x : Int) * y := by rw [← Int.natCast_mul]; omega
          have k2 : (x : Int) * y ≤ 18446744065119617025 := by rw [← Int.natCast_mul]; omega
          have Hxy := Lib.hid hxy2; clear hxy2
          go_wp2
          refine wp_region_par (k := 20) (D := [36, 37, 38, 39, 40, 41, 42, 43, 44, 45, 46, 47, 48, 49, 50, 51, 52, 53, 54, 55]) (T := [[], [], [0, 1], [0, 1, 2], [0, 1, 2, 3], [], [], [5, 6], [5, 6, 7], [5, 6, 7, 8], [0, 1, 2, 3, 4, 5, 6, 7, 8, 9], [], [], [], [12, 13], [11, 12, 13, 14], [11, 12, 13, 14, 15], [11, 12, 13, 14, 15, 16], [0, 1, 2, 3, 4, 5, 6, 7, 8, 9, 10, 11, 12, 13, 14, 15, 16, 17], [], [0, 1, 2, 3, 4, 5, 6, 7, 8, 9, 10, 11, 12, 13, 14, 15, 16, 17, 18, 19], [0, 1, 2, 3, 4, 5, 6, 7, 8, 9, 10, 11, 12, 13, 14, 15, 16, 17, 18, 19, 20]]) (EK := [5, 8, 6, 10, 7, 9]) (EV := [?e2x0, ?e2x1, ?e2x2, ?e2x3, ?e2x4, ?e2x5]) (VL := [(kv ?v2x0), (kv ?v2x1), (kv ?v2x2), (kv ?v2x3), (kv ?v2x4), (kv ?v2x5), (kv ?v2x6), (kv ?v2x7), (kv ?v2x8), (kv ?v2x9), (kv ?v2x10), (kv ?v2x11), (kv ?v2x12), (kv ?v2x13), (kv ?v2x14), (kv ?v2x15), (kv ?v2x16), (kv ?v2x17), (kv ?v2x18), (kv ?v2x19)]) (FL := fun γ w' => [True, True, True, True, True, True, True, True, True, True, True, True, True, True, True, True, True, True, True, True]) ?hE2 (by kernel_rfl) (by kernel_rfl) (by rfl) (by kernel_rfl) ?hloc2 ?hmono2 ?hstep2 ?htail2
          case hE2 => refine ⟨?_, ?_, ?_, ?_, ?_, ?_, trivial⟩ <;> (simp only [List.getElem?_toArray, List.getElem?_cons_succ, List.getElem?_cons_zero]; rfl)
          case hstep2 =>
            refine ⟨⟨⟨⟨⟨⟨⟨⟨⟨⟨⟨⟨⟨⟨⟨⟨⟨⟨⟨⟨trivial, ?_⟩, ?_⟩, ?_⟩, ?_⟩, ?_⟩, ?_⟩, ?_⟩, ?_⟩, ?_⟩, ?_⟩, ?_⟩, ?_⟩, ?_⟩, ?_⟩, ?_⟩, ?_⟩, ?_⟩, ?_⟩, ?_⟩, ?_⟩
            · intro γ w' he hf; clear hf; refine ⟨trivial, ?_⟩; intro R hR
              have hc := he.cells
              go_simp
              (try go_ints); (try (rw [if_neg (by omega)])); (try (rw [if_pos (by omega)])); (try go_simp); (try go_ints)
              refine hR _ _ (Ext.refl _) ?_ trivial
              rfl
            · intro γ w' he hf; clear hf; refine ⟨trivial, ?_⟩; intro R hR
              have hc := he.cells
              go_simp
              (try go_ints); (try (rw [if_neg (by omega)])); (try (rw [if_pos (by omega)])); (try go_simp); (try go_ints)
              refine hR _ _ (Ext.refl _) ?_ trivial
              rfl
            · intro γ w' he hf; clear hf; refine ⟨trivial, ?_⟩; intro R hR
              have hc := he.cells
              go_simp
              (try go_ints); (try (rw [if_neg (by omega)])); (try (rw [if_pos (by omega)])); (try go_simp); (try go_ints)
              refine hR _ _ (Ext.refl _) ?_ trivial
              rfl
            · intro γ w' he hf; clear hf; refine ⟨trivial, ?_⟩; intro R hR
              have hc := he.cells
              have cq0 := he.cell hcar
              have cq1 := he.cell hcb
              have cq2 := he.cell hmc
              go_simp
              (try go_ints); (try (rw [if_neg (by omega)])); (try (rw [if_pos (by omega)])); (try go_simp); (try go_ints)
              refine hR _ _ (Ext.refl _) ?_ trivial
              rfl
            · intro γ w' he hf; clear hf; refine ⟨trivial, ?_⟩; intro R hR
              have hc := he.cells
              go_simp
              (try go_ints); (try (rw [if_neg (by omega)])); (try (rw [if_pos (by omega)])); (try go_simp); (try go_ints)
              refine hR _ _ (Ext.refl _) ?_ trivial
              rfl
            · intro γ w' he hf; clear hf; refine ⟨trivial, ?_⟩; intro R hR
              have hc := he.cells
              go_simp
              (try go_ints); (try (rw [if_neg (by omega)])); (try (rw [if_pos (by omega)])); (try go_simp); (try go_ints)
              refine hR _ _ (Ext.refl _) ?_ trivial
              rfl
            · intro γ w' he hf; clear hf; refine ⟨trivial, ?_⟩; intro R hR
              have hc := he.cells
              go_simp
              (try go_ints); (try (rw [if_neg (by omega)])); (try (rw [if_pos (by omega)])); (try go_simp); (try go_ints)
              refine hR _ _ (Ext.refl _) ?_ trivial
              rfl
            · intro γ w' he hf; clear hf; refine ⟨trivial, ?_⟩; intro R hR
              have hc := he.cells
              go_simp
              (try go_ints); (try (rw [if_neg (by omega)])); (try (rw [if_pos (by omega)])); (try go_simp); (try go_ints)
              refine hR _ _ (Ext.refl _) ?_ trivial
              rfl
            · intro γ w' he hf; clear hf; refine ⟨trivial, ?_⟩; intro R hR
              have hc := he.cells
              have cq0 := he.cell hcar
              have cq1 := he.cell hcb
              have cq2 := he.cell hmc
              go_simp
              (try go_ints); (try (rw [if_neg (by omega)])); (try (rw [if_pos (by omega)])); (try go_simp); (try go_ints)
              refine hR _ _ (Ext.refl _) ?_ trivial
              rfl
            · intro γ w' he hf; clear hf; refine ⟨trivial, ?_⟩; intro R hR
              have hc := he.cells
              go_simp
              (try go_ints); (try (rw [if_neg (by omega)])); (try (rw [if_pos (by omega)])); (try go_simp); (try go_ints)
              refine hR _ _ (Ext.refl _) ?_ trivial
              rfl
            · intro γ w' he hf; clear hf; refine ⟨trivial, ?_⟩; intro R hR
              have hc := he.cells
              go_simp
              (try go_ints); (try (rw [if_neg (by omega)])); (try (rw [if_pos (by omega)])); (try go_simp); (try go_ints)
              refine hR _ _ (Ext.refl _) ?_ trivial
              rfl
            · intro γ w' he hf; clear hf; refine ⟨trivial, ?_⟩; intro R hR
              have hc := he.cells
              go_simp
              (try go_ints); (try (rw [if_neg (by omega)])); (try (rw [if_pos (by omega)])); (try go_simp); (try go_ints)
              refine hR _ _ (Ext.refl _) ?_ trivial
              rfl
            · intro γ w' he hf; clear hf; refine ⟨trivial, ?_⟩; intro R hR
              have hc := he.cells
              go_simp
              (try go_ints); (try (rw [if_neg (by omega)])); (try (rw [if_pos (by omega)])); (try go_simp); (try go_ints)
              refine hR _ _ (Ext.refl _) ?_ trivial
              rfl
            · intro γ w' he hf; clear hf; refine ⟨trivial, ?_⟩; intro R hR
              have hc := he.cells
              go_simp
              (try go_ints); (try (rw [if_neg (by omega)])); (try (rw [if_pos (by omega)])); (try go_simp); (try go_ints)
              refine hR _ _ (Ext.refl _) ?_ trivial
              rfl
            · intro γ w' he hf; clear hf; refine ⟨trivial, ?_⟩; intro R hR
              have hc := he.cells
              go_simp
              (try go_ints); (try (rw [if_neg (by omega)])); (try (rw [if_pos (by omega)])); (try go_simp); (try go_ints)
              refine hR _ _ (Ext.refl _) ?_ trivial
              rfl
            · intro γ w' he hf; clear hf; refine ⟨trivial, ?_⟩; intro R hR
              have hc := he.cells
              go_simp
              (try go_ints); (try (rw [if_neg (by omega)])); (try (rw [if_pos (by omega)])); (try go_simp); (try go_ints)
              refine hR _ _ (Ext.refl _) ?_ trivial
              rfl
            · intro γ w' he hf; clear hf; refine ⟨trivial, ?_⟩; intro R hR
              have hc := he.cells
              have cq0 := he.cell hcar
              have cq1 := he.cell hcb
              have cq2 := he.cell hmc
              go_simp
              (try go_ints); (try (rw [if_neg (by omega)])); (try (rw [if_pos (by omega)])); (try go_simp); (try go_ints)
              refine hR _ _ (Ext.refl _) ?_ trivial
              rfl
            · intro γ w' he hf; clear hf; refine ⟨trivial, ?_⟩; intro R hR
              have hc := he.cells
              go_simp
              (try go_ints); (try (rw [if_neg (by omega)])); (try (rw [if_pos (by omega)])); (try go_simp); (try go_ints)
              refine hR _ _ (Ext.refl _) ?_ trivial
              rfl
            · intro γ w' he hf; clear hf; refine ⟨trivial, ?_⟩; intro R hR
              have hc := he.cells
              go_simp
              (try go_ints); (try (rw [if_neg (by omega)])); (try (rw [if_pos (by omega)])); (try go_simp); (try go_ints)
              refine hR _ _ (Ext.refl _) ?_ trivial
              rfl
            · intro γ w' he hf; clear hf; refine ⟨trivial, ?_⟩; intro R hR
              have hc := he.cells
              go_simp
              (try go_ints); (try (rw [if_neg (by omega)])); (try (rw [if_pos (by omega)])); (try go_simp); (try go_ints)
              refine hR _ _ (Ext.refl _) ?_ trivial
              rfl
          case hloc2 =>
            exact ⟨⟨⟨⟨⟨⟨⟨⟨⟨⟨⟨⟨⟨⟨⟨⟨⟨⟨⟨⟨trivial, (fun γ γ' h => ⟨rfl, fun _ => rfl⟩)⟩, (fun γ γ' h => ⟨rfl, fun _ => rfl⟩)⟩, (fun γ γ' h => ⟨rfl, fun _ => rfl⟩)⟩, (fun γ γ' h => ⟨rfl, fun _ => rfl⟩)⟩, (fun γ γ' h => ⟨rfl, fun _ => rfl⟩)⟩, (fun γ γ' h => ⟨rfl, fun _ => rfl⟩)⟩, (fun γ γ' h => ⟨rfl, fun _ => rfl⟩)⟩, (fun γ γ' h => ⟨rfl, fun _ => rfl⟩)⟩, (fun γ γ' h => ⟨rfl, fun _ => rfl⟩)⟩, (fun γ γ' h => ⟨rfl, fun _ => rfl⟩)⟩, (fun γ γ' h => ⟨rfl, fun _ => rfl⟩)⟩, (fun γ γ' h => ⟨rfl, fun _ => rfl⟩)⟩, (fun γ γ' h => ⟨rfl, fun _ => rfl⟩)⟩, (fun γ γ' h => ⟨rfl, fun _ => rfl⟩)⟩, (fun γ γ' h => ⟨rfl, fun _ => rfl⟩)⟩, (fun γ γ' h => ⟨rfl, fun _ => rfl⟩)⟩, (fun γ γ' h => ⟨rfl, fun _ => rfl⟩)⟩, (fun γ γ' h => ⟨rfl, fun _ => rfl⟩)⟩, (fun γ γ' h => ⟨rfl, fun _ => rfl⟩)⟩, (fun γ γ' h => ⟨rfl, fun _ => rfl⟩)⟩
          case hmono2 =>
            exact ⟨⟨⟨⟨⟨⟨⟨⟨⟨⟨⟨⟨⟨⟨⟨⟨⟨⟨⟨⟨trivial, (fun γ wA w' e h => h)⟩, (fun γ wA w' e h => h)⟩, (fun γ wA w' e h => h)⟩, (fun γ wA w' e h => h)⟩, (fun γ wA w' e h => h)⟩, (fun γ wA w' e h => h)⟩, (fun γ wA w' e h => h)⟩, (fun γ wA w' e h => h)⟩, (fun γ wA w' e h => h)⟩, (fun γ wA w' e h => h)⟩, (fun γ wA w' e h => h)⟩, (fun γ wA w' e h => h)⟩, (fun γ wA w' e h => h)⟩, (fun γ wA w' e h => h)⟩, (fun γ wA w' e h => h)⟩, (fun γ wA w' e h => h)⟩, (fun γ wA w' e h => h)⟩, (fun γ wA w' e h => h)⟩, (fun γ wA w' e h => h)⟩, (fun γ wA w' e h => h)⟩
          intro γ w3 hx3 hF
          clear hF
          simp only [fillAll, gV, kv, List.getD_cons_zero, List.getD_cons_succ, Act.put, List.setIfInBounds_toArray, List.set_cons_zero, List.set_cons_succ, List.toList_toArray, List.drop_succ_cons, List.drop_zero, List.drop_nil, Nat.zero_add, Nat.reduceAdd]
          clear γ
          replace hbm := hbm.ext hx3
          replace hxm := hxm.trans hx3
          have hmc := hbm.celld (i := i + j) (by have := Hml.out; omega)
          have hfz := hbm.frozen (i + j)
          rw [Hzz.out] at hmc
          go_wp2
          go_roundw
          case rel =>
            have hml := Hml.out
            have e1 : (((x * y + z + c0) % 4294967296 : Nat) : Int) = ((x : Int) * y + z + c0) % 4294967296 := by rw [← Int.natCast_mul]; omega
            have e2 : (((x * y + z + c0) / 4294967296 : Nat) : Int) = ((x : Int) * y + z + c0) / 4294967296 := by rw [← Int.natCast_mul]; omega
            refine ⟨j + 1, (x * y + z + c0) / 4294967296, m.set (i + j) ((x * y + z + c0) % 4294967296), by omega, by go_num, by rw [e2], by have := Hxy.out; omega, by simpa using hml, hbm.setI _ _ e1.symm, hdm.set (by omega) _, fun q hq => by rw [dg_set_ne (by omega)]; exact Hzm.out q hq, ?_, hxm.setCell _ _ (Nat.le_refl _)⟩
            have hs := nv_set (l := m) (p := i + j) (d := (x * y + z + c0) % 4294967296) (by omega)
            rw [Hzz.out, bp_add] at hs
            rw [nv_take_dg, Hy.out, bp_succ]
            exact mul_step hs Hvm.out
          case measure => simp [intOf]; omega
        · obtain rfl : j = es.length := by omega
          have hmc := hbm.celld (i := i + es.length) (by have := Hml.out; omega)
          have hfz := hbm.frozen (i + es.length)
          go_wp2
          go_roundw
          case rel =>
            have hml := Hml.out
            refine ⟨i + 1, m.set (i + es.length) c0, by omega, by go_num, by simpa using hml, hbm.setI _ _ (by omega), hdm.set (by omega) _, fun q hq => by rw [dg_set_ne (by omega)]; exact Hzm.out q (by omega), ?_, hxm.setCell _ _ (Nat.le_refl _)⟩
            have hs := nv_set (l := m) (p := i + es.length) (d := c0) (by omega)
            rw [Hzm.out _ (Nat.le_refl _), Nat.mul_zero, Nat.add_zero, bp_add] at hs
            have h1 := Hvm.out
            rw [List.take_of_length_le (Nat.le_refl _), Hval.out] at h1
            rw [hs, nv_take_dg, Hx.out, Nat.mul_comm _ c0, h1]
            grind
          case measure => simp [intOf]; omega
    · obtain rfl : i = ds.length := by omega
      have hll := Hll.out
      have hq := hblk.digv hdl (c := ds.length + es.length) (by omega) (by omega)
      rw [hll] at hq
      have hr : NumV wr _ (nv ds * nv es) (ds.length + es.length) := ⟨l, hq, by rw [Hval.out, List.take_of_length_le (Nat.le_refl _)], by omega⟩
      clear hq hll hblk hdl
      replace hx1 := hx1.trans hx
      have hc1 := hx1.cells
      have hf1 := hx1.frozens
      go_wp2_with fail
      refine Calls.mono (signed_r (x * y) (neg != neg') _ _ _ _ Hz.out hr (by omega)) ?_
      rintro e w4 ⟨r, rfl, hr, hx4⟩
      clear hc1 hf1
      replace hx1 := hx1.trans hx4
      clear hx hx4
      obtain ⟨b5, A5, n5, c5, rfl⟩ := hr.cells
      have hc1 := hx1.cells
      have hf1 := hx1.frozens
      have Hfin := Lib.hid (fin_z hr hx1.a3 (NoDig.at_ hx1 (g := w.heap.size + 2) (by simp) (by simp [isDig])) (by omega))
      clear hr
      go_wp2
      refine bodyPost_ret (v := .agg #[.bool b5, .slice A5 n5 c5]) (by simp [results, Tryz.results85, go_sem, hc1]) rfl ?_
      exact Hfin.out
end Go.Proofs.YtedoifjbgokmcaaGreat
namespace Go.Hp
open Go.RowKit
/-- b is how many binary digits n has. -/
def BL (n b : Nat) : Prop := n < 2 ^ b ∧ (0 < b → 2 ^ (b - 1) ≤ n)
theorem BL.zero : BL 0 0 := ⟨by decide, fun h => absurd h (by decide)⟩
theorem BL.top {ds : List Nat} {j : Nat} (hd : Digs ds) (hl : 0 < ds.length) (h1 : dg ds (ds.length - 1) < 2 ^ j) (h2 : 0 < j) (h3 : 2 ^ (j - 1) ≤ dg ds (ds.length - 1)) : BL (nv ds) (32 * (ds.length - 1) + j) := by
  have h := nv_take_dg ds (ds.length - 1)
  rw [List.take_of_length_le (by omega)] at h
  have hb := nv_lt (hd.take (ds.length - 1))
  have hb2 : bp (ds.take (ds.length - 1)).length ≤ bp (ds.length - 1) := bp_le (by rw [List.length_take]; omega)
  generalize dg ds (ds.length - 1) = d at *
  have hp := bp_two_pow (ds.length - 1)
  generalize hmm : ds.length - 1 = m at *
  constructor
  · rw [h, Nat.pow_add, ← hp]
    have : bp m * (d + 1) ≤ bp m * 2 ^ j := Nat.mul_le_mul_left _ h1
    rw [Nat.mul_add] at this
    omega
  · intro _
    rw [h, show 32 * m + j - 1 = 32 * m + (j - 1) by omega, Nat.pow_add, ← hp]
    have : bp m * 2 ^ (j - 1) ≤ bp m * d := Nat.mul_le_mul_left _ h3
    omega
theorem BL.le {n b m : Nat} (h : BL n b) (hm : n < 2 ^ m) : b ≤ m := by
  rcases Nat.lt_or_ge m b with h1 | h1
  · have h2 := h.2 (by omega)
    have : 2 ^ m ≤ 2 ^ (b - 1) := Nat.pow_le_pow_right (by decide) (by omega)
    omega
  · exact h1
end Go.Hp
namespace Go.Proofs.YtedoifjbgokmcaaGreat
open Go.RowKit Go.Hp
set_option maxHeartbeats 1000000 in
theorem bits_r (v : Value) (x : Int) (w : World) (hv : HasZ w v x) : Calls Tryz.prog 145 #[v] w (Gives w fun r _ => ∃ b : Nat, r = .int .i64 b ∧ BL x.natAbs b) := by
  obtain ⟨neg, A, n, c, N, rfl, h1, h2, h3, hN, hx⟩ := hv.form
  have HN := Lib.hid hN; clear hN hv
  have Hx := Lib.hid (show x.natAbs = N by rw [hx]; cases neg <;> simp); clear hx
  go_enter Tryz.func145, Tryz.ntmps145
  go_wp2_with fail
  refine Calls.mono (trim_num _ N n _ (HN.out.ext ((Ext.refl w).alloc _)) (by omega)) ?_
  rintro e w1 ⟨r, rfl, hr, hx1⟩
  obtain ⟨ds, hd, hnv, ht, hl⟩ := hr.len
  obtain ⟨E, p1, rfl, hl1, hc1, hE⟩ := hd
  have HX := Lib.hid (show x.natAbs = nv ds by rw [Hx.out, ← hnv])
  have hx := hx1.a1
  have hm : ds.length ≤ 1099511627776 := by rw [hl]; exact Nat.le_trans HN.out.sz h3
  clear hx1 hr hl HN Hx hnv h1 h2 h3
  rcases Nat.eq_zero_or_pos ds.length with h0 | h0
  · have hb : (((ds.length : Nat) : Int) == 0) = true := by rw [h0]; rfl
    have : ds = [] := List.eq_nil_of_length_eq_zero h0
    clear h0
    have Hd := Lib.hid this; clear this
    go_wp2
    go_ret
    exact Gives.mk ⟨0, rfl, by rw [HX.out, Hd.out]; exact BL.zero⟩ hx
  · have hb : (((ds.length : Nat) : Int) == 0) = false := beq_eq_false_iff_ne.2 (by omega)
    obtain ⟨a, ha, hca⟩ := dig_at hE (k := ds.length - 1) (by omega)
    have x1 := dg_bound hE.1 (ds.length - 1)
    have hd0 : dg ds (ds.length - 1) ≠ 0 := by
      rw [dg_lt (by omega)]
      have := ht (List.ne_nil_of_length_pos h0)
      rwa [List.getLast_eq_getElem] at this
    obtain ⟨d, hdd⟩ : ∃ d, d = dg ds (ds.length - 1) := ⟨_, rfl⟩
    rw [← hdd] at hca x1 hd0
    replace hca := hca
    have Hd := Lib.hid (And.intro hdd ht); clear hdd ht
    obtain ⟨m, hmm⟩ : ∃ m, ds.length = m + 1 := ⟨ds.length - 1, by omega⟩
    rw [hmm] at hca hb hl1 hm ⊢
    clear h0
    have Hm := Lib.hid hmm; clear hmm
    subst ha
    rw [Nat.add_sub_cancel] at hca
    go_wp2
    go_loopw [4, 5] (fun bv tv wr => ∃ j : Nat, j ≤ 32 ∧ bv = .int .i64 (32 * m + j : Nat) ∧ tv = .int .u32 (d / 2 ^ j : Nat) ∧ (0 < j → 2 ^ (j - 1) ≤ d) ∧ Ext w wr) (fun _ tv _ => (intOf tv).toNat)
    case atStart => exact ⟨0, by omega, by go_num, by simp, fun h => absurd h (by decide), hx⟩
    case round =>
      obtain ⟨j, hj, rfl, rfl, hlow, hx⟩ := hrel
      have Hlow := Lib.hid hlow; clear hlow
      obtain ⟨t, htt⟩ : ∃ t, d / 2 ^ j = t := ⟨_, rfl⟩
      rw [htt]
      have t1 : t < 4294967296 := by rw [← htt]; exact Nat.lt_of_le_of_lt (Nat.div_le_self _ _) x1
      have h2 : d / 2 ^ (j + 1) = t / 2 := by rw [← htt, Nat.pow_succ, Nat.div_div_eq_div_mul]
      have h3 : 0 < t → 2 ^ j ≤ d := fun h => by
        rcases Nat.lt_or_ge d (2 ^ j) with h' | h'
        · rw [Nat.div_eq_of_lt h'] at htt; omega
        · exact h'
      have h4 : t = 0 → d < 2 ^ j := fun h => by
        rcases Nat.lt_or_ge d (2 ^ j) with h' | h'
        · exact h'
        · have := Nat.div_pos h' (Nat.two_pow_pos j); omega
      have H := Lib.hid (And.intro h2 (And.intro h3 h4)); clear h2 h3 h4 htt
      by_cases ht0 : 0 < t
      · have hj32 : j < 32 := by
          rcases Nat.lt_or_ge j 32 with h | h
          · exact h
          · have := H.out.2.1 ht0
            have h5 : 2 ^ 32 ≤ 2 ^ j := Nat.pow_le_pow_right (by decide) h
            omega
        go_wp2
        go_roundw
        case rel => exact ⟨j + 1, by omega, by go_num, by rw [H.out.1]; go_num, fun _ => H.out.2.1 ht0, hx⟩
        case measure => simp [intOf] <;> omega
      · have ht1 : t = 0 := by omega
        go_wp2
        go_ret
        refine Gives.mk ⟨32 * m + j, rfl, ?_⟩ hx
        have hj0 : 0 < j := by
          rcases Nat.eq_zero_or_pos j with h | h
          · subst h; have := H.out.2.2 ht1; omega
          · exact h
        have := BL.top (ds := ds) (j := j) hE.1 (by have := Hm.out; omega) (by rw [← Hd.out.1]; exact H.out.2.2 ht1) hj0 (by rw [← Hd.out.1]; exact Hlow.out hj0)
        rw [Hm.out, Nat.add_sub_cancel] at this
        rw [HX.out]; exact this
theorem OwnD.made (w : World) (z base : Nat) (hb : base ≤ w.heap.size) (hz : z ≤ 70368744177664) : OwnD base (w.alloc (.cells (zcells z) 112)) (.slice (some ⟨w.heap.size, 0, none⟩) z z) (List.replicate z 0) := by
  unfold OwnD
  rw [List.length_replicate]
  refine ⟨by simp, .inr ⟨_, _, _, rfl, hb, heap_alloc_new w _, Nat.le_refl _, by simp only [maxLen]; omega, by simp [zcells], by simp [zcells, dv]⟩⟩
theorem sh_step {L X p S c d B : Nat} (h : L + c * p = X) : L + p * ((d * S + c) % B) + (d * S + c) / B * (B * p) = X + p * (d * S) := by
  have e : (d * S + c) % B + B * ((d * S + c) / B) = d * S + c := Nat.mod_add_div _ _
  generalize (d * S + c) % B = r at *
  generalize (d * S + c) / B = q at *
  grind
set_option maxHeartbeats 1000000 in
theorem shifted_r (v : Value) (ds : List Nat) (s : Nat) (w : World) (hv : DigV w v ds) (hs : s ≤ 70368744177664) (hn : ds.length ≤ 2199023255552) :
    Calls Tryz.prog 146 #[v, .int .i64 (s : Nat)] w (Gives w fun r w' => NatV w' r (nv ds * 2 ^ s)) := by
  obtain ⟨A, p1, rfl, hl, hc, hA⟩ := hv
  obtain ⟨z, hz⟩ : ∃ z, z = s / 32 := ⟨_, rfl⟩
  obtain ⟨p, hp⟩ : ∃ p, p = s % 32 := ⟨_, rfl⟩
  have hp32 : p < 32 := by omega
  have hmk := fun W => make_u32 z z rfl (by omega) W
  obtain ⟨S, hS⟩ : ∃ S, 2 ^ p = S := ⟨_, rfl⟩
  have hSi : (2 : Int) ^ p = (S : Nat) := by rw [← hS]; simp
  have hS1 : S ≤ 2147483648 := by rw [← hS]; exact Nat.pow_le_pow_right (by decide) (show p ≤ 31 by omega)
  have hS0 : 0 < S := by rw [← hS]; exact Nat.two_pow_pos _
  have Hs := Lib.hid (show 2 ^ s = S * bp z by rw [bp_two_pow, ← hS, ← Nat.pow_add]; congr 1; omega)
  have e1 : (s : Int) / 32 = z := by omega
  have e2 : (s : Int) % 32 = p := by omega
  have e3 : (s : Int) < 70368744177665 := by omega
  clear hz hp hS
  go_enter Tryz.func146, Tryz.ntmps146
  go_wp2
  go_loopw [5, 6, 7] (fun ov cv iv wr => ∃ (k c0 : Nat) (l : List Nat), k ≤ ds.length ∧ iv = .int .i64 k ∧ cv = .int .u64 c0 ∧ c0 < 2147483648 ∧ l.length = k + z ∧ OwnD w.heap.size wr ov l ∧ Digs l ∧ nv l + c0 * bp (k + z) = nv (ds.take k) * (S * bp z) ∧ Ext w wr) (fun _ _ iv _ => ds.length - (intOf iv).toNat)
  case atStart => exact ⟨0, 0, List.replicate z 0, Nat.zero_le _, rfl, rfl, by omega, by simp, OwnD.made w z _ (Nat.le_refl _) (by omega), Digs.zeros _, by rw [nv_zeros]; simp [nv_nil], (Ext.refl w).alloc _⟩
  case round =>
    obtain ⟨k, c0, l, hk, rfl, rfl, hc0, hll, hown, hdl, hval, hx⟩ := hrel
    have x1 := dg_bound hA.1 k
    have Hl := Lib.hid (And.intro hll (And.intro hdl hval)); clear hll hdl hval
    have Hown := Lib.hid hown; clear hown
    have hsz := hx.size
    by_cases hkm : k < ds.length
    · obtain ⟨a, rfl, hca⟩ := dig_at hA hkm
      generalize hxx : dg ds k = x at *
      have Hx := Lib.hid hxx; clear hxx
      replace hca := hx.cell hca
      have hxS : x * S ≤ 4294967295 * 2147483648 := Nat.mul_le_mul (by omega) hS1
      have hxS2 : x * S ≤ 9223372034707292160 := hxS
      clear hxS
      have k1 : (0 : Int) ≤ (x : Int) * S := by rw [← Int.natCast_mul]; omega
      have k2 : (x : Int) * S ≤ 9223372034707292160 := by rw [← Int.natCast_mul]; omega
      have e4 : (((x * S + c0) % 4294967296 : Nat) : Int) = ((x : Int) * S + c0) % 4294967296 := by rw [← Int.natCast_mul]; omega
      have e5 : (((x * S + c0) / 4294967296 : Nat) : Int) = ((x : Int) * S + c0) / 4294967296 := by rw [← Int.natCast_mul]; omega
      have Hq := Lib.hid (And.intro hxS2 (And.intro e4 e5)); clear hxS2 e4 e5
      go_wp2_with (at_builtin; refine wpList_append_run rfl _ _ 36 rfl u5 (.slice (some ⟨wr.heap.size, 0, none⟩) 1 1) rfl rfl (append_d wr w.heap.size _ _ l ((x * S + c0) % 4294967296) _ _ Hown.out (by exact Hq.out.2.1.symm) (by have := Hl.out.1; omega) hsz rfl) ?_)
      rintro v' w2 hown hg
      replace hx := (Hown.out.alloc _).from_ hg (hx.alloc _) (Nat.le_refl _)
      have Hown' := Lib.hid hown; clear hown hg
      go_wp2
      go_roundw
      case rel => exact ⟨k + 1, (x * S + c0) / 4294967296, _, by omega, by go_num, by rw [Hq.out.2.2], by have := Hq.out.1; omega, by rw [List.length_append, Hl.out.1]; simp; omega, Hown'.out, Hl.out.2.1.append (Digs.cons (by omega) Digs.nil), by
        rw [nv_snoc, Hl.out.1, nv_take_dg, Hx.out, show k + 1 + z = (k + z) + 1 by omega, bp_succ, Nat.add_mul, sh_step Hl.out.2.2, bp_add]
        congr 1
        grind, hx⟩
      case measure => simp [intOf]; omega
    · obtain rfl : k = ds.length := by omega
      go_wp2_with (at_builtin; refine wpList_append_run rfl _ _ 36 rfl u5 (.slice (some ⟨wr.heap.size, 0, none⟩) 1 1) rfl rfl (append_d wr w.heap.size _ _ l c0 _ _ Hown.out (by omega) (by have := Hl.out.1; omega) hsz rfl) ?_)
      rintro v' w2 hown hg
      replace hx := (Hown.out.alloc _).from_ hg (hx.alloc _) (Nat.le_refl _)
      have hN : NumV w2 v' (nv ds * 2 ^ s) (ds.length + z + 1) := ⟨_, hown.digv (Hl.out.2.1.append (Digs.cons (by omega) Digs.nil)), by
        have h3 := Hl.out.2.2
        rw [List.take_of_length_le (Nat.le_refl _)] at h3
        rw [nv_snoc, Hl.out.1, Hs.out, ← h3, Nat.mul_comm], by rw [List.length_append, Hl.out.1]; simp⟩
      have hzz : z ≤ 2199023255552 := by omega
      clear hown hg
      go_wp2_with fail
      refine Calls.mono (trim_num _ _ _ _ hN (by omega)) ?_
      rintro e w3 ⟨r, rfl, hr, hx3⟩
      go_wp2
      go_ret
      exact Gives.mk hr (hx.trans hx3)
end Go.Proofs.YtedoifjbgokmcaaGreat
namespace Go.Proofs.YtedoifjbgokmcaaGreat
open Go.RowKit Go.Hp
/-- Digits outside of the block B. -/
def DigF (B : Nat) (w : World) (v : Value) (ds : List Nat) : Prop := DigV w v ds ∧ (0 < ds.length → ∀ a n c, v = .slice (some a) n c → a.block ≠ B)
theorem DigF.ext {B : Nat} {w w' : World} {v : Value} {ds : List Nat} (h : DigF B w v ds) (e : Ext w w') : DigF B w' v ds := ⟨h.1.ext e, h.2⟩
theorem DigF.of_own {B base : Nat} {w : World} {v : Value} {ds : List Nat} (h : DigO base w v ds) (hb : B < base) : DigF B w v ds := ⟨h.1, fun h0 a n c e => by have := h.2 h0 a n c e; omega⟩
theorem DigF.of_old {B : Nat} {w : World} {v : Value} {ds : List Nat} (h : DigV w v ds) (hb : w.heap.size ≤ B) : DigF B w v ds := ⟨h, fun h0 a n c e => by
  obtain ⟨A, c', e', _, _, _, hA⟩ := h
  obtain ⟨a', ha, hc⟩ := hA h0
  rw [e'] at e
  simp only [Value.slice.injEq] at e
  rw [ha] at e
  simp only [Option.some.injEq] at e
  have hlt := hc 0 h0
  have : (a'.add 0).block < w.heap.size := by
    rcases Nat.lt_or_ge (a'.add 0).block w.heap.size with h | h
    · exact h
    · unfold World.cell? at hlt
      rw [Array.getElem?_eq_none h] at hlt
      cases hlt
  have e2 : (a'.add 0).block = a'.block := rfl
  rw [← e.1]
  omega⟩
theorem DigF.set_ {B : Nat} {w : World} {v : Value} {ds : List Nat} (h : DigF B w v ds) (i : Nat) (u : Value) : DigF B (w.setCell ⟨B, i, none⟩ u) v ds := ⟨by
  obtain ⟨A, c, e, h1, h2, hd, hA⟩ := h.1
  refine ⟨A, c, e, h1, h2, hd, fun h0 => ?_⟩
  obtain ⟨a, ha, hc⟩ := hA h0
  have hne := h.2 h0 a _ _ (by rw [e, ha])
  refine ⟨a, ha, fun j hj => ?_⟩
  have hb : (w.setCell ⟨B, i, none⟩ u).heap[(a.add j).block]? = w.heap[(a.add j).block]? := Below.heap_setCell w ⟨B, i, none⟩ u _ (by
    have e2 : (a.add j).block = a.block := by unfold Addr.add; split <;> rfl
    rw [e2]; exact hne)
  have h3 := hc j hj
  unfold World.cell? at h3 ⊢
  rw [hb]
  exact h3, h.2⟩
/-- The digit that holds the place i of a number whose lower i + 1 places are empty. -/
theorem low_digit {l : List Nat} {t z p : Nat} (hd : Digs l) (hz : z < l.length) (hp : p < 32) (h : nv l = 2 ^ (32 * z + p + 1) * t) : dg l z + 2 ^ p < 4294967296 ∧ nv (l.set z (dg l z + 2 ^ p)) = nv l + 2 ^ (32 * z + p) := by
  have e1 := nv_split l z (by omega)
  have e2 := nv_drop hz
  rw [← dg_lt hz] at e2
  have hb := nv_lt (Digs.take hd z)
  have hlen : (l.take z).length = z := by rw [List.length_take]; omega
  rw [hlen] at hb
  have hx := dg_bound hd z
  have hs := nv_set (l := l) (p := z) (d := dg l z + 2 ^ p) hz
  generalize hxx : dg l z = x at *
  rw [e2] at e1
  generalize nv (l.drop (z + 1)) = y at *
  have hpw : 2 ^ (32 * z + p + 1) = bp z * (2 * 2 ^ p) := by rw [bp_two_pow, Nat.pow_succ, Nat.pow_add, Nat.mul_assoc, Nat.mul_comm (2 ^ p) 2]
  obtain ⟨q, hq⟩ : ∃ q, 4294967296 = 2 * 2 ^ p * q := ⟨2 ^ (31 - p), by rw [Nat.mul_assoc, ← Nat.pow_add, show p + (31 - p) = 31 by omega]⟩
  have hP := Nat.two_pow_pos p
  have hB := bp_pos z
  rw [hpw, Nat.mul_assoc, e1] at h
  have hx2 : ∃ r, x = 2 * 2 ^ p * r := by
    generalize 2 * 2 ^ p = P at *
    have hlow : nv (l.take z) = 0 := by
      have h1 : bp z ∣ nv (l.take z) := (Nat.dvd_add_iff_left (Nat.dvd_mul_right _ _)).2 (by rw [h]; exact Nat.dvd_mul_right _ _)
      exact Nat.eq_zero_of_dvd_of_lt h1 hb
    rw [hlow, Nat.zero_add] at h
    have h2 := Nat.eq_of_mul_eq_mul_left hB h
    have h3 : P ∣ x := ⟨t - q * y, by rw [Nat.mul_sub, ← h2, hq, Nat.mul_assoc, Nat.add_sub_cancel]⟩
    exact h3
  obtain ⟨r, hr⟩ := hx2
  constructor
  · generalize hPP : 2 ^ p = P at *
    have h4 : r < q := by
      rcases Nat.lt_or_ge r q with h | h
      · exact h
      · have := Nat.mul_le_mul_left (2 * P) h
        omega
    have h5 : 2 * P * (r + 1) ≤ 2 * P * q := Nat.mul_le_mul_left _ h4
    rw [Nat.mul_add, Nat.mul_one] at h5
    omega
  · have e3 : 2 ^ (32 * z + p) = bp z * 2 ^ p := by rw [bp_two_pow, Nat.pow_add]
    rw [e3]
    rw [Nat.mul_add] at hs
    omega
theorem bits_rd (v : Value) (A : Option Addr) (n c N : Nat) (w : World) (hv : v = .slice A n c) (h : NatV w v N) (hs : sz N ≤ 1099511627776) : Calls Tryz.prog 145 #[.agg #[.bool false, .slice A n c]] w (Gives w fun r _ => ∃ b : Nat, r = .int .i64 b ∧ BL N b) := by
  obtain ⟨ds, hd, hN, ht, hl⟩ := h.len
  have := bits_r (.agg #[.bool false, .slice A n c]) N w ⟨false, ds, ⟨v, by rw [hv], hd⟩, by unfold iv; rw [hN]; rfl, by omega⟩
  simpa using this
theorem word_rn (v : Value) (N : Nat) (w : World) (h : NatV w v N) (hn : sz N ≤ 2) : Calls Tryz.prog 119 #[v] w (Gives w fun r _ => r = .int .u64 (N : Nat)) := by
  obtain ⟨ds, hd, rfl, ht, hl⟩ := h.len
  exact word_r v ds w hd (by omega)
theorem split_rz (z : Int) (N : Nat) (w : World) (hz : z = (N : Nat)) (hN : N < 18446744073709551616) : Calls Tryz.prog 120 #[.int .u64 z] w (Gives w fun r w' => NatV w' r N) := by
  subst hz; exact split_r N w hN
theorem shifted_rn (v : Value) (N s : Nat) (w : World) (h : NatV w v N) (hs : s ≤ 70368744177664) (hn : sz N ≤ 2199023255552) :
    Calls Tryz.prog 146 #[v, .int .i64 (s : Nat)] w (Gives w fun r w' => NatV w' r (N * 2 ^ s)) := by
  obtain ⟨ds, hd, rfl, ht, hl⟩ := h.len
  exact shifted_r v ds s w hd hs (by omega)
theorem trim_off (v : Value) (N l : Nat) (w : World) (h : NumV w v N l) (hl : l ≤ 8796093022208) : Calls Tryz.prog 117 #[v] w (Gives w fun r w' => ∃ rs, DigO w.heap.size w' r rs ∧ nv rs = N ∧ Top rs) := by
  obtain ⟨ds, h1, rfl, h3⟩ := h
  exact Gives.imp (trim_own v ds w h1 (by omega)) fun _ _ h => ⟨_, h, trim_nv ds, trim_top ds⟩
set_option maxHeartbeats 4000000 in
theorem divided_r (v u : Value) (N M : Nat) (w : World) (hv : NatV w v N) (hu : NatV w u M) (hM : M ≠ 0) (sN : sz N ≤ 1099511627776) (sM : sz M ≤ 1099511627776) :
    Calls Tryz.prog 135 #[v, u] w (Gives w fun e w' => ∃ q r, e = .tuple #[q, r] ∧ NumV w' q (N / M) (sz N + 1) ∧ NatV w' r (N % M)) := by
  have HV := Lib.hid hv; have HU := Lib.hid hu
  obtain ⟨ds, hd, hN, ht, hl⟩ := hv.len
  obtain ⟨es, he, hM', ht', hl'⟩ := hu.len
  have hd' := hd
  obtain ⟨A, p1, rfl, hl1, hc1, hA⟩ := hd
  obtain ⟨E, p2, rfl, hl2, hc2, hE⟩ := he
  have HT := Lib.hid (And.intro hd' (And.intro hN ht))
  rw [← hl] at sN; rw [← hl'] at sM
  have HL := Lib.hid (And.intro hl hl')
  clear hv hu hA hE ht ht' hl hl' hN hM' hd'
  have hM0 : (M : Int) ≠ 0 := by omega
  have hM1 : 0 < M := by omega
  by_cases hsm : ds.length ≤ 2 ∧ es.length ≤ 2
  · obtain ⟨s1, s2⟩ := hsm
    have b1 : N < 18446744073709551616 := by
      have h1 := lt_bp_sz N
      have h2 : bp (sz N) ≤ bp 2 := bp_le (by rw [← HL.out.1]; exact s1)
      rw [bp_two] at h2
      omega
    have b3 : N / M < 18446744073709551616 := Nat.lt_of_le_of_lt (Nat.div_le_self _ _) b1
    have b4 : N % M < 18446744073709551616 := Nat.lt_of_le_of_lt (Nat.mod_le _ _) b1
    go_enter Tryz.func135, Tryz.ntmps135
    go_wp2_with fail
    refine Calls.mono (word_rn _ N _ HV.out (by rw [← HL.out.1]; exact s1)) ?_
    rintro e w1 ⟨r, rfl, rfl, hx1⟩
    go_wp2_with fail
    refine Calls.mono (word_rn _ M _ (HU.out.ext hx1) (by rw [← HL.out.2]; exact s2)) ?_
    rintro e w2 ⟨r, rfl, rfl, hx2⟩
    replace hx1 := hx1.trans hx2; clear hx2
    go_wp2_with fail
    refine Calls.mono (split_rz _ (N / M) _ (by rw [show (N : Int) / M = ((N / M : Nat) : Int) by simp]; generalize N / M = Z at *; rw [IntKind.wrap_u64]; omega) b3) ?_
    rintro e w3 ⟨r, rfl, hq, hx2⟩
    replace hx1 := hx1.trans hx2; clear hx2
    go_wp2_with fail
    refine Calls.mono (word_rn _ N _ (HV.out.ext hx1) (by rw [← HL.out.1]; exact s1)) ?_
    rintro e w4 ⟨r, rfl, rfl, hx2⟩
    replace hq := hq.ext hx2
    replace hx1 := hx1.trans hx2; clear hx2
    go_wp2_with fail
    refine Calls.mono (word_rn _ M _ (HU.out.ext hx1) (by rw [← HL.out.2]; exact s2)) ?_
    rintro e w5 ⟨r, rfl, rfl, hx2⟩
    replace hq := hq.ext hx2
    replace hx1 := hx1.trans hx2; clear hx2
    go_wp2_with fail
    refine Calls.mono (split_rz _ (N % M) _ (by simp) b4) ?_
    rintro e w6 ⟨r, rfl, hr, hx2⟩
    replace hq := hq.ext hx2
    replace hx1 := hx1.trans hx2; clear hx2
    go_wp2
    go_ret2
    exact Gives.mk ⟨_, _, rfl, hq.num (Nat.le_trans (sz_mono (Nat.div_le_self N M)) (Nat.le_succ _)), hr⟩ hx1
  · have hcase : 2 < ds.length ∨ (ds.length ≤ 2 ∧ 2 < es.length) := by omega
    clear hsm
    rcases hcase with hcase | ⟨hcase, hcase2⟩
    all_goals
      go_enter Tryz.func135, Tryz.ntmps135
      go_wp2_with fail
      refine Calls.mono (bits_rd _ _ _ _ N _ rfl HV.out (by rw [← HL.out.1]; exact sN)) ?_
      rintro e w1 ⟨r, rfl, ⟨ba, rfl, hba⟩, hx1⟩
      have a1 : ba ≤ 32 * ds.length := by
        have h1 := lt_bp_sz N
        rw [bp_two_pow] at h1
        have := hba.le h1
        rw [← HL.out.1] at this
        omega
      go_wp2_with fail
      refine Calls.mono (bits_rd _ _ _ _ M _ rfl (HU.out.ext hx1) (by rw [← HL.out.2]; exact sM)) ?_
      rintro e w2 ⟨r, rfl, ⟨bb, rfl, hbb⟩, hx2⟩
      have a2 : bb ≤ 35184372088832 := by
        have h1 := lt_bp_sz M
        rw [bp_two_pow] at h1
        have := hbb.le h1
        rw [← HL.out.2] at this
        omega
      replace hx1 := hx1.trans hx2; clear hx2
      have HB := Lib.hid (And.intro hba hbb); clear hba hbb
      by_cases hlt : ba < bb
      · have hNM : N < M := by
          have h1 := HB.out.1.1
          have h2 := HB.out.2.2 (by omega)
          have h3 : 2 ^ ba ≤ 2 ^ (bb - 1) := Nat.pow_le_pow_right (by decide) (by omega)
          omega
        have H1 := Lib.hid (And.intro (Nat.div_eq_of_lt hNM) (Nat.mod_eq_of_lt hNM)); clear hNM
        go_wp2
        go_ret2
        refine Gives.mk ⟨_, _, rfl, ?_, ?_⟩ hx1
        · rw [H1.out.1]; exact ⟨[], ⟨none, 0, rfl, Nat.le_refl _, by omega, Digs.nil, fun h => absurd h (by simp)⟩, rfl, by simp⟩
        · rw [H1.out.2]; exact HV.out.ext hx1
      · obtain ⟨n, hn⟩ : ∃ n, ba = bb + n := ⟨ba - bb, by omega⟩
        have hn1 : (ba : Int) - bb = n := by omega
        have hn2 : n ≤ 32 * ds.length := by omega
        have hmk := fun W => make_u32 (n / 32 + 1) ((n : Int) / 32 + 1) (by omega) (by omega) W
        have Hn := Lib.hid hn; clear hn hlt a1 a2
        go_wp2
        go_loopw [6, 9] (fun rv iv wr => ∃ (k R : Nat) (rs l : List Nat), k ≤ n + 1 ∧ (∃ q : Int, q + 1 = k ∧ iv = .int .i64 q) ∧ DigF w2.heap.size wr rv rs ∧ nv rs = R ∧ Top rs ∧ DBlk wr w2.heap.size 112 l ∧ Digs l ∧ l.length = n / 32 + 1 ∧ nv l * M + R = N ∧ R < M * 2 ^ k ∧ (∃ t, nv l = 2 ^ k * t) ∧ Ext w2 wr) (fun _ iv _ => (intOf iv + 1).toNat)
        case atStart =>
          refine ⟨n + 1, N, ds, _, Nat.le_refl _, ⟨_, by omega, rfl⟩, (DigF.of_old (HT.out.1.ext hx1) (Nat.le_refl _)).ext ((Ext.refl w2).alloc _), HT.out.2.1, HT.out.2.2, DBlk.new _ _ _, Digs.zeros _, List.length_replicate, by rw [nv_zeros]; omega, ?_, ⟨0, by rw [nv_zeros]; rfl⟩, (Ext.refl w2).alloc _⟩
          · have h1 := HB.out.1.1
            have h2 : bb = 0 ∨ 2 ^ (bb - 1) ≤ M := by
              rcases Nat.eq_zero_or_pos bb with h | h
              · exact .inl h
              · exact .inr (HB.out.2.2 h)
            rcases h2 with h2 | h2
            · have := HB.out.2.1; rw [h2] at this; omega
            · have hb0 : bb ≠ 0 := by rintro rfl; have := HB.out.2.1; omega
              have h3 : 2 ^ (bb - 1) * 2 ^ (n + 1) ≤ M * 2 ^ (n + 1) := Nat.mul_le_mul_right _ h2
              rw [← Nat.pow_add, show bb - 1 + (n + 1) = ba by have := Hn.out; omega] at h3
              omega
        case round =>
          obtain ⟨k, R, rs, l, hk, ⟨q, hq, rfl⟩, hrf, hrv, hrt, hblk, hdl, hll, hval, hlt, ht, hx⟩ := hrel
          obtain ⟨A1, c1, rfl, r1, r2, -⟩ := hrf.1
          have Hr := Lib.hid (And.intro hrf (And.intro hrv hrt)); clear hrf hrv hrt
          have Hv := Lib.hid (And.intro hval (And.intro hlt ht)); clear hval hlt ht
          have hRN : R ≤ N := by have := Hv.out.1; omega
          by_cases hk0 : 0 < k
          · obtain ⟨i, rfl⟩ : ∃ j, k = j + 1 := ⟨k - 1, by omega⟩
            obtain rfl : q = (i : Int) := by omega
            clear hq
            go_wp2_with fail
            refine Calls.mono (shifted_rn _ M i _ (HU.out.ext (hx1.trans hx)) (by omega) (by rw [← HL.out.2]; omega)) ?_
            rintro e w3 ⟨r, rfl, hs, hx3⟩
            have hrn : NatV w3 (.slice A1 rs.length c1) R := ⟨rs, Hr.out.1.1.ext hx3, Hr.out.2.1, Hr.out.2.2⟩
            go_wp2_with fail
            refine Calls.mono (below_num _ _ R (M * 2 ^ i) _ hrn hs) ?_
            rintro e w4 ⟨r, rfl, rfl, hx4⟩
            by_cases hcmp : R < M * 2 ^ i
            · have hb : decide (R < M * 2 ^ i) = true := by simpa using hcmp
              have Hc := Lib.hid hcmp; clear hcmp
              go_wp2
              go_roundw
              case rel => exact ⟨i, R, rs, l, by omega, ⟨_, by omega, rfl⟩, (Hr.out.1.ext hx3).ext hx4, Hr.out.2.1, Hr.out.2.2, (hblk.ext hx3).ext hx4, hdl, hll, Hv.out.1, Hc.out, by
                obtain ⟨t, ht⟩ := Hv.out.2.2
                exact ⟨2 * t, by rw [ht, Nat.pow_succ, Nat.mul_assoc]⟩, (hx.trans hx3).trans hx4⟩
              case measure => simp [intOf] <;> omega
            · have hb : decide (R < M * 2 ^ i) = false := by simpa using hcmp
              have Hc := Lib.hid hcmp; clear hcmp
              go_wp2_with fail
              refine Calls.mono (minus_rn _ _ R (M * 2 ^ i) _ (hrn.ext hx4) (hs.ext hx4) (by have := Hc.out; omega) (Nat.le_trans (sz_mono hRN) (by rw [← HL.out.1]; exact sN))) ?_
              rintro e w5 ⟨r5, rfl, hd5, hx5⟩
              go_wp2_with fail
              refine Calls.mono (trim_off _ _ _ _ hd5 (Nat.le_trans (sz_mono hRN) (by rw [← HL.out.1]; omega))) ?_
              rintro e w6 ⟨r6, rfl, ⟨rs', ho6, hv6, ht6⟩, hx6⟩
              have hf6 : DigF w2.heap.size w6 r6 rs' := DigF.of_own ho6 (by have := ((hx.trans hx3).trans (hx4.trans hx5)).size; have := hblk.lt; have := ((hx3.trans hx4).trans hx5).size; omega)
              have hx7 : Ext wr w6 := (((hx3.trans hx4).trans hx5).trans hx6)
              replace hblk := hblk.ext hx7
              replace hx := hx.trans hx7
              have H6 := Lib.hid (And.intro hf6 (And.intro hv6 ht6)); clear hf6 hv6 ht6 ho6 hd5 hs hrn hx3 hx4 hx5 hx6 hx7
              obtain ⟨z, hz⟩ : ∃ z, z = i / 32 := ⟨_, rfl⟩
              obtain ⟨p, hp⟩ : ∃ p, p = i % 32 := ⟨_, rfl⟩
              have hp32 : p < 32 := by omega
              have hzl : z < l.length := by omega
              have e1 : (i : Int) / 32 = z := by omega
              have e2 : (i : Int) % 32 = p := by omega
              have ei : i = 32 * z + p := by omega
              obtain ⟨S, hS⟩ : ∃ S, 2 ^ p = S := ⟨_, rfl⟩
              have hSi : (2 : Int) ^ p = (S : Nat) := by rw [← hS]; simp
              have hS1 : S ≤ 2147483648 := by rw [← hS]; exact Nat.pow_le_pow_right (by decide) (show p ≤ 31 by omega)
              have hlow : dg l z + S < 4294967296 ∧ nv (l.set z (dg l z + S)) = nv l + 2 ^ i := by
                obtain ⟨t, ht⟩ := Hv.out.2.2
                have := low_digit hdl hzl hp32 (t := t) (by rw [ht, ei])
                rw [ei]
                rw [hS] at this
                exact this
              have hmc := hblk.celld (i := z) hzl
              have hfz := hblk.frozen z
              generalize hdd : dg l z = d at *
              have hd1 := hlow.1
              have Hlow := Lib.hid hlow; clear hlow hdd
              have Hi := Lib.hid (And.intro hz (And.intro hp (And.intro ei hS))); clear hz hp ei hS
              go_wp2
              go_roundw
              case rel =>
                refine ⟨i, R - M * 2 ^ i, rs', l.set z (d + S), by omega, ⟨_, by omega, rfl⟩, H6.out.1.set_ _ _, H6.out.2.1, H6.out.2.2, hblk.setI _ _ (by omega), hdl.set (by omega) _, by simpa using hll, ?_, ?_, ?_, hx.setCell _ _ (Nat.le_refl _)⟩
                · rw [Hlow.out.2, Nat.add_mul, Nat.mul_comm (2 ^ i) M]
                  have := Hv.out.1; have := Hc.out; omega
                · have h1 := Hv.out.2.1
                  rw [Nat.pow_succ, ← Nat.mul_assoc] at h1
                  have := Hc.out; omega
                · obtain ⟨t, ht⟩ := Hv.out.2.2
                  exact ⟨2 * t + 1, by rw [Hlow.out.2, ht, Nat.pow_succ, Nat.mul_add, Nat.mul_one, Nat.mul_assoc]⟩
              case measure => simp [intOf] <;> omega
          · obtain rfl : k = 0 := by omega
            have q1 : q < 0 := by omega
            have hlt := Hv.out.2.1
            rw [Nat.pow_zero, Nat.mul_one] at hlt
            have hdv : N / M = nv l ∧ N % M = R := by
              have h1 := Hv.out.1
              rw [← h1, Nat.add_comm, Nat.mul_comm]
              exact ⟨by rw [Nat.add_mul_div_left _ _ hM1, Nat.div_eq_of_lt hlt, Nat.zero_add], by rw [Nat.add_mul_mod_self_left, Nat.mod_eq_of_lt hlt]⟩
            have Hd := Lib.hid hdv; clear hdv hlt
            go_wp2
            go_ret2
            have hq := hblk.digv hdl (c := n / 32 + 1) (by omega) (by omega)
            rw [hll] at hq
            exact Gives.mk ⟨_, _, rfl, ⟨l, hq, Hd.out.1.symm, by rw [← HL.out.1]; omega⟩, ⟨rs, Hr.out.1.1, by rw [Hd.out.2]; exact Hr.out.2.1, Hr.out.2.2⟩⟩ (hx1.trans hx)
end Go.Proofs.YtedoifjbgokmcaaGreat
namespace Go.Proofs.YtedoifjbgokmcaaGreat
open Go.RowKit Go.Hp
theorem one_z (v : Value) (x : Int) (w : World) (hv : HasZ w v x) : Calls Tryz.prog 99 #[v] w (Gives w fun r _ => ∃ b : Bool, r = .bool b ∧ (b = true → x = 1)) := by
  obtain ⟨neg, A, n, c, N, rfl, h1, h2, h3, hN, hx⟩ := hv.form
  clear hv
  by_cases hn : n = 1
  · subst hn
    obtain ⟨ds, hd, rfl, hl⟩ := hN
    obtain ⟨A', c', he, hl', _, hA⟩ := hd
    have hlen : ds.length = 1 := by have := congrArg (fun v => match v with | Value.slice _ n _ => n | _ => 0) he; simpa using this.symm
    rw [hlen] at he
    cases he
    match ds, hlen, hA, hx with
    | [d], _, hA, hx =>
      obtain ⟨a, rfl, hcb⟩ := dig_at hA (k := 0) (by simp)
      replace hcb := fun o => ((Ext.refl w).alloc o).cell (show w.cell? a = some (.int .u32 (d : Nat)) from hcb)
      have hd1 : d < 4294967296 := hA.1 d (by simp)
      have Hx := Lib.hid (show d = 1 → neg = false → x = 1 by rintro rfl rfl; rw [hx]; simp [nv_cons, nv_nil])
      clear hx hA hl hl'
      go_enter Tryz.func99, Tryz.ntmps99
      by_cases hd : d = 1
      · have hb : (((d : Nat) : Int) == 1) = true := by subst hd; rfl
        have H := Lib.hid (show neg = false → x = 1 from Hx.out hd); clear Hx hd
        go_wp2
        go_ret
        exact Gives.mk ⟨!neg, rfl, fun h => H.out (by simpa using h)⟩ ((Ext.refl w).alloc _)
      · have hb : (((d : Nat) : Int) == 1) = false := by simp; omega
        clear Hx hd
        go_wp2
        go_ret
        exact Gives.mk ⟨false, rfl, fun h => by cases h⟩ ((Ext.refl w).alloc _)
  · have hb : (((n : Nat) : Int) == 1) = false := by simp; omega
    clear hx hN hn
    go_enter Tryz.func99, Tryz.ntmps99
    go_wp2
    go_ret
    exact Gives.mk ⟨false, rfl, fun h => by cases h⟩ ((Ext.refl w).alloc _)
set_option maxHeartbeats 1000000 in
theorem add_in (v u : Value) (neg' : Bool) (x : Int) (M : Nat) (w : World) (hv : HasZ w v x) (hu : NatV w u M) (hM : sz M ≤ 1099511627776) :
    Calls Tryz.prog 125 #[v, .bool neg', u] w (Gives w fun r w' => IsZ w' r (x + if neg' then -(M : Int) else M)) := by
  obtain ⟨neg, A, n, c, N, rfl, h1, h2, h3, hN, hx⟩ := hv.form
  have HN := Lib.hid hN; have HU := Lib.hid hu
  clear hN hv hu
  have hs : sz N ≤ n := HN.out.sz
  obtain ⟨z, hz⟩ : ∃ z, z = x + if neg' then -(M : Int) else M := ⟨_, rfl⟩
  rw [← hz]
  have Hz := Lib.hid (And.intro hx hz); clear hx hz
  go_enter Tryz.func125, Tryz.ntmps125
  go_wp2_with fail
  refine Calls.mono (trimmed_num _ N n _ (HN.out.ext (((Ext.refl w).alloc _).alloc _))) ?_
  rintro e w1 ⟨r, rfl, hr, hx1⟩
  have hu1 : NatV w1 u M := HU.out.ext hx1.a2
  clear HU
  have Hr := Lib.hid (And.intro hr hu1); clear hr hu1
  by_cases hsg : neg = neg'
  · subst hsg
    have hb : (neg == neg) = true := by simp
    have hc1 := hx1.cells
    have hf1 := hx1.frozens
    go_wp2_with fail
    refine Calls.mono (plus_num _ _ N M (sz N) (sz M) w1 (Hr.out.1.num (Nat.le_refl _)) (Hr.out.2.num (Nat.le_refl _)) (by omega) (by omega)) ?_
    rintro e w2 ⟨r2, rfl, hr2, hx2⟩
    clear hc1 hf1
    go_wp2_with fail
    refine Calls.mono (signed_z z neg _ (N + M) _ w2 (by rw [Hz.out.2, Hz.out.1]; cases neg <;> simp <;> omega) hr2) ?_
    rintro e w3 ⟨r3, rfl, hr3, hx3⟩
    obtain ⟨b, A2, n2, c2, rfl⟩ := hr3.cells
    replace hx1 := (hx1.trans hx2).trans hx3
    have hc1 := hx1.cells
    have hf1 := hx1.frozens
    have Hfin := Lib.hid (fin_z hr3 hx1.a2 (NoDig.at_ hx1 (g := w.heap.size + 1) (by simp) (by simp [isDig])) (by omega))
    clear hr3 hr2
    go_wp2
    refine bodyPost_ret (v := .agg #[.bool b, .slice A2 n2 c2]) (by simp [results, Tryz.results125, go_sem, hc1]) rfl ?_
    exact Hfin.out
  · have hb : (neg == neg') = false := by simpa using hsg
    have hneg : neg' = !neg := by cases neg <;> cases neg' <;> simp_all
    subst hneg
    have hc1 := hx1.cells
    have hf1 := hx1.frozens
    clear hsg
    go_wp2_with fail
    refine Calls.mono (compare_nat _ _ N M w1 Hr.out.1 Hr.out.2 (by omega) (by omega)) ?_
    rintro e w2 ⟨r2, rfl, rfl, hx2⟩
    replace Hr := Lib.hid (And.intro (Hr.out.1.ext hx2) (Hr.out.2.ext hx2))
    replace hx1 := hx1.trans hx2
    clear hc1 hf1 hx2
    have hc1 := hx1.cells
    have hf1 := hx1.frozens
    by_cases hle : M ≤ N
    · have hb2 : decide (cmp N M ≥ 0) = true := by
        rcases Nat.lt_or_eq_of_le hle with e | e
        · rw [cmp_gt e]; rfl
        · rw [cmp_eq e.symm]; rfl
      have hb3 : decide (0 ≤ cmp N M) = true := hb2
      have Hle := Lib.hid hle; clear hle
      go_wp2_with fail
      have hb0 := hx1.a1.box (i := 0) rfl rfl
      refine wp_region_par (k := 5) (D := [24, 25, 26, 27, 28]) (T := [[], [0], [], [], [2, 3], [0, 1, 2, 3, 4], [0, 1, 2, 3, 4, 5]]) (EK := [3, 7, 2]) (EV := [?e1x0, ?e1x1, ?e1x2]) (VL := [(kv ?v1x0), (kv ?v1x1), (kv ?v1x2), (kv ?v1x3), (fun γ => γ 4)]) (FL := fun γ w' => [True, True, True, True, NumV w' (γ 4) (N - M) (sz N)]) ?hE1 (by kernel_rfl) (by kernel_rfl) (by rfl) (by kernel_rfl) ?hloc1 ?hmono1 ?hstep1 ?htail1
      case hE1 => refine ⟨?_, ?_, ?_, trivial⟩ <;> (simp only [List.getElem?_toArray, List.getElem?_cons_succ, List.getElem?_cons_zero]; rfl)
      case hstep1 =>
        refine ⟨⟨⟨⟨⟨trivial, ?_⟩, ?_⟩, ?_⟩, ?_⟩, ?_⟩
        · intro γ w' he hf; clear hf; refine ⟨trivial, ?_⟩; intro R hR
          have hc := he.cells
          go_simp
          (try go_ints); (try (rw [if_neg (by omega)])); (try (rw [if_pos (by omega)])); (try go_simp); (try go_ints)
          refine hR _ _ (Ext.refl _) ?_ trivial
          rfl
        · intro γ w' he hf; clear hf; refine ⟨trivial, ?_⟩; intro R hR
          have hc := he.cells
          have cq0 := he.cell hb0
          go_simp
          (try go_ints); (try (rw [if_neg (by omega)])); (try (rw [if_pos (by omega)])); (try go_simp); (try go_ints)
          refine hR _ _ (Ext.refl _) ?_ trivial
          rfl
        · intro γ w' he hf; clear hf; refine ⟨trivial, ?_⟩; intro R hR
          have hc := he.cells
          go_simp
          (try go_ints); (try (rw [if_neg (by omega)])); (try (rw [if_pos (by omega)])); (try go_simp); (try go_ints)
          refine hR _ _ (Ext.refl _) ?_ trivial
          rfl
        · intro γ w' he hf; clear hf; refine ⟨trivial, ?_⟩; intro R hR
          have hc := he.cells
          go_simp
          (try go_ints); (try (rw [if_neg (by omega)])); (try (rw [if_pos (by omega)])); (try go_simp); (try go_ints)
          refine hR _ _ (Ext.refl _) ?_ trivial
          rfl
        · intro γ w' he hf; clear hf; refine ⟨trivial, ?_⟩; intro R hR
          go_simp
          refine Calls.mono (show Calls _ _ _ w' (Gives w' fun r w'' => NumV w'' (r) (N - M) (sz N)) from less_nat _ _ N M w' (Hr.out.1.ext he) (Hr.out.2.ext he) Hle.out (by omega)) ?_
          rintro e w2 ⟨v, rfl, hv, hx⟩
          exact ⟨v, rfl, hR v w2 hx rfl hv⟩
      case hloc1 =>
        exact ⟨⟨⟨⟨⟨trivial, (fun γ γ' h => ⟨rfl, fun _ => rfl⟩)⟩, (fun γ γ' h => ⟨rfl, fun _ => rfl⟩)⟩, (fun γ γ' h => ⟨rfl, fun _ => rfl⟩)⟩, (fun γ γ' h => ⟨rfl, fun _ => rfl⟩)⟩, (fun γ γ' h => ⟨h 4 rfl, fun w' => (congrArg (fun a => NumV w' (a) (N - M) (sz N)) (h 4 rfl))⟩)⟩
      case hmono1 =>
        exact ⟨⟨⟨⟨⟨trivial, (fun γ wA w' e h => h)⟩, (fun γ wA w' e h => h)⟩, (fun γ wA w' e h => h)⟩, (fun γ wA w' e h => h)⟩, (fun γ wA w' e h => (show NumV wA (γ 4) (N - M) (sz N) from h).ext e)⟩
      intro γ w3 hx3 hF
      have p4 : NumV w3 (γ 4) (N - M) (sz N) := Each.get hF 4 (by decide)
      clear hF
      simp only [fillAll, gV, kv, List.getD_cons_zero, List.getD_cons_succ, Act.put, List.setIfInBounds_toArray, List.set_cons_zero, List.set_cons_succ, List.toList_toArray, List.drop_succ_cons, List.drop_zero, List.drop_nil, Nat.zero_add, Nat.reduceAdd]
      generalize γ 4 = g4 at *
      clear γ
      go_wp2_with fail
      refine Calls.mono (signed_z z neg _ (N - M) _ w3 (by have := Hle.out; rw [Hz.out.2, Hz.out.1]; cases neg <;> simp <;> omega) p4) ?_
      rintro e w4 ⟨r3, rfl, hr3, hx4⟩
      obtain ⟨b, A2, n2, c2, rfl⟩ := hr3.cells
      replace hx1 := (hx1.trans hx3).trans hx4
      clear hc1 hf1
      have hc1 := hx1.cells
      have hf1 := hx1.frozens
      have Hfin := Lib.hid (fin_z hr3 hx1.a2 (NoDig.at_ hx1 (g := w.heap.size + 1) (by simp) (by simp [isDig])) (by omega))
      clear hr3 p4
      go_wp2
      refine bodyPost_ret (v := .agg #[.bool b, .slice A2 n2 c2]) (by simp [results, Tryz.results125, go_sem, hc1]) rfl ?_
      exact Hfin.out
    · have hb2 : decide (0 ≤ cmp N M) = false := by rw [cmp_lt (by omega)]; rfl
      have Hle := Lib.hid hle; clear hle
      go_wp2_with fail
      refine Calls.mono (less_nat _ _ M N w2 Hr.out.2 Hr.out.1 (by have := Hle.out; omega) (by omega)) ?_
      rintro e w3 ⟨r2, rfl, hr2, hx3⟩
      clear hc1 hf1
      go_wp2_with fail
      refine Calls.mono (signed_z z (!neg) _ (M - N) _ w3 (by have := Hle.out; rw [Hz.out.2, Hz.out.1]; cases neg <;> simp <;> omega) hr2) ?_
      rintro e w4 ⟨r3, rfl, hr3, hx4⟩
      obtain ⟨b, A2, n2, c2, rfl⟩ := hr3.cells
      replace hx1 := (hx1.trans hx3).trans hx4
      have hc1 := hx1.cells
      have hf1 := hx1.frozens
      have Hfin := Lib.hid (fin_z hr3 hx1.a2 (NoDig.at_ hx1 (g := w.heap.size + 1) (by simp) (by simp [isDig])) (by omega))
      clear hr3 hr2
      go_wp2
      refine bodyPost_ret (v := .agg #[.bool b, .slice A2 n2 c2]) (by simp [results, Tryz.results125, go_sem, hc1]) rfl ?_
      exact Hfin.out
theorem add_z (v u : Value) (x y : Int) (w : World) (hv : HasZ w v x) (hu : HasZ w u y) : Calls Tryz.prog 100 #[v, u] w (Gives w fun r w' => IsZ w' r (x + y)) := by
  have Hv := Lib.hid hv
  obtain ⟨neg, A, n, c, N, rfl, h1, h2, h3, hN, hx⟩ := hv.form
  obtain ⟨neg', A', n', c', M, rfl, k1, k2, k3, kN, hy⟩ := hu.form
  have HN := Lib.hid kN; clear hN hv hu kN hx
  have hs : sz M ≤ n' := HN.out.sz
  have Hy := Lib.hid hy; clear hy
  go_enter Tryz.func100, Tryz.ntmps100
  go_wp2_with fail
  refine wp_region_par (k := 6) (D := [5, 6, 7, 8, 9, 10]) (T := [[], [], [1], [], [3], [3, 4], [0, 1, 2, 3, 4, 5], [0, 1, 2, 3, 4, 5, 6]]) (EK := [2, 3]) (EV := [?e2x0, ?e2x1]) (VL := [(kv ?v2x0), (kv ?v2x1), (kv ?v2x2), (kv ?v2x3), (kv ?v2x4), (fun γ => γ 5)]) (FL := fun γ w' => [True, True, True, True, True, NatV w' (γ 5) M]) ?hE2 (by kernel_rfl) (by kernel_rfl) (by rfl) (by kernel_rfl) ?hloc2 ?hmono2 ?hstep2 ?htail2
  case hE2 => refine ⟨?_, ?_, trivial⟩ <;> (simp only [List.getElem?_toArray, List.getElem?_cons_succ, List.getElem?_cons_zero]; rfl)
  case hstep2 =>
    refine ⟨⟨⟨⟨⟨⟨trivial, ?_⟩, ?_⟩, ?_⟩, ?_⟩, ?_⟩, ?_⟩
    · intro γ w' he hf; clear hf; refine ⟨trivial, ?_⟩; intro R hR
      have hc := he.cells
      go_simp
      (try go_ints); (try (rw [if_neg (by omega)])); (try (rw [if_pos (by omega)])); (try go_simp); (try go_ints)
      refine hR _ _ (Ext.refl _) ?_ trivial
      rfl
    · intro γ w' he hf; clear hf; refine ⟨trivial, ?_⟩; intro R hR
      have hc := he.cells
      go_simp
      (try go_ints); (try (rw [if_neg (by omega)])); (try (rw [if_pos (by omega)])); (try go_simp); (try go_ints)
      refine hR _ _ (Ext.refl _) ?_ trivial
      rfl
    · intro γ w' he hf; clear hf; refine ⟨trivial, ?_⟩; intro R hR
      have hc := he.cells
      go_simp
      (try go_ints); (try (rw [if_neg (by omega)])); (try (rw [if_pos (by omega)])); (try go_simp); (try go_ints)
      refine hR _ _ (Ext.refl _) ?_ trivial
      rfl
    · intro γ w' he hf; clear hf; refine ⟨trivial, ?_⟩; intro R hR
      have hc := he.cells
      go_simp
      (try go_ints); (try (rw [if_neg (by omega)])); (try (rw [if_pos (by omega)])); (try go_simp); (try go_ints)
      refine hR _ _ (Ext.refl _) ?_ trivial
      rfl
    · intro γ w' he hf; clear hf; refine ⟨trivial, ?_⟩; intro R hR
      have hc := he.cells
      go_simp
      (try go_ints); (try (rw [if_neg (by omega)])); (try (rw [if_pos (by omega)])); (try go_simp); (try go_ints)
      refine hR _ _ (Ext.refl _) ?_ trivial
      rfl
    · intro γ w' he hf; clear hf; refine ⟨trivial, ?_⟩; intro R hR
      go_simp
      refine Calls.mono (show Calls _ _ _ w' (Gives w' fun r w'' => NatV w'' (r) M) from trimmed_num _ M n' w' (HN.out.ext he.a3)) ?_
      rintro e w2 ⟨v, rfl, hv, hx⟩
      exact ⟨v, rfl, hR v w2 hx rfl hv⟩
  case hloc2 =>
    exact ⟨⟨⟨⟨⟨⟨trivial, (fun γ γ' h => ⟨rfl, fun _ => rfl⟩)⟩, (fun γ γ' h => ⟨rfl, fun _ => rfl⟩)⟩, (fun γ γ' h => ⟨rfl, fun _ => rfl⟩)⟩, (fun γ γ' h => ⟨rfl, fun _ => rfl⟩)⟩, (fun γ γ' h => ⟨rfl, fun _ => rfl⟩)⟩, (fun γ γ' h => ⟨h 5 rfl, fun w' => (congrArg (fun a => NatV w' (a) M) (h 5 rfl))⟩)⟩
  case hmono2 =>
    exact ⟨⟨⟨⟨⟨⟨trivial, (fun γ wA w' e h => h)⟩, (fun γ wA w' e h => h)⟩, (fun γ wA w' e h => h)⟩, (fun γ wA w' e h => h)⟩, (fun γ wA w' e h => h)⟩, (fun γ wA w' e h => (show NatV wA (γ 5) M from h).ext e)⟩
  intro γ w1 hx1 hF
  have p5 : NatV w1 (γ 5) M := Each.get hF 5 (by decide)
  clear hF
  simp only [fillAll, gV, kv, List.getD_cons_zero, List.getD_cons_succ, Act.put, List.setIfInBounds_toArray, List.set_cons_zero, List.set_cons_succ, List.toList_toArray, List.drop_succ_cons, List.drop_zero, List.drop_nil, Nat.zero_add, Nat.reduceAdd]
  generalize γ 5 = g5 at *
  clear γ
  go_wp2_with fail
  refine Calls.mono (add_in _ _ neg' x M w1 (Hv.out.ext hx1.a3) p5 (by omega)) ?_
  rintro e w2 ⟨r, rfl, hr, hx2⟩
  rw [← Hy.out] at hr
  obtain ⟨b, A2, n2, c2, rfl⟩ := hr.cells
  replace hx1 := hx1.trans hx2
  have hc1 := hx1.cells
  have hf1 := hx1.frozens
  have Hfin := Lib.hid (fin_z hr hx1.a3 (NoDig.at_ hx1 (g := w.heap.size + 2) (by simp) (by simp [isDig])) (by omega))
  clear hr p5
  go_wp2
  refine bodyPost_ret (v := .agg #[.bool b, .slice A2 n2 c2]) (by simp [results, Tryz.results100, go_sem, hc1]) rfl ?_
  exact Hfin.out
theorem mul_z (v u : Value) (x y : Int) (w : World) (hv : HasZ w v x) (hu : HasZ w u y) : Calls Tryz.prog 80 #[v, u] w (Gives w fun r w' => IsZ w' r (x * y)) := by
  obtain ⟨neg, A, n, c, N, rfl, h1, h2, h3, hN, hx⟩ := hv.form
  obtain ⟨neg', A', n', c', M, rfl, k1, k2, k3, kN, hy⟩ := hu.form
  have HN := Lib.hid hN; have HM := Lib.hid kN; clear hN hv hu kN
  have hs : sz N ≤ n := HN.out.sz
  have hs' : sz M ≤ n' := HM.out.sz
  have Hz := Lib.hid (show x * y = if (neg != neg') = true then -((N * M : Nat) : Int) else ((N * M : Nat) : Int) by rw [hx, hy]; cases neg <;> cases neg' <;> simp [Int.neg_mul, Int.mul_neg])
  clear hx hy
  go_enter Tryz.func80, Tryz.ntmps80
  go_wp2_with fail
  refine wp_region_par (k := 12) (D := [5, 6, 7, 8, 9, 10, 11, 12, 13, 14, 15, 16]) (T := [[], [0], [], [2], [0, 1, 2, 3], [], [5], [5, 6], [], [8], [5, 6, 7, 8, 9], [5, 6, 7, 8, 9, 10], [0, 1, 2, 3, 4, 5, 6, 7, 8, 9, 10, 11], [0, 1, 2, 3, 4, 5, 6, 7, 8, 9, 10, 11, 12]]) (EK := [2, 3]) (EV := [?e3x0, ?e3x1]) (VL := [(kv ?v3x0), (kv ?v3x1), (kv ?v3x2), (kv ?v3x3), (kv ?v3x4), (kv ?v3x5), (kv ?v3x6), (fun γ => γ 7), (kv ?v3x8), (kv ?v3x9), (fun γ => γ 10), (fun γ => γ 11)]) (FL := fun γ w' => [True, True, True, True, True, True, True, NatV w' (γ 7) N, True, True, NatV w' (γ 10) M, NumV w' (γ 11) (N * M) (sz N + sz M)]) ?hE3 (by kernel_rfl) (by kernel_rfl) (by rfl) (by kernel_rfl) ?hloc3 ?hmono3 ?hstep3 ?htail3
  case hE3 => refine ⟨?_, ?_, trivial⟩ <;> (simp only [List.getElem?_toArray, List.getElem?_cons_succ, List.getElem?_cons_zero]; rfl)
  case hstep3 =>
    refine ⟨⟨⟨⟨⟨⟨⟨⟨⟨⟨⟨⟨trivial, ?_⟩, ?_⟩, ?_⟩, ?_⟩, ?_⟩, ?_⟩, ?_⟩, ?_⟩, ?_⟩, ?_⟩, ?_⟩, ?_⟩
    · intro γ w' he hf; clear hf; refine ⟨trivial, ?_⟩; intro R hR
      have hc := he.cells
      go_simp
      (try go_ints); (try (rw [if_neg (by omega)])); (try (rw [if_pos (by omega)])); (try go_simp); (try go_ints)
      refine hR _ _ (Ext.refl _) ?_ trivial
      rfl
    · intro γ w' he hf; clear hf; refine ⟨trivial, ?_⟩; intro R hR
      have hc := he.cells
      go_simp
      (try go_ints); (try (rw [if_neg (by omega)])); (try (rw [if_pos (by omega)])); (try go_simp); (try go_ints)
      refine hR _ _ (Ext.refl _) ?_ trivial
      rfl
    · intro γ w' he hf; clear hf; refine ⟨trivial, ?_⟩; intro R hR
      have hc := he.cells
      go_simp
      (try go_ints); (try (rw [if_neg (by omega)])); (try (rw [if_pos (by omega)])); (try go_simp); (try go_ints)
      refine hR _ _ (Ext.refl _) ?_ trivial
      rfl
    · intro γ w' he hf; clear hf; refine ⟨trivial, ?_⟩; intro R hR
      have hc := he.cells
      go_simp
      (try go_ints); (try (rw [if_neg (by omega)])); (try (rw [if_pos (by omega)])); (try go_simp); (try go_ints)
      refine hR _ _ (Ext.refl _) ?_ trivial
      rfl
    · intro γ w' he hf; clear hf; refine ⟨trivial, ?_⟩; intro R hR
      have hc := he.cells
      go_simp
      (try go_ints); (try (rw [if_neg (by omega)])); (try (rw [if_pos (by omega)])); (try go_simp); (try go_ints)
      refine hR _ _ (Ext.refl _) ?_ trivial
      rfl
    · intro γ w' he hf; clear hf; refine ⟨trivial, ?_⟩; intro R hR
      have hc := he.cells
      go_simp
      (try go_ints); (try (rw [if_neg (by omega)])); (try (rw [if_pos (by omega)])); (try go_simp); (try go_ints)
      refine hR _ _ (Ext.refl _) ?_ trivial
      rfl
    · intro γ w' he hf; clear hf; refine ⟨trivial, ?_⟩; intro R hR
      have hc := he.cells
      go_simp
      (try go_ints); (try (rw [if_neg (by omega)])); (try (rw [if_pos (by omega)])); (try go_simp); (try go_ints)
      refine hR _ _ (Ext.refl _) ?_ trivial
      rfl
    · intro γ w' he hf; clear hf; refine ⟨trivial, ?_⟩; intro R hR
      go_simp
      refine Calls.mono (show Calls _ _ _ w' (Gives w' fun r w'' => NatV w'' (r) N) from trimmed_num _ N n w' (HN.out.ext he.a3)) ?_
      rintro e w2 ⟨v, rfl, hv, hx⟩
      exact ⟨v, rfl, hR v w2 hx rfl hv⟩
    · intro γ w' he hf; clear hf; refine ⟨trivial, ?_⟩; intro R hR
      have hc := he.cells
      go_simp
      (try go_ints); (try (rw [if_neg (by omega)])); (try (rw [if_pos (by omega)])); (try go_simp); (try go_ints)
      refine hR _ _ (Ext.refl _) ?_ trivial
      rfl
    · intro γ w' he hf; clear hf; refine ⟨trivial, ?_⟩; intro R hR
      have hc := he.cells
      go_simp
      (try go_ints); (try (rw [if_neg (by omega)])); (try (rw [if_pos (by omega)])); (try go_simp); (try go_ints)
      refine hR _ _ (Ext.refl _) ?_ trivial
      rfl
    · intro γ w' he hf; have f7 : NatV w' (γ 7) N := hf 7 (by decide); clear hf; refine ⟨trivial, ?_⟩; intro R hR
      go_simp
      refine Calls.mono (show Calls _ _ _ w' (Gives w' fun r w'' => NatV w'' (r) M) from trimmed_num _ M n' w' (HM.out.ext he.a3)) ?_
      rintro e w2 ⟨v, rfl, hv, hx⟩
      exact ⟨v, rfl, hR v w2 hx rfl hv⟩
    · intro γ w' he hf; have f7 : NatV w' (γ 7) N := hf 7 (by decide); have f10 : NatV w' (γ 10) M := hf 10 (by decide); clear hf; refine ⟨trivial, ?_⟩; intro R hR
      go_simp
      refine Calls.mono (show Calls _ _ _ w' (Gives w' fun r w'' => NumV w'' (r) (N * M) (sz N + sz M)) from times_num _ _ N M (sz N) (sz M) w' (f7.num (Nat.le_refl _)) (f10.num (Nat.le_refl _)) (by omega) (by omega)) ?_
      rintro e w2 ⟨v, rfl, hv, hx⟩
      exact ⟨v, rfl, hR v w2 hx rfl hv⟩
  case hloc3 =>
    exact ⟨⟨⟨⟨⟨⟨⟨⟨⟨⟨⟨⟨trivial, (fun γ γ' h => ⟨rfl, fun _ => rfl⟩)⟩, (fun γ γ' h => ⟨rfl, fun _ => rfl⟩)⟩, (fun γ γ' h => ⟨rfl, fun _ => rfl⟩)⟩, (fun γ γ' h => ⟨rfl, fun _ => rfl⟩)⟩, (fun γ γ' h => ⟨rfl, fun _ => rfl⟩)⟩, (fun γ γ' h => ⟨rfl, fun _ => rfl⟩)⟩, (fun γ γ' h => ⟨rfl, fun _ => rfl⟩)⟩, (fun γ γ' h => ⟨h 7 rfl, fun w' => (congrArg (fun a => NatV w' (a) N) (h 7 rfl))⟩)⟩, (fun γ γ' h => ⟨rfl, fun _ => rfl⟩)⟩, (fun γ γ' h => ⟨rfl, fun _ => rfl⟩)⟩, (fun γ γ' h => ⟨h 10 rfl, fun w' => (congrArg (fun a => NatV w' (a) M) (h 10 rfl))⟩)⟩, (fun γ γ' h => ⟨h 11 rfl, fun w' => (congrArg (fun a => NumV w' (a) (N * M) (sz N + sz M)) (h 11 rfl))⟩)⟩
  case hmono3 =>
    exact ⟨⟨⟨⟨⟨⟨⟨⟨⟨⟨⟨⟨trivial, (fun γ wA w' e h => h)⟩, (fun γ wA w' e h => h)⟩, (fun γ wA w' e h => h)⟩, (fun γ wA w' e h => h)⟩, (fun γ wA w' e h => h)⟩, (fun γ wA w' e h => h)⟩, (fun γ wA w' e h => h)⟩, (fun γ wA w' e h => (show NatV wA (γ 7) N from h).ext e)⟩, (fun γ wA w' e h => h)⟩, (fun γ wA w' e h => h)⟩, (fun γ wA w' e h => (show NatV wA (γ 10) M from h).ext e)⟩, (fun γ wA w' e h => (show NumV wA (γ 11) (N * M) (sz N + sz M) from h).ext e)⟩
  intro γ w1 hx1 hF
  have p7 : NatV w1 (γ 7) N := Each.get hF 7 (by decide)
  have p10 : NatV w1 (γ 10) M := Each.get hF 10 (by decide)
  have p11 : NumV w1 (γ 11) (N * M) (sz N + sz M) := Each.get hF 11 (by decide)
  clear hF
  simp only [fillAll, gV, kv, List.getD_cons_zero, List.getD_cons_succ, Act.put, List.setIfInBounds_toArray, List.set_cons_zero, List.set_cons_succ, List.toList_toArray, List.drop_succ_cons, List.drop_zero, List.drop_nil, Nat.zero_add, Nat.reduceAdd]
  generalize γ 7 = g7 at *
  generalize γ 10 = g10 at *
  generalize γ 11 = g11 at *
  clear γ
  go_wp2_with fail
  refine Calls.mono (signed_z (x * y) (neg != neg') _ (N * M) _ w1 Hz.out p11) ?_
  rintro e w2 ⟨r, rfl, hr, hx2⟩
  obtain ⟨b, A2, n2, c2, rfl⟩ := hr.cells
  replace hx1 := hx1.trans hx2
  have hc1 := hx1.cells
  have hf1 := hx1.frozens
  have Hfin := Lib.hid (fin_z hr hx1.a3 (NoDig.at_ hx1 (g := w.heap.size + 2) (by simp) (by simp [isDig])) (by omega))
  clear hr p7 p10 p11
  go_wp2
  refine bodyPost_ret (v := .agg #[.bool b, .slice A2 n2 c2]) (by simp [results, Tryz.results80, go_sem, hc1]) rfl ?_
  exact Hfin.out
end Go.Proofs.YtedoifjbgokmcaaGreat
namespace Go.Hp
open Go.RowKit
theorem Ext.a4 {w w' : World} {o p q r : Obj} (h : Ext ((((w.alloc o).alloc p).alloc q).alloc r) w') : Ext w w' := h.a1.a1.a1.a1
theorem fin_zz {w w1 : World} {g h n c n' c' : Nat} {A A' : Option Addr} {b b' : Bool} {x y : Int} (hx : IsZ w1 (.agg #[.bool b, .slice A n c]) x) (hy : IsZ w1 (.agg #[.bool b', .slice A' n' c']) y) (he : Ext w w1) (hn : NoDig w1 g) (hn' : NoDig w1 h) (hg : w.heap.size ≤ g) (hh : w.heap.size ≤ h) :
    IsZ ((((w1.setCell ⟨g, 0, none⟩ (.bool b)).setCell ⟨g, 1, none⟩ (.slice A n c)).setCell ⟨h, 0, none⟩ (.bool b')).setCell ⟨h, 1, none⟩ (.slice A' n' c')) (.agg #[.bool b, .slice A n c]) x ∧
    IsZ ((((w1.setCell ⟨g, 0, none⟩ (.bool b)).setCell ⟨g, 1, none⟩ (.slice A n c)).setCell ⟨h, 0, none⟩ (.bool b')).setCell ⟨h, 1, none⟩ (.slice A' n' c')) (.agg #[.bool b', .slice A' n' c']) y ∧
    Ext w ((((w1.setCell ⟨g, 0, none⟩ (.bool b)).setCell ⟨g, 1, none⟩ (.slice A n c)).setCell ⟨h, 0, none⟩ (.bool b')).setCell ⟨h, 1, none⟩ (.slice A' n' c')) := by
  have k := ((((KD.refl w1).set_ (i := 0) hn (.bool b)).set_ (i := 1) (hn.set_ rfl) (.slice A n c)).set_ (i := 0) ((hn'.set_ rfl).set_ rfl) (.bool b')).set_ (i := 1) (((hn'.set_ rfl).set_ rfl).set_ rfl) (.slice A' n' c')
  exact ⟨hx.kd k, hy.kd k, (((he.setCell _ _ hg).setCell _ _ hg).setCell _ _ hh).setCell _ _ hh⟩
theorem IsZ.zero (w : World) : IsZ w (.agg #[.bool false, .slice none 0 0]) 0 :=
  ⟨false, [], ⟨_, rfl, none, 0, rfl, by simp, by omega, Digs.nil, fun h => by simp at h⟩, rfl, fun h => absurd rfl h, fun h => by cases h⟩
theorem euclid {x q r : Int} {M : Nat} (s : Bool) (h0 : 0 ≤ r) (h1 : r < M) (h : x = M * q + r) :
    x / (if s then -(M : Int) else M) = (if s then -q else q) ∧ x % (if s then -(M : Int) else M) = r := by
  have hp : (0 : Int) < M := by omega
  have k := (Int.ediv_emod_unique hp (a := x) (r := r) (q := q)).2 ⟨by rw [h, Int.add_comm], h0, h1⟩
  cases s
  · exact k
  · simp only [if_true, Int.ediv_neg, Int.emod_neg]
    exact ⟨by rw [k.1], k.2⟩
theorem euclid_pos {N M : Nat} (s : Bool) (h : 0 < M) : (N : Int) / (if s then -(M : Int) else M) = (if s then -((N / M : Nat) : Int) else (N / M : Nat)) ∧ (N : Int) % (if s then -(M : Int) else M) = (N % M : Nat) :=
  euclid s (by omega) (by have := Nat.mod_lt N h; omega) (by have := Nat.div_add_mod N M; rw [← Int.natCast_mul]; omega)
theorem euclid_neg0 {N M : Nat} (s : Bool) (h : 0 < M) (h0 : N % M = 0) : (-(N : Int)) / (if s then -(M : Int) else M) = (if (!s) then -((N / M : Nat) : Int) else (N / M : Nat)) ∧ (-(N : Int)) % (if s then -(M : Int) else M) = (N % M : Nat) := by
  have := euclid (x := -(N : Int)) (q := -((N / M : Nat) : Int)) (r := (N % M : Nat)) (M := M) s (by omega) (by have := Nat.mod_lt N h; omega) (by have := Nat.div_add_mod N M; rw [Int.mul_neg, ← Int.natCast_mul]; omega)
  cases s <;> simpa using this
theorem euclid_neg {N M : Nat} (s : Bool) (h : 0 < M) (h0 : 0 < N % M) : (-(N : Int)) / (if s then -(M : Int) else M) = (if (!s) then -((N / M + 1 : Nat) : Int) else (N / M + 1 : Nat)) ∧ (-(N : Int)) % (if s then -(M : Int) else M) = (M - N % M : Nat) := by
  have hl := Nat.mod_lt N h
  have := euclid (x := -(N : Int)) (q := -((N / M + 1 : Nat) : Int)) (r := (M - N % M : Nat)) (M := M) s (by omega) (by omega) (by have := Nat.div_add_mod N M; rw [Int.mul_neg, ← Int.natCast_mul, Nat.mul_add]; omega)
  cases s <;> simpa using this
theorem NumV.unit (w : World) (t : TypeId) : NumV (w.alloc (.cells #[.int .u32 1] t)) (.slice (some ⟨w.heap.size, 0, none⟩) 1 1) 1 1 := by
  have h : DBlk (w.alloc (.cells #[.int .u32 1] t)) w.heap.size t [1] := heap_alloc_new w _
  exact ⟨[1], h.digv (by simp) (by simp) (by omega), by simp [nv_cons, nv_nil], by simp⟩
end Go.Hp
namespace Go.Proofs.YtedoifjbgokmcaaGreat
open Go.RowKit Go.Hp
def DivZ (x y : Int) (r : Value) (w : World) : Prop := ∃ a b, r = .tuple #[a, b, .int .i64 (if y = 0 then 5 else 0)] ∧ IsZ w a (x / y) ∧ IsZ w b (if y = 0 then 0 else x % y)
set_option maxHeartbeats 2000000 in
theorem divmod_z (v u : Value) (x y : Int) (w : World) (hv : HasZ w v x) (hu : HasZ w u y) : Calls Tryz.prog 109 #[v, u] w (Gives w (DivZ x y)) := by
  obtain ⟨neg, A, n, c, N, rfl, h1, h2, h3, hN, hx⟩ := hv.form
  obtain ⟨neg', A', n', c', M, rfl, k1, k2, k3, kN, hy⟩ := hu.form
  have HN := Lib.hid hN; have HM := Lib.hid kN; clear hN hv hu kN
  have hs : sz N ≤ n := HN.out.sz
  have hs' : sz M ≤ n' := HM.out.sz
  have Hxy := Lib.hid (And.intro hx hy); clear hx hy
  go_enter Tryz.func109, Tryz.ntmps109
  go_wp2_with fail
  refine Calls.mono (trimmed_num _ M n' _ (HM.out.ext (((((Ext.refl w).alloc _).alloc _).alloc _).alloc _))) ?_
  rintro e w1 ⟨r, rfl, hr, hx1⟩
  obtain ⟨A3, c3, rfl, q1, q2⟩ := hr.form
  by_cases hM0 : M = 0
  · have hb : (((sz M : Nat) : Int) == 0) = true := by subst hM0; rfl
    have Hy := Lib.hid (show y = 0 by rw [Hxy.out.2, hM0]; cases neg' <;> rfl); clear Hxy hM0
    have hc1 := hx1.cells
    have hf1 := hx1.frozens
    have Hfin := Lib.hid (fin_zz (IsZ.zero w1) (IsZ.zero w1) hx1.a4 (NoDig.at_ hx1.a1 (g := w.heap.size + 1 + 1) (by simp) (by simp [isDig])) (NoDig.at_ hx1 (g := w.heap.size + 1 + 1 + 1) (by simp) (by simp [isDig])) (by omega) (by omega))
    clear hr
    go_wp2
    refine bodyPost_ret (v := .tuple #[.agg #[.bool false, .slice none 0 0], .agg #[.bool false, .slice none 0 0], .int .i64 5]) (by simp [results, Tryz.results109, go_sem, hc1]) rfl ?_
    refine Gives.mk ⟨_, _, by rw [Hy.out]; rfl, ?_, ?_⟩ Hfin.out.2.2
    · rw [Hy.out, Int.ediv_zero]; exact Hfin.out.1
    · rw [Hy.out, if_pos rfl]; exact Hfin.out.2.1
  · have hMp := sz_pos hM0
    have hb : (((sz M : Nat) : Int) == 0) = false := by simp; omega
    have Hr := Lib.hid hr; clear hr
    have H0 := Lib.hid hM0; clear hM0
    have hc1 := hx1.cells
    have hf1 := hx1.frozens
    go_wp2_with fail
    refine Calls.mono (trimmed_num _ N n w1 (HN.out.ext hx1.a4)) ?_
    rintro e w2 ⟨r, rfl, hr, hx2⟩
    clear hc1 hf1
    replace Hr := Lib.hid (Hr.out.ext hx2)
    replace hx1 := hx1.trans hx2; clear hx2
    go_wp2_with fail
    refine Calls.mono (divide_nat _ _ N M w2 hr Hr.out (by have := H0.out; omega) (by omega) (by omega)) ?_
    rintro e w3 ⟨r2, rfl, ⟨a, b, rfl, ha, hb'⟩, hx2⟩
    obtain ⟨A4, c4, rfl, d1, d2⟩ := hb'.form
    replace Hr := Lib.hid (Hr.out.ext hx2)
    replace hx1 := hx1.trans hx2; clear hx2 hr
    have hc1 := hx1.cells
    have hf1 := hx1.frozens
    have Hq := Lib.hid ha; have Hm := Lib.hid hb'
    clear ha hb'
    have HY := Lib.hid (show y ≠ 0 by have := H0.out; rw [Hxy.out.2]; cases neg' <;> simp <;> omega)
    cases neg
    · have HE := Lib.hid (show x / y = (if neg' = true then -((N / M : Nat) : Int) else (N / M : Nat)) ∧ x % y = (if false = true then -((N % M : Nat) : Int) else (N % M : Nat)) by
        rw [Hxy.out.1, Hxy.out.2]; exact euclid_pos neg' (by have := H0.out; omega))
      go_wp2_with fail
      refine Calls.mono (signed_z (x / y) neg' _ (N / M) _ w3 HE.out.1 (Hq.out.num (Nat.le_refl _))) ?_
      rintro e w4 ⟨rq, rfl, hrq, hx3⟩
      obtain ⟨bq, Aq, nq, cq, rfl⟩ := hrq.cells
      go_wp2_with fail
      refine Calls.mono (signed_z (x % y) false _ (N % M) _ w4 HE.out.2 (NumV.ext (Hm.out.num (Nat.le_refl _)) hx3)) ?_
      rintro e w5 ⟨rr, rfl, hrr, hx4⟩
      obtain ⟨br, Ar, nr, cr, rfl⟩ := hrr.cells
      replace hrq := hrq.ext hx4
      replace hx1 := (hx1.trans hx3).trans hx4
      clear hc1 hf1 hx3 hx4
      have hc1 := hx1.cells
      have hf1 := hx1.frozens
      have Hfin := Lib.hid (fin_zz hrq hrr hx1.a4 (NoDig.at_ hx1.a1 (g := w.heap.size + 1 + 1) (by simp) (by simp [isDig])) (NoDig.at_ hx1 (g := w.heap.size + 1 + 1 + 1) (by simp) (by simp [isDig])) (by omega) (by omega))
      clear hrq hrr
      go_wp2
      refine bodyPost_ret (v := .tuple #[.agg #[.bool bq, .slice Aq nq cq], .agg #[.bool br, .slice Ar nr cr], .int .i64 0]) (by simp [results, Tryz.results109, go_sem, hc1]) rfl ?_
      exact Gives.mk ⟨_, _, by rw [if_neg HY.out], Hfin.out.1, by rw [if_neg HY.out]; exact Hfin.out.2.1⟩ Hfin.out.2.2
    · by_cases hr0 : N % M = 0
      · have HE := Lib.hid (show x / y = (if (!neg') = true then -((N / M : Nat) : Int) else (N / M : Nat)) ∧ x % y = (if false = true then -((N % M : Nat) : Int) else (N % M : Nat)) by
          rw [Hxy.out.1, Hxy.out.2]; exact euclid_neg0 neg' (by have := H0.out; omega) hr0)
        have hb2 : decide (0 < sz (N % M)) = false := by rw [hr0]; rfl
        clear hr0
        go_wp2_with fail
        refine Calls.mono (signed_z (x / y) (!neg') _ (N / M) _ w3 HE.out.1 (Hq.out.num (Nat.le_refl _))) ?_
        rintro e w4 ⟨rq, rfl, hrq, hx3⟩
        obtain ⟨bq, Aq, nq, cq, rfl⟩ := hrq.cells
        go_wp2_with fail
        refine Calls.mono (signed_z (x % y) false _ (N % M) _ w4 HE.out.2 (NumV.ext (Hm.out.num (Nat.le_refl _)) hx3)) ?_
        rintro e w5 ⟨rr, rfl, hrr, hx4⟩
        obtain ⟨br, Ar, nr, cr, rfl⟩ := hrr.cells
        replace hrq := hrq.ext hx4
        replace hx1 := (hx1.trans hx3).trans hx4
        clear hc1 hf1 hx3 hx4
        have hc1 := hx1.cells
        have hf1 := hx1.frozens
        have Hfin := Lib.hid (fin_zz hrq hrr hx1.a4 (NoDig.at_ hx1.a1 (g := w.heap.size + 1 + 1) (by simp) (by simp [isDig])) (NoDig.at_ hx1 (g := w.heap.size + 1 + 1 + 1) (by simp) (by simp [isDig])) (by omega) (by omega))
        clear hrq hrr
        go_wp2
        refine bodyPost_ret (v := .tuple #[.agg #[.bool bq, .slice Aq nq cq], .agg #[.bool br, .slice Ar nr cr], .int .i64 0]) (by simp [results, Tryz.results109, go_sem, hc1]) rfl ?_
        exact Gives.mk ⟨_, _, by rw [if_neg HY.out], Hfin.out.1, by rw [if_neg HY.out]; exact Hfin.out.2.1⟩ Hfin.out.2.2
      · have HE := Lib.hid (show x / y = (if (!neg') = true then -((N / M + 1 : Nat) : Int) else (N / M + 1 : Nat)) ∧ x % y = (if false = true then -((M - N % M : Nat) : Int) else (M - N % M : Nat)) by
          rw [Hxy.out.1, Hxy.out.2]; exact euclid_neg neg' (by have := H0.out; omega) (by omega))
        have hb2 : decide (0 < sz (N % M)) = true := by have := sz_pos hr0; simpa using this
        clear hr0
        have hsq : sz (N / M) ≤ sz N := sz_mono (Nat.div_le_self _ _)
        go_wp2_with fail
        refine Calls.mono (plus_num _ _ (N / M) 1 (sz N) 1 _ ((Hq.out.ext ((Ext.refl w3).alloc _)).num hsq) (NumV.unit _ _) (by omega) (by omega)) ?_
        rintro e w4 ⟨r4, rfl, hr4, hx4⟩
        replace Hr := Lib.hid (Hr.out.ext hx4.a1)
        replace Hm := Lib.hid (Hm.out.ext hx4.a1)
        replace hx1 := hx1.trans hx4.a1
        clear hc1 hf1 hx4 hb2 Hq
        have hc1 := hx1.cells
        have hf1 := hx1.frozens
        go_wp2_with fail
        refine Calls.mono (less_nat _ _ M (N % M) w4 Hr.out Hm.out (Nat.le_of_lt (Nat.mod_lt _ (by have := H0.out; omega))) (by omega)) ?_
        rintro e w5 ⟨r5, rfl, hr5, hx5⟩
        replace hr4 := hr4.ext hx5
        replace hx1 := hx1.trans hx5
        clear hc1 hf1 hx5 Hr Hm
        have hc1 := hx1.cells
        have hf1 := hx1.frozens
        have Hr4 := Lib.hid hr4; have Hr5 := Lib.hid hr5; clear hr4 hr5
        go_wp2_with fail
        refine Calls.mono (signed_z (x / y) (!neg') _ (N / M + 1) _ w5 HE.out.1 Hr4.out) ?_
        rintro e w6 ⟨rq, rfl, hrq, hx3⟩
        obtain ⟨bq, Aq, nq, cq, rfl⟩ := hrq.cells
        go_wp2_with fail
        refine Calls.mono (signed_z (x % y) false _ (M - N % M) _ w6 HE.out.2 (NumV.ext Hr5.out hx3)) ?_
        rintro e w7 ⟨rr, rfl, hrr, hx4⟩
        obtain ⟨br, Ar, nr, cr, rfl⟩ := hrr.cells
        replace hrq := hrq.ext hx4
        replace hx1 := (hx1.trans hx3).trans hx4
        clear hc1 hf1 hx3 hx4
        have hc1 := hx1.cells
        have hf1 := hx1.frozens
        have Hfin := Lib.hid (fin_zz hrq hrr hx1.a4 (NoDig.at_ hx1.a1 (g := w.heap.size + 1 + 1) (by simp) (by simp [isDig])) (NoDig.at_ hx1 (g := w.heap.size + 1 + 1 + 1) (by simp) (by simp [isDig])) (by omega) (by omega))
        clear hrq hrr
        go_wp2
        refine bodyPost_ret (v := .tuple #[.agg #[.bool bq, .slice Aq nq cq], .agg #[.bool br, .slice Ar nr cr], .int .i64 0]) (by simp [results, Tryz.results109, go_sem, hc1]) rfl ?_
        exact Gives.mk ⟨_, _, by rw [if_neg HY.out], Hfin.out.1, by rw [if_neg HY.out]; exact Hfin.out.2.1⟩ Hfin.out.2.2
end Go.Proofs.YtedoifjbgokmcaaGreat
namespace Go.Proofs.YtedoifjbgokmcaaGreat
open Go.RowKit Go.Hp
def EucZ (x y : Int) (r : Value) (w : World) : Prop := ∃ a b, r = .tuple #[a, b] ∧ IsZ w a (x / y) ∧ IsZ w b (x % y)
theorem euc_plain {x y : Int} (hy : y ≠ 0) (h : ¬ (x < 0 ∧ x.natAbs % y.natAbs ≠ 0)) : x / y = (if (decide (x < 0) != decide (y < 0)) = true then -((x.natAbs / y.natAbs : Nat) : Int) else (x.natAbs / y.natAbs : Nat)) ∧ x % y = (x.natAbs % y.natAbs : Nat) := by
  have hM : 0 < y.natAbs := by omega
  have ey : y = if decide (y < 0) = true then -(y.natAbs : Int) else y.natAbs := by by_cases h : y < 0 <;> simp [h] <;> omega
  by_cases hx : x < 0
  · have e0 : x.natAbs % y.natAbs = 0 := Decidable.byContradiction fun e => h ⟨hx, e⟩
    have ex : x = -(x.natAbs : Int) := by omega
    have := euclid_neg0 (decide (y < 0)) hM e0
    rw [← ey, ← ex] at this
    simpa [hx] using this
  · have ex : x = (x.natAbs : Int) := by omega
    have := euclid_pos (N := x.natAbs) (decide (y < 0)) hM
    rw [← ey, ← ex] at this
    simpa [hx] using this
theorem euc_up {x y : Int} (hy : y ≠ 0) (hx : x < 0) (h : 0 < x.natAbs % y.natAbs) : x / y = (if (!decide (y < 0)) = true then -((x.natAbs / y.natAbs + 1 : Nat) : Int) else (x.natAbs / y.natAbs + 1 : Nat)) ∧ x % y = (y.natAbs : Int) - (x.natAbs % y.natAbs : Nat) := by
  have hM : 0 < y.natAbs := by omega
  have ey : y = if decide (y < 0) = true then -(y.natAbs : Int) else y.natAbs := by by_cases h : y < 0 <;> simp [h] <;> omega
  have ex : x = -(x.natAbs : Int) := by omega
  have := euclid_neg (decide (y < 0)) hM h
  rw [← ey, ← ex] at this
  have h2 := Nat.mod_lt x.natAbs hM
  exact ⟨this.1, by rw [this.2]; omega⟩
set_option maxHeartbeats 2000000 in
theorem euclid_r (v u : Value) (x y : Int) (w : World) (hv : HasZ w v x) (hu : HasZ w u y) (hy : y ≠ 0) (sx : sz x.natAbs ≤ 549755813888) (sy : sz y.natAbs ≤ 549755813888) : Calls Tryz.prog 116 #[v, u] w (Gives w (EucZ x y)) := by
  have HV := Lib.hid hv; have HU := Lib.hid hu; have HY := Lib.hid hy
  obtain ⟨neg, A, n, c, N, rfl, -, -, -, -, -⟩ := hv.form
  obtain ⟨neg', A', n', c', M, rfl, -, -, -, -, -⟩ := hu.form
  clear hv hu hy
  go_enter Tryz.func116, Tryz.ntmps116
  go_wp2_with fail
  refine wp_region_apart (k := 6) (D := [11, 12, 13, 14, 6, 7]) (T := [[], [0], [], [0, 1, 2], [], [], [0, 1, 2, 3, 4, 5], [0, 1, 2, 3, 4, 5, 6]]) (EK := [2, 3]) (EV := [?e1x0, ?e1x1]) (VL := [(kv ?v1x0), (fun γ => γ 1), (kv ?v1x2), (fun γ => γ 3), (fun γ => γ 4), (fun γ => γ 5)]) (FL := fun γ w' => [True, IsZ w' (γ 1) x, True, IsZ w' (γ 3) y, NewAt w' (γ 4) (w.heap.size + 4) #[.bool false, .slice none 0 0] 38, NewAt w' (γ 5) (w.heap.size + 4) #[.bool false, .slice none 0 0] 38]) ?hE1 (by kernel_rfl) (by kernel_rfl) (by rfl) (by kernel_rfl) ?hloc1 ?hmono1 ?hstep1 ?htail1
  case hE1 => refine ⟨?_, ?_, trivial⟩ <;> (simp only [List.getElem?_toArray, List.getElem?_cons_succ, List.getElem?_cons_zero]; rfl)
  case hstep1 =>
    refine ⟨⟨⟨⟨⟨⟨trivial, ?_⟩, ?_⟩, ?_⟩, ?_⟩, ?_⟩, ?_⟩
    · intro γ w' he hf; clear hf; refine ⟨trivial, ?_⟩; intro R hR
      have hc := he.cells
      go_simp
      (try go_ints); (try (rw [if_neg (by omega)])); (try (rw [if_pos (by omega)])); (try go_simp); (try go_ints)
      refine hR _ _ (Ext.refl _) ?_ trivial
      rfl
    · intro γ w' he hf; clear hf; refine ⟨trivial, ?_⟩; intro R hR
      go_simp
      refine Calls.mono (show Calls _ _ _ w' (Gives w' fun r w'' => IsZ w'' (r) x) from norm_r _ x w' (HV.out.ext he.a4)) ?_
      rintro e w2 ⟨v, rfl, hv, hx⟩
      exact ⟨v, rfl, hR v w2 hx rfl hv⟩
    · intro γ w' he hf; clear hf; refine ⟨trivial, ?_⟩; intro R hR
      have hc := he.cells
      go_simp
      (try go_ints); (try (rw [if_neg (by omega)])); (try (rw [if_pos (by omega)])); (try go_simp); (try go_ints)
      refine hR _ _ (Ext.refl _) ?_ trivial
      rfl
    · intro γ w' he hf; have f1 : IsZ w' (γ 1) x := hf 1 (by decide); clear hf; refine ⟨trivial, ?_⟩; intro R hR
      go_simp
      refine Calls.mono (show Calls _ _ _ w' (Gives w' fun r w'' => IsZ w'' (r) y) from norm_r _ y w' (HU.out.ext he.a4)) ?_
      rintro e w2 ⟨v, rfl, hv, hx⟩
      exact ⟨v, rfl, hR v w2 hx rfl hv⟩
    · intro γ w' he hf; clear hf; refine ⟨trivial, ?_⟩; intro R hR
      go_simp
      exact hR _ _ ((Ext.refl _).alloc _) rfl (NewAt.mk (Nat.le_trans (by simp) he.size) (by simp [isDig]))
    · intro γ w' he hf; clear hf; refine ⟨trivial, ?_⟩; intro R hR
      go_simp
      exact hR _ _ ((Ext.refl _).alloc _) rfl (NewAt.mk (Nat.le_trans (by simp) he.size) (by simp [isDig]))
  case hloc1 =>
    exact ⟨⟨⟨⟨⟨⟨trivial, (fun γ γ' h => ⟨rfl, fun _ => rfl⟩)⟩, (fun γ γ' h => ⟨h 1 rfl, fun w' => (congrArg (fun a => IsZ w' (a) x) (h 1 rfl))⟩)⟩, (fun γ γ' h => ⟨rfl, fun _ => rfl⟩)⟩, (fun γ γ' h => ⟨h 3 rfl, fun w' => (congrArg (fun a => IsZ w' (a) y) (h 3 rfl))⟩)⟩, (fun γ γ' h => ⟨h 4 rfl, fun w' => (congrArg (fun a => NewAt w' (a) (w.heap.size + 4) #[.bool false, .slice none 0 0] 38) (h 4 rfl))⟩)⟩, (fun γ γ' h => ⟨h 5 rfl, fun w' => (congrArg (fun a => NewAt w' (a) (w.heap.size + 4) #[.bool false, .slice none 0 0] 38) (h 5 rfl))⟩)⟩
  case hmono1 =>
    exact ⟨⟨⟨⟨⟨⟨trivial, (fun γ wA w' e h => h)⟩, (fun γ wA w' e h => (show IsZ wA (γ 1) x from h).ext e)⟩, (fun γ wA w' e h => h)⟩, (fun γ wA w' e h => (show IsZ wA (γ 3) y from h).ext e)⟩, (fun γ wA w' e h => (show NewAt wA (γ 4) (w.heap.size + 4) #[.bool false, .slice none 0 0] 38 from h).ext e)⟩, (fun γ wA w' e h => (show NewAt wA (γ 5) (w.heap.size + 4) #[.bool false, .slice none 0 0] 38 from h).ext e)⟩
  intro γ w1 hx1 hF hA
  have na4x5 : γ 4 ≠ γ 5 := hA 4 5 (by decide) (by decide) (by decide) ⟨_, _, rfl, rfl⟩ ⟨_, _, rfl, rfl⟩
  clear hA
  have p1 : IsZ w1 (γ 1) x := Each.get hF 1 (by decide)
  have p3 : IsZ w1 (γ 3) y := Each.get hF 3 (by decide)
  have p4 : NewAt w1 (γ 4) (w.heap.size + 4) #[.bool false, .slice none 0 0] 38 := Each.get hF 4 (by decide)
  have p5 : NewAt w1 (γ 5) (w.heap.size + 4) #[.bool false, .slice none 0 0] 38 := Each.get hF 5 (by decide)
  clear hF
  simp only [fillAll, gV, kv, List.getD_cons_zero, List.getD_cons_succ, Act.put, List.setIfInBounds_toArray, List.set_cons_zero, List.set_cons_succ, List.toList_toArray, List.drop_succ_cons, List.drop_zero, List.drop_nil, Nat.zero_add, Nat.reduceAdd]
  generalize γ 1 = g1 at *
  generalize γ 3 = g3 at *
  generalize γ 4 = g4 at *
  generalize γ 5 = g5 at *
  clear γ
  obtain ⟨ga, rfl, hga, ea⟩ := p4
  obtain ⟨gb, rfl, hgb, eb⟩ := p5
  have hab : ga ≠ gb := fun e => na4x5 (by rw [e])
  clear na4x5
  obtain ⟨A1, c1, rfl, q1, q2, -⟩ := p1.form
  obtain ⟨A2, c2, rfl, q3, q4, -⟩ := p3.form
  obtain ⟨bx, hbx⟩ : ∃ b, b = decide (x < 0) := ⟨_, rfl⟩
  obtain ⟨by_, hby⟩ : ∃ b, b = decide (y < 0) := ⟨_, rfl⟩
  rw [← hbx] at p1 ⊢
  rw [← hby] at p3 ⊢
  have Hb := Lib.hid (And.intro hbx hby); clear hbx hby
  obtain ⟨cea0, cea1⟩ := ea.cells2
  have fea := ea.frozen
  obtain ⟨ceb0, ceb1⟩ := eb.cells2
  have feb := eb.frozen
  go_upto_region 2 with (fail)
  obtain ⟨W1, eW, ea', U⟩ := ea.put2 (.bool bx) (.slice A1 (sz x.natAbs) c1) rfl rfl
  rw [← eW]
  clear eW ea
  replace p1 := p1.kd U.kd
  replace p3 := p3.kd U.kd
  replace eb := eb.upd U (by simp <;> omega)
  replace hx1 := U.from_ hx1 (by simp <;> omega)
  have ea := ea'
  clear U ea'
  obtain ⟨W2, eW, eb', U⟩ := eb.put2 (.bool by_) (.slice A2 (sz y.natAbs) c2) rfl rfl
  rw [← eW]
  clear eW eb
  replace p1 := p1.kd U.kd
  replace p3 := p3.kd U.kd
  replace ea := ea.upd U (by simp <;> omega)
  replace hx1 := U.from_ hx1 (by simp <;> omega)
  have eb := eb'
  clear U eb'
  clear cea0 cea1 ceb0 ceb1 fea feb
  obtain ⟨cea0, cea1⟩ := ea.cells2
  have fea := ea.frozen
  obtain ⟨ceb0, ceb1⟩ := eb.cells2
  have feb := eb.frozen
  have hc1 := hx1.cells
  have hf1 := hx1.frozens
  go_wp2_with fail
  refine Calls.mono (divided_r _ _ x.natAbs y.natAbs _ p1.nat p3.nat (by have := HY.out; omega) (by omega) (by omega)) ?_
  rintro e w3 ⟨r, rfl, ⟨q, r3, rfl, hq, hr⟩, hx2⟩
  obtain ⟨A3, c3, rfl, d1, d2⟩ := hr.form
  clear hc1 hf1 cea0 cea1 ceb0 ceb1 fea feb
  replace p1 := p1.ext hx2
  replace p3 := p3.ext hx2
  replace ea := ea.ext hx2
  replace eb := eb.ext hx2
  replace hx1 := hx1.trans hx2
  clear hx2
  obtain ⟨cea0, cea1⟩ := ea.cells2
  have fea := ea.frozen
  obtain ⟨ceb0, ceb1⟩ := eb.cells2
  have feb := eb.frozen
  have hc1 := hx1.cells
  have hf1 := hx1.frozens
  have Hq := Lib.hid hq; clear hq
  go_wp2_with fail
  refine Calls.mono (signed_r ((x.natAbs % y.natAbs : Nat) : Int) false _ (x.natAbs % y.natAbs) _ _ rfl (hr.num (Nat.le_refl _)) (Nat.le_trans (sz_mono (Nat.mod_le _ _)) (by omega))) ?_
  rintro e w4 ⟨r, rfl, hz, hx2⟩
  replace Hq := Lib.hid (Hq.out.ext hx2)
  clear hc1 hf1 cea0 cea1 ceb0 ceb1 fea feb hr
  replace p1 := p1.ext hx2
  replace p3 := p3.ext hx2
  replace ea := ea.ext hx2
  replace eb := eb.ext hx2
  replace hx1 := hx1.trans hx2
  clear hx2
  obtain ⟨A4, c4, rfl, d3, d4, -⟩ := hz.form
  have hbz : decide (((x.natAbs % y.natAbs : Nat) : Int) < 0) = false := decide_eq_false (by omega)
  rw [hbz] at hz
  simp only [hbz, Int.natAbs_natCast] at hz d3 ⊢
  go_upto_region 4 with (fail)
  have ec := Box.new w4 38 #[.bool false, .slice A4 (sz (x.natAbs % y.natAbs)) c4] (by simp [isDig])
  obtain ⟨w5, hw5⟩ : ∃ w5, w5 = w4.alloc (.cells #[.bool false, .slice A4 (sz (x.natAbs % y.natAbs)) c4] 38) := ⟨_, rfl⟩
  obtain ⟨gc, hgc⟩ : ∃ g, g = w4.heap.size := ⟨_, rfl⟩
  have hx2 : Ext w4 w5 := by rw [hw5]; exact (Ext.refl w4).alloc _
  rw [← hw5, ← hgc] at ec ⊢
  have hgc4 : w.heap.size + 4 ≤ gc := by have := hx1.size; simp at this; omega
  clear hw5 hgc
  replace Hq := Lib.hid (Hq.out.ext hx2)
  replace p1 := p1.ext hx2
  replace p3 := p3.ext hx2
  replace hz := hz.ext hx2
  replace ea := ea.ext hx2
  replace eb := eb.ext hx2
  replace hx1 := hx1.trans hx2
  clear hx2
  obtain ⟨cea0, cea1⟩ := ea.cells2
  have fea := ea.frozen
  obtain ⟨ceb0, ceb1⟩ := eb.cells2
  have feb := eb.frozen
  obtain ⟨cec0, cec1⟩ := ec.cells2
  have fec := ec.frozen
  have hc1 := hx1.cells
  have hf1 := hx1.frozens
  by_cases hup : x < 0 ∧ x.natAbs % y.natAbs ≠ 0
  · have H := Lib.hid (euc_up HY.out hup.1 (by omega))
    obtain rfl : bx = true := by rw [Hb.out.1]; simpa using hup.1
    have hb : decide (0 < sz (x.natAbs % y.natAbs)) = true := by have := sz_pos hup.2; simpa using this
    clear hup
    go_wp2_with fail
    refine wp_region_par (k := 10) (D := [33, 34, 35, 36, 37, 38, 39, 40, 41, 42]) (T := [[], [0], [0, 1], [], [], [3, 4], [0, 1, 2, 3, 4, 5], [], [0, 1, 2, 3, 4, 5, 6, 7], [], [0, 1, 2, 3, 4, 5, 6, 7, 8, 9], [0, 1, 2, 3, 4, 5, 6, 7, 8, 9, 10], [0, 1, 2, 3, 4, 5, 6, 7, 8, 9, 10, 11]]) (EK := [7, 8, 10]) (EV := [?e2x0, ?e2x1, ?e2x2]) (VL := [(kv ?v2x0), (kv ?v2x1), (kv ?v2x2), (kv ?v2x3), (fun γ => γ 4), (fun γ => γ 5), (fun γ => γ 6), (kv ?v2x7), (fun γ => γ 8), (kv ?v2x9)]) (FL := fun γ w' => [True, True, True, True, NumV w' (γ 4) 1 1, NumV w' (γ 5) (x.natAbs / y.natAbs + 1) (max (sz x.natAbs + 1) 1 + 1), IsZ w' (γ 6) (x / y), True, IsZ w' (γ 8) (y.natAbs : Nat), True]) ?hE2 (by kernel_rfl) (by kernel_rfl) (by rfl) (by kernel_rfl) ?hloc2 ?hmono2 ?hstep2 ?htail2
    case hE2 => refine ⟨?_, ?_, ?_, trivial⟩ <;> (simp only [List.getElem?_toArray, List.getElem?_cons_succ, List.getElem?_cons_zero]; rfl)
    case hstep2 =>
      refine ⟨⟨⟨⟨⟨⟨⟨⟨⟨⟨trivial, ?_⟩, ?_⟩, ?_⟩, ?_⟩, ?_⟩, ?_⟩, ?_⟩, ?_⟩, ?_⟩, ?_⟩
      · intro γ w' he hf; clear hf; refine ⟨trivial, ?_⟩; intro R hR
        have hc := he.cells
        go_simp
        (try go_ints); (try (rw [if_neg (by omega)])); (try (rw [if_pos (by omega)])); (try go_simp); (try go_ints)
        refine hR _ _ (Ext.refl _) ?_ trivial
        rfl
      · intro γ w' he hf; clear hf; refine ⟨trivial, ?_⟩; intro R hR
        have hc := he.cells
        have cq0 := he.cell cea0
        have cq1 := he.cell cea1
        have cq2 := he.cell ceb0
        have cq3 := he.cell ceb1
        have cq4 := he.cell cec0
        have cq5 := he.cell cec1
        go_simp
        (try go_ints); (try (rw [if_neg (by omega)])); (try (rw [if_pos (by omega)])); (try go_simp); (try go_ints)
        refine hR _ _ (Ext.refl _) ?_ trivial
        rfl
      · intro γ w' he hf; clear hf; refine ⟨trivial, ?_⟩; intro R hR
        have hc := he.cells
        go_simp
        (try go_ints); (try (rw [if_neg (by omega)])); (try (rw [if_pos (by omega)])); (try go_simp); (try go_ints)
        refine hR _ _ (Ext.refl _) ?_ trivial
        rfl
      · intro γ w' he hf; clear hf; refine ⟨trivial, ?_⟩; intro R hR
        have hc := he.cells
        go_simp
        (try go_ints); (try (rw [if_neg (by omega)])); (try (rw [if_pos (by omega)])); (try go_simp); (try go_ints)
        refine hR _ _ (Ext.refl _) ?_ trivial
        rfl
      · intro γ w' he hf; clear hf; refine ⟨trivial, ?_⟩; intro R hR
        go_simp
        exact hR _ _ ((Ext.refl _).alloc _) rfl (NumV.unit _ _)
      · intro γ w' he hf; have f4 : NumV w' (γ 4) 1 1 := hf 4 (by decide); clear hf; refine ⟨trivial, ?_⟩; intro R hR
        go_simp
        refine Calls.mono (show Calls _ _ _ w' (Gives w' fun r w'' => NumV w'' (r) (x.natAbs / y.natAbs + 1) (max (sz x.natAbs + 1) 1 + 1)) from plus_rn _ _ _ _ _ _ w' (Hq.out.ext he) f4 (by omega) (by omega)) ?_
        rintro e w2 ⟨v, rfl, hv, hx⟩
        exact ⟨v, rfl, hR v w2 hx rfl hv⟩
      · intro γ w' he hf; have f4 : NumV w' (γ 4) 1 1 := hf 4 (by decide); have f5 : NumV w' (γ 5) (x.natAbs / y.natAbs + 1) (max (sz x.natAbs + 1) 1 + 1) := hf 5 (by decide); clear hf; refine ⟨trivial, ?_⟩; intro R hR
        go_simp
        refine Calls.mono (show Calls _ _ _ w' (Gives w' fun r w'' => IsZ w'' (r) (x / y)) from signed_r (x / y) (!by_) _ _ _ w' (by rw [H.out.1, Hb.out.2]) f5 (by omega)) ?_
        rintro e w2 ⟨v, rfl, hv, hx⟩
        exact ⟨v, rfl, hR v w2 hx rfl hv⟩
      · intro γ w' he hf; clear hf; refine ⟨trivial, ?_⟩; intro R hR
        have hc := he.cells
        have cq0 := he.cell cea0
        have cq1 := he.cell cea1
        have cq2 := he.cell ceb0
        have cq3 := he.cell ceb1
        have cq4 := he.cell cec0
        have cq5 := he.cell cec1
        go_simp
        (try go_ints); (try (rw [if_neg (by omega)])); (try (rw [if_pos (by omega)])); (try go_simp); (try go_ints)
        refine hR _ _ (Ext.refl _) ?_ trivial
        rfl
      · intro γ w' he hf; have f4 : NumV w' (γ 4) 1 1 := hf 4 (by decide); have f5 : NumV w' (γ 5) (x.natAbs / y.natAbs + 1) (max (sz x.natAbs + 1) 1 + 1) := hf 5 (by decide); have f6 : IsZ w' (γ 6) (x / y) := hf 6 (by decide); clear hf; refine ⟨trivial, ?_⟩; intro R hR
        go_simp
        refine Calls.mono (show Calls _ _ _ w' (Gives w' fun r w'' => IsZ w'' (r) (y.natAbs : Nat)) from abs_r _ y w' ((p3.ext he).has (by omega))) ?_
        rintro e w2 ⟨v, rfl, hv, hx⟩
        exact ⟨v, rfl, hR v w2 hx rfl hv⟩
      · intro γ w' he hf; clear hf; refine ⟨trivial, ?_⟩; intro R hR
        have hc := he.cells
        have cq0 := he.cell cea0
        have cq1 := he.cell cea1
        have cq2 := he.cell ceb0
        have cq3 := he.cell ceb1
        have cq4 := he.cell cec0
        have cq5 := he.cell cec1
        go_simp
        (try go_ints); (try (rw [if_neg (by omega)])); (try (rw [if_pos (by omega)])); (try go_simp); (try go_ints)
        refine hR _ _ (Ext.refl _) ?_ trivial
        rfl
    case hloc2 =>
      exact ⟨⟨⟨⟨⟨⟨⟨⟨⟨⟨trivial, (fun γ γ' h => ⟨rfl, fun _ => rfl⟩)⟩, (fun γ γ' h => ⟨rfl, fun _ => rfl⟩)⟩, (fun γ γ' h => ⟨rfl, fun _ => rfl⟩)⟩, (fun γ γ' h => ⟨rfl, fun _ => rfl⟩)⟩, (fun γ γ' h => ⟨h 4 rfl, fun w' => (congrArg (fun a => NumV w' (a) 1 1) (h 4 rfl))⟩)⟩, (fun γ γ' h => ⟨h 5 rfl, fun w' => (congrArg (fun a => NumV w' (a) (x.natAbs / y.natAbs + 1) (max (sz x.natAbs + 1) 1 + 1)) (h 5 rfl))⟩)⟩, (fun γ γ' h => ⟨h 6 rfl, fun w' => (congrArg (fun a => IsZ w' (a) (x / y)) (h 6 rfl))⟩)⟩, (fun γ γ' h => ⟨rfl, fun _ => rfl⟩)⟩, (fun γ γ' h => ⟨h 8 rfl, fun w' => (congrArg (fun a => IsZ w' (a) (y.natAbs : Nat)) (h 8 rfl))⟩)⟩, (fun γ γ' h => ⟨rfl, fun _ => rfl⟩)⟩
    case hmono2 =>
      exact ⟨⟨⟨⟨⟨⟨⟨⟨⟨⟨trivial, (fun γ wA w' e h => h)⟩, (fun γ wA w' e h => h)⟩, (fun γ wA w' e h => h)⟩, (fun γ wA w' e h => h)⟩, (fun γ wA w' e h => (show NumV wA (γ 4) 1 1 from h).ext e)⟩, (fun γ wA w' e h => (show NumV wA (γ 5) (x.natAbs / y.natAbs + 1) (max (sz x.natAbs + 1) 1 + 1) from h).ext e)⟩, (fun γ wA w' e h => (show IsZ wA (γ 6) (x / y) from h).ext e)⟩, (fun γ wA w' e h => h)⟩, (fun γ wA w' e h => (show IsZ wA (γ 8) (y.natAbs : Nat) from h).ext e)⟩, (fun γ wA w' e h => h)⟩
    intro γ w6 hx6 hF
    have p4 : NumV w6 (γ 4) 1 1 := Each.get hF 4 (by decide)
    have p5 : NumV w6 (γ 5) (x.natAbs / y.natAbs + 1) (max (sz x.natAbs + 1) 1 + 1) := Each.get hF 5 (by decide)
    have p6 : IsZ w6 (γ 6) (x / y) := Each.get hF 6 (by decide)
    have p8 : IsZ w6 (γ 8) (y.natAbs : Nat) := Each.get hF 8 (by decide)
    clear hF
    simp only [fillAll, gV, kv, List.getD_cons_zero, List.getD_cons_succ, Act.put, List.setIfInBounds_toArray, List.set_cons_zero, List.set_cons_succ, List.toList_toArray, List.drop_succ_cons, List.drop_zero, List.drop_nil, Nat.zero_add, Nat.reduceAdd]
    generalize γ 4 = g4 at *
    generalize γ 5 = g5 at *
    generalize γ 6 = g6 at *
    generalize γ 8 = g8 at *
    clear γ
    go_wp2_with fail
    refine Calls.mono (sub_r _ _ (y.natAbs : Nat) (x.natAbs % y.natAbs : Nat) _ (p8.has (by rw [Int.natAbs_natCast]; omega)) ((hz.ext hx6).has (by rw [Int.natAbs_natCast]; exact Nat.le_trans (sz_mono (Nat.mod_le _ _)) (by omega))) (by rw [Int.natAbs_natCast]; omega) (by rw [Int.natAbs_natCast]; exact Nat.le_trans (sz_mono (Nat.mod_le _ _)) (by omega))) ?_
    rintro e w7 ⟨r, rfl, hr7, hx7⟩
    rw [← H.out.2] at hr7
    replace p6 := p6.ext hx7
    replace hx1 := (hx1.trans hx6).trans hx7
    clear hc1 hf1 cea0 cea1 ceb0 ceb1 cec0 cec1 fea feb fec hx6 hx7 p4 p5 p8
    obtain ⟨bq, Aq, nq, cq, rfl⟩ := p6.cells
    obtain ⟨br, Ar, nr, cr, rfl⟩ := hr7.cells
    have hc1 := hx1.cells
    have hf1 := hx1.frozens
    have Hfin := Lib.hid (fin_zz p6 hr7 hx1.a4 (NoDig.at_ hx1.a1 (g := w.heap.size + 1 + 1) (by simp) (by simp [isDig])) (NoDig.at_ hx1 (g := w.heap.size + 1 + 1 + 1) (by simp) (by simp [isDig])) (by omega) (by omega))
    clear p6 hr7
    go_wp2
    refine bodyPost_ret (v := .tuple #[.agg #[.bool bq, .slice Aq nq cq], .agg #[.bool br, .slice Ar nr cr]]) (by simp [results, Tryz.results116, go_sem, hc1]) rfl ?_
    exact Gives.mk ⟨_, _, rfl, Hfin.out.1, Hfin.out.2.1⟩ Hfin.out.2.2
  · have H := Lib.hid (euc_plain HY.out hup)
    have hcase : bx = false ∨ (bx = true ∧ x.natAbs % y.natAbs = 0) := by
      rw [Hb.out.1]
      by_cases h : x < 0
      · right; exact ⟨by simpa using h, Decidable.byContradiction fun e => hup ⟨h, e⟩⟩
      · left; simpa using h
    clear hup
    have hqs : sz (x.natAbs % y.natAbs) ≤ 549755813888 := Nat.le_trans (sz_mono (Nat.mod_le _ _)) sx
    rcases hcase with h0 | ⟨h0, h1⟩
    · have hb : bx = false := h0
      subst h0
      go_wp2_with fail
      refine wp_region_late (k := 8) (ℓ := 7) (nl := 1) (D := [44, 45, 46, 47, 48, 49, 50, 51]) (T := [[], [0], [], [2], [0, 1, 2, 3], [], [0, 1, 2, 3, 4, 5], [], [0, 1, 2, 3, 4, 5, 6], [0, 1, 2, 3, 4, 5, 6, 7, 8]]) (EK := [6, 7, 8, 10]) (EV := [?e3x0, ?e3x1, ?e3x2, ?e3x3]) (VL := [(kv ?v3x0), (kv ?v3x1), (kv ?v3x2), (kv ?v3x3), (kv ?v3x4), (kv ?v3x5), (fun γ => γ 6), (kv ?v3x7)]) (FL := fun γ w' => [True, True, True, True, True, True, IsZ w' (γ 6) (x / y), True]) _ rfl ?hE3 (by kernel_rfl) (by kernel_rfl) (by kernel_rfl) (by kernel_rfl) (by kernel_rfl) (by rfl) (by kernel_rfl) ?hloc3 ?hmono3 ?hstep3 ?htail3 ?hlate3
      case hE3 => refine ⟨?_, ?_, ?_, ?_, trivial⟩ <;> (simp only [List.getElem?_toArray, List.getElem?_cons_succ, List.getElem?_cons_zero]; rfl)
      case hstep3 =>
        refine ⟨⟨⟨⟨⟨⟨⟨⟨trivial, ?_⟩, ?_⟩, ?_⟩, ?_⟩, ?_⟩, ?_⟩, ?_⟩, ?_⟩
        · intro γ w' he hf; clear hf; refine ⟨trivial, ?_⟩; intro R hR
          have hc := he.cells
          go_simp
          (try go_ints); (try (rw [if_neg (by omega)])); (try (rw [if_pos (by omega)])); (try go_simp); (try go_ints)
          refine hR _ _ (Ext.refl _) ?_ trivial
          rfl
        · intro γ w' he hf; clear hf; refine ⟨trivial, ?_⟩; intro R hR
          have hc := he.cells
          have cq0 := he.cell cea0
          have cq1 := he.cell cea1
          have cq2 := he.cell ceb0
          have cq3 := he.cell ceb1
          have cq4 := he.cell cec0
          have cq5 := he.cell cec1
          go_simp
          (try go_ints); (try (rw [if_neg (by omega)])); (try (rw [if_pos (by omega)])); (try go_simp); (try go_ints)
          refine hR _ _ (Ext.refl _) ?_ trivial
          rfl
        · intro γ w' he hf; clear hf; refine ⟨trivial, ?_⟩; intro R hR
          have hc := he.cells
          go_simp
          (try go_ints); (try (rw [if_neg (by omega)])); (try (rw [if_pos (by omega)])); (try go_simp); (try go_ints)
          refine hR _ _ (Ext.refl _) ?_ trivial
          rfl
        · intro γ w' he hf; clear hf; refine ⟨trivial, ?_⟩; intro R hR
          have hc := he.cells
          have cq0 := he.cell cea0
          have cq1 := he.cell cea1
          have cq2 := he.cell ceb0
          have cq3 := he.cell ceb1
          have cq4 := he.cell cec0
          have cq5 := he.cell cec1
          go_simp
          (try go_ints); (try (rw [if_neg (by omega)])); (try (rw [if_pos (by omega)])); (try go_simp); (try go_ints)
          refine hR _ _ (Ext.refl _) ?_ trivial
          rfl
        · intro γ w' he hf; clear hf; refine ⟨trivial, ?_⟩; intro R hR
          have hc := he.cells
          go_simp
          (try go_ints); (try (rw [if_neg (by omega)])); (try (rw [if_pos (by omega)])); (try go_simp); (try go_ints)
          refine hR _ _ (Ext.refl _) ?_ trivial
          rfl
        · intro γ w' he hf; clear hf; refine ⟨trivial, ?_⟩; intro R hR
          have hc := he.cells
          go_simp
          (try go_ints); (try (rw [if_neg (by omega)])); (try (rw [if_pos (by omega)])); (try go_simp); (try go_ints)
          refine hR _ _ (Ext.refl _) ?_ trivial
          rfl
        · intro γ w' he hf; clear hf; refine ⟨trivial, ?_⟩; intro R hR
          go_simp
          refine Calls.mono (show Calls _ _ _ w' (Gives w' fun r w'' => IsZ w'' (r) (x / y)) from signed_r (x / y) _ _ _ _ w' (by rw [H.out.1, ← Hb.out.1, ← Hb.out.2]; cases by_ <;> rfl) (Hq.out.ext he) (by omega)) ?_
          rintro e w2 ⟨v, rfl, hv, hx⟩
          exact ⟨v, rfl, hR v w2 hx rfl hv⟩
        · intro γ w' he hf; clear hf; refine ⟨trivial, ?_⟩; intro R hR
          have hc := he.cells
          have cq0 := he.cell cea0
          have cq1 := he.cell cea1
          have cq2 := he.cell ceb0
          have cq3 := he.cell ceb1
          have cq4 := he.cell cec0
          have cq5 := he.cell cec1
          go_simp
          (try go_ints); (try (rw [if_neg (by omega)])); (try (rw [if_pos (by omega)])); (try go_simp); (try go_ints)
          refine hR _ _ (Ext.refl _) ?_ trivial
          rfl
      case hloc3 =>
        exact ⟨⟨⟨⟨⟨⟨⟨⟨trivial, (fun γ γ' h => ⟨rfl, fun _ => rfl⟩)⟩, (fun γ γ' h => ⟨rfl, fun _ => rfl⟩)⟩, (fun γ γ' h => ⟨rfl, fun _ => rfl⟩)⟩, (fun γ γ' h => ⟨rfl, fun _ => rfl⟩)⟩, (fun γ γ' h => ⟨rfl, fun _ => rfl⟩)⟩, (fun γ γ' h => ⟨rfl, fun _ => rfl⟩)⟩, (fun γ γ' h => ⟨h 6 rfl, fun w' => (congrArg (fun a => IsZ w' (a) (x / y)) (h 6 rfl))⟩)⟩, (fun γ γ' h => ⟨rfl, fun _ => rfl⟩)⟩
      case hmono3 =>
        exact ⟨⟨⟨⟨⟨⟨⟨⟨trivial, (fun γ wA w' e h => h)⟩, (fun γ wA w' e h => h)⟩, (fun γ wA w' e h => h)⟩, (fun γ wA w' e h => h)⟩, (fun γ wA w' e h => h)⟩, (fun γ wA w' e h => h)⟩, (fun γ wA w' e h => (show IsZ wA (γ 6) (x / y) from h).ext e)⟩, (fun γ wA w' e h => h)⟩
      case hlate3 =>
        intro γ w6 hx6 hF
        have p6 : IsZ w6 (γ 6) (x / y) := (Each.get hF 6 (by decide)).resolve_left (by decide)
        clear hF
        simp only [fillAll, gV, kv, List.getD_cons_zero, List.getD_cons_succ, Act.put, List.setIfInBounds_toArray, List.set_cons_zero, List.set_cons_succ, List.toList_toArray, List.drop_succ_cons, List.drop_zero, List.drop_nil, Nat.zero_add, Nat.reduceAdd, lateP, Array.getD_eq_getD_getElem?, List.getElem?_toArray, List.getElem?_cons_succ, List.getElem?_cons_zero, Option.getD_some]
        generalize γ 6 = g6 at *
        clear γ
        rw [← H.out.2] at hz
        have hr7 := hz.ext hx6
        replace hx1 := hx1.trans hx6
        have ck0 := hx6.cell cec0
        have ck1 := hx6.cell cec1
        clear hc1 hf1 cea0 cea1 ceb0 ceb1 cec0 cec1 fea feb fec hz
        obtain ⟨bq, Aq, nq, cq, rfl⟩ := p6.cells
        have hc1 := hx1.cells
        have hf1 := hx1.frozens
        have Hfin := Lib.hid (fin_zz p6 hr7 hx1.a4 (NoDig.at_ hx1.a1 (g := w.heap.size + 1 + 1) (by simp) (by simp [isDig])) (NoDig.at_ hx1 (g := w.heap.size + 1 + 1 + 1) (by simp) (by simp [isDig])) (by omega) (by omega))
        clear p6 hr7
        go_wp2
        refine ⟨?_, trivial⟩
        go_wp2
        refine bodyPost_ret (v := .tuple #[.agg #[.bool bq, .slice Aq nq cq], .agg #[.bool false, .slice A4 (sz (x.natAbs % y.natAbs)) c4]]) (by simp [results, Tryz.results116, go_sem, hc1]) rfl ?_
        exact Gives.mk ⟨_, _, rfl, Hfin.out.1, Hfin.out.2.1⟩ Hfin.out.2.2
      intro γ w6 hx6 hF
      have p6 : IsZ w6 (γ 6) (x / y) := Each.get hF 6 (by decide)
      clear hF
      simp only [fillAll, gV, kv, List.getD_cons_zero, List.getD_cons_succ, Act.put, List.setIfInBounds_toArray, List.set_cons_zero, List.set_cons_succ, List.toList_toArray, List.drop_succ_cons, List.drop_zero, List.drop_nil, Nat.zero_add, Nat.reduceAdd]
      generalize γ 6 = g6 at *
      clear γ
      rw [← H.out.2] at hz
      have hr7 := hz.ext hx6
      replace hx1 := hx1.trans hx6
      have ck0 := hx6.cell cec0
      have ck1 := hx6.cell cec1
      clear hc1 hf1 cea0 cea1 ceb0 ceb1 cec0 cec1 fea feb fec hz
      obtain ⟨bq, Aq, nq, cq, rfl⟩ := p6.cells
      have hc1 := hx1.cells
      have hf1 := hx1.frozens
      have Hfin := Lib.hid (fin_zz p6 hr7 hx1.a4 (NoDig.at_ hx1.a1 (g := w.heap.size + 1 + 1) (by simp) (by simp [isDig])) (NoDig.at_ hx1 (g := w.heap.size + 1 + 1 + 1) (by simp) (by simp [isDig])) (by omega) (by omega))
      clear p6 hr7
      go_wp2
      refine bodyPost_ret (v := .tuple #[.agg #[.bool bq, .slice Aq nq cq], .agg #[.bool false, .slice A4 (sz (x.natAbs % y.natAbs)) c4]]) (by simp [results, Tryz.results116, go_sem, hc1]) rfl ?_
      exact Gives.mk ⟨_, _, rfl, Hfin.out.1, Hfin.out.2.1⟩ Hfin.out.2.2
    · subst h0
      have hb : decide (0 < sz (x.natAbs % y.natAbs)) = false := by rw [h1]; rfl
      clear h1
      go_wp2_with fail
      refine wp_region_late (k := 8) (ℓ := 7) (nl := 1) (D := [44, 45, 46, 47, 48, 49, 50, 51]) (T := [[], [0], [], [2], [0, 1, 2, 3], [], [0, 1, 2, 3, 4, 5], [], [0, 1, 2, 3, 4, 5, 6], [0, 1, 2, 3, 4, 5, 6, 7, 8]]) (EK := [6, 7, 8, 10]) (EV := [?e4x0, ?e4x1, ?e4x2, ?e4x3]) (VL := [(kv ?v4x0), (kv ?v4x1), (kv ?v4x2), (kv ?v4x3), (kv ?v4x4), (kv ?v4x5), (fun γ => γ 6), (kv ?v4x7)]) (FL := fun γ w' => [True, True, True, True, True, True, IsZ w' (γ 6) (x / y), True]) _ rfl ?hE4 (by kernel_rfl) (by kernel_rfl) (by kernel_rfl) (by kernel_rfl) (by kernel_rfl) (by rfl) (by kernel_rfl) ?hloc4 ?hmono4 ?hstep4 ?htail4 ?hlate4
      case hE4 => refine ⟨?_, ?_, ?_, ?_, trivial⟩ <;> (simp only [List.getElem?_toArray, List.getElem?_cons_succ, List.getElem?_cons_zero]; rfl)
      case hstep4 =>
        refine ⟨⟨⟨⟨⟨⟨⟨⟨trivial, ?_⟩, ?_⟩, ?_⟩, ?_⟩, ?_⟩, ?_⟩, ?_⟩, ?_⟩
        · intro γ w' he hf; clear hf; refine ⟨trivial, ?_⟩; intro R hR
          have hc := he.cells
          go_simp
          (try go_ints); (try (rw [if_neg (by omega)])); (try (rw [if_pos (by omega)])); (try go_simp); (try go_ints)
          refine hR _ _ (Ext.refl _) ?_ trivial
          rfl
        · intro γ w' he hf; clear hf; refine ⟨trivial, ?_⟩; intro R hR
          have hc := he.cells
          have cq0 := he.cell cea0
          have cq1 := he.cell cea1
          have cq2 := he.cell ceb0
          have cq3 := he.cell ceb1
          have cq4 := he.cell cec0
          have cq5 := he.cell cec1
          go_simp
          (try go_ints); (try (rw [if_neg (by omega)])); (try (rw [if_pos (by omega)])); (try go_simp); (try go_ints)
          refine hR _ _ (Ext.refl _) ?_ trivial
          rfl
        · intro γ w' he hf; clear hf; refine ⟨trivial, ?_⟩; intro R hR
          have hc := he.cells
          go_simp
          (try go_ints); (try (rw [if_neg (by omega)])); (try (rw [if_pos (by omega)])); (try go_simp); (try go_ints)
          refine hR _ _ (Ext.refl _) ?_ trivial
          rfl
        · intro γ w' he hf; clear hf; refine ⟨trivial, ?_⟩; intro R hR
          have hc := he.cells
          have cq0 := he.cell cea0
          have cq1 := he.cell cea1
          have cq2 := he.cell ceb0
          have cq3 := he.cell ceb1
          have cq4 := he.cell cec0
          have cq5 := he.cell cec1
          go_simp
          (try go_ints); (try (rw [if_neg (by omega)])); (try (rw [if_pos (by omega)])); (try go_simp); (try go_ints)
          refine hR _ _ (Ext.refl _) ?_ trivial
          rfl
        · intro γ w' he hf; clear hf; refine ⟨trivial, ?_⟩; intro R hR
          have hc := he.cells
          go_simp
          (try go_ints); (try (rw [if_neg (by omega)])); (try (rw [if_pos (by omega)])); (try go_simp); (try go_ints)
          refine hR _ _ (Ext.refl _) ?_ trivial
          rfl
        · intro γ w' he hf; clear hf; refine ⟨trivial, ?_⟩; intro R hR
          have hc := he.cells
          go_simp
          (try go_ints); (try (rw [if_neg (by omega)])); (try (rw [if_pos (by omega)])); (try go_simp); (try go_ints)
          refine hR _ _ (Ext.refl _) ?_ trivial
          rfl
        · intro γ w' he hf; clear hf; refine ⟨trivial, ?_⟩; intro R hR
          go_simp
          refine Calls.mono (show Calls _ _ _ w' (Gives w' fun r w'' => IsZ w'' (r) (x / y)) from signed_r (x / y) _ _ _ _ w' (by rw [H.out.1, ← Hb.out.1, ← Hb.out.2]; cases by_ <;> rfl) (Hq.out.ext he) (by omega)) ?_
          rintro e w2 ⟨v, rfl, hv, hx⟩
          exact ⟨v, rfl, hR v w2 hx rfl hv⟩
        · intro γ w' he hf; clear hf; refine ⟨trivial, ?_⟩; intro R hR
          have hc := he.cells
          have cq0 := he.cell cea0
          have cq1 := he.cell cea1
          have cq2 := he.cell ceb0
          have cq3 := he.cell ceb1
          have cq4 := he.cell cec0
          have cq5 := he.cell cec1
          go_simp
          (try go_ints); (try (rw [if_neg (by omega)])); (try (rw [if_pos (by omega)])); (try go_simp); (try go_ints)
          refine hR _ _ (Ext.refl _) ?_ trivial
          rfl
      case hloc4 =>
        exact ⟨⟨⟨⟨⟨⟨⟨⟨trivial, (fun γ γ' h => ⟨rfl, fun _ => rfl⟩)⟩, (fun γ γ' h => ⟨rfl, fun _ => rfl⟩)⟩, (fun γ γ' h => ⟨rfl, fun _ => rfl⟩)⟩, (fun γ γ' h => ⟨rfl, fun _ => rfl⟩)⟩, (fun γ γ' h => ⟨rfl, fun _ => rfl⟩)⟩, (fun γ γ' h => ⟨rfl, fun _ => rfl⟩)⟩, (fun γ γ' h => ⟨h 6 rfl, fun w' => (congrArg (fun a => IsZ w' (a) (x / y)) (h 6 rfl))⟩)⟩, (fun γ γ' h => ⟨rfl, fun _ => rfl⟩)⟩
      case hmono4 =>
        exact ⟨⟨⟨⟨⟨⟨⟨⟨trivial, (fun γ wA w' e h => h)⟩, (fun γ wA w' e h => h)⟩, (fun γ wA w' e h => h)⟩, (fun γ wA w' e h => h)⟩, (fun γ wA w' e h => h)⟩, (fun γ wA w' e h => h)⟩, (fun γ wA w' e h => (show IsZ wA (γ 6) (x / y) from h).ext e)⟩, (fun γ wA w' e h => h)⟩
      case hlate4 =>
        intro γ w6 hx6 hF
        have p6 : IsZ w6 (γ 6) (x / y) := (Each.get hF 6 (by decide)).resolve_left (by decide)
        clear hF
        simp only [fillAll, gV, kv, List.getD_cons_zero, List.getD_cons_succ, Act.put, List.setIfInBounds_toArray, List.set_cons_zero, List.set_cons_succ, List.toList_toArray, List.drop_succ_cons, List.drop_zero, List.drop_nil, Nat.zero_add, Nat.reduceAdd, lateP, Array.getD_eq_getD_getElem?, List.getElem?_toArray, List.getElem?_cons_succ, List.getElem?_cons_zero, Option.getD_some]
        generalize γ 6 = g6 at *
        clear γ
        rw [← H.out.2] at hz
        have hr7 := hz.ext hx6
        replace hx1 := hx1.trans hx6
        have ck0 := hx6.cell cec0
        have ck1 := hx6.cell cec1
        clear hc1 hf1 cea0 cea1 ceb0 ceb1 cec0 cec1 fea feb fec hz
        obtain ⟨bq, Aq, nq, cq, rfl⟩ := p6.cells
        have hc1 := hx1.cells
        have hf1 := hx1.frozens
        have Hfin := Lib.hid (fin_zz p6 hr7 hx1.a4 (NoDig.at_ hx1.a1 (g := w.heap.size + 1 + 1) (by simp) (by simp [isDig])) (NoDig.at_ hx1 (g := w.heap.size + 1 + 1 + 1) (by simp) (by simp [isDig])) (by omega) (by omega))
        clear p6 hr7
        go_wp2
        refine ⟨?_, trivial⟩
        go_wp2
        refine bodyPost_ret (v := .tuple #[.agg #[.bool bq, .slice Aq nq cq], .agg #[.bool false, .slice A4 (sz (x.natAbs % y.natAbs)) c4]]) (by simp [results, Tryz.results116, go_sem, hc1]) rfl ?_
        exact Gives.mk ⟨_, _, rfl, Hfin.out.1, Hfin.out.2.1⟩ Hfin.out.2.2
      intro γ w6 hx6 hF
      have p6 : IsZ w6 (γ 6) (x / y) := Each.get hF 6 (by decide)
      clear hF
      simp only [fillAll, gV, kv, List.getD_cons_zero, List.getD_cons_succ, Act.put, List.setIfInBounds_toArray, List.set_cons_zero, List.set_cons_succ, List.toList_toArray, List.drop_succ_cons, List.drop_zero, List.drop_nil, Nat.zero_add, Nat.reduceAdd]
      generalize γ 6 = g6 at *
      clear γ
      rw [← H.out.2] at hz
      have hr7 := hz.ext hx6
      replace hx1 := hx1.trans hx6
      have ck0 := hx6.cell cec0
      have ck1 := hx6.cell cec1
      clear hc1 hf1 cea0 cea1 ceb0 ceb1 cec0 cec1 fea feb fec hz
      obtain ⟨bq, Aq, nq, cq, rfl⟩ := p6.cells
      have hc1 := hx1.cells
      have hf1 := hx1.frozens
      have Hfin := Lib.hid (fin_zz p6 hr7 hx1.a4 (NoDig.at_ hx1.a1 (g := w.heap.size + 1 + 1) (by simp) (by simp [isDig])) (NoDig.at_ hx1 (g := w.heap.size + 1 + 1 + 1) (by simp) (by simp [isDig])) (by omega) (by omega))
      clear p6 hr7
      go_wp2
      refine bodyPost_ret (v := .tuple #[.agg #[.bool bq, .slice Aq nq cq], .agg #[.bool false, .slice A4 (sz (x.natAbs % y.natAbs)) c4]]) (by simp [results, Tryz.results116, go_sem, hc1]) rfl ?_
      exact Gives.mk ⟨_, _, rfl, Hfin.out.1, Hfin.out.2.1⟩ Hfin.out.2.2
end Go.Proofs.YtedoifjbgokmcaaGreat
namespace Go.Hp
open Go.RowKit
theorem DigV.uniq {w : World} {v : Value} {ds es : List Nat} (h : DigV w v ds) (k : DigV w v es) : ds = es := by
  obtain ⟨A, c, rfl, h1, _, h2⟩ := h
  obtain ⟨A', c', he, k1, _, k2⟩ := k
  have hl : ds.length = es.length := by have := congrArg (fun v => match v with | Value.slice _ n _ => n | _ => 0) he; simpa using this
  obtain rfl : A = A' := by have := congrArg (fun v => match v with | Value.slice p _ _ => p | _ => none) he; simpa using this
  apply List.ext_getElem hl
  intro i hi hi'
  obtain ⟨a, rfl, ha⟩ := h2.2 (by omega)
  obtain ⟨b, hb, hb'⟩ := k2.2 (by omega)
  cases hb
  have h1 := ha i hi
  have h2 := hb' i hi'
  rw [h1] at h2
  simp only [Option.some.injEq, Value.int.injEq, true_and] at h2
  omega
theorem NatV.uniq {w : World} {v : Value} {n m : Nat} (h : NatV w v n) (k : NatV w v m) : n = m := by
  obtain ⟨ds, h1, rfl, _⟩ := h
  obtain ⟨es, k1, rfl, _⟩ := k
  rw [h1.uniq k1]
open Classical in
/-- The number that a value reads as. -/
noncomputable def natOf (v : Value) (w : World) : Nat := if h : ∃ n, NatV w v n then h.choose else 0
theorem natOf_eq {w : World} {v : Value} {n : Nat} (h : NatV w v n) : natOf v w = n := by
  unfold natOf
  rw [dif_pos ⟨n, h⟩]
  exact NatV.uniq (Exists.choose_spec (p := fun n => NatV w v n) ⟨n, h⟩) h
end Go.Hp
namespace Go.Proofs.YtedoifjbgokmcaaGreat
open Go.RowKit Go.Hp
theorem gcd_step (a b : Nat) : Nat.gcd b (a % b) = Nat.gcd a b := by rw [Nat.gcd_comm a b, Nat.gcd_rec b a, Nat.gcd_comm]
set_option maxHeartbeats 2000000 in
theorem common_nat (v u : Value) (N M : Nat) (w : World) (hv : NatV w v N) (hu : NatV w u M) (hN : sz N ≤ 1099511627776) (hM : sz M ≤ 1099511627776) :
    Calls Tryz.prog 110 #[v, u] w (Gives w fun r w' => NatV w' r (Nat.gcd N M)) := by
  have Hv := Lib.hid hv; have Hu := Lib.hid hu; clear hv hu
  obtain ⟨G, hG⟩ : ∃ G, G = Nat.gcd N M := ⟨_, rfl⟩
  rw [← hG]
  have HG := Lib.hid hG; clear hG
  go_enter Tryz.func110, Tryz.ntmps110
  go_wp2
  go_loopw [0, 1] (fun av bv wr => ∃ A B : Nat, NatV wr av A ∧ NatV wr bv B ∧ Nat.gcd A B = G ∧ sz A ≤ 1099511627776 ∧ sz B ≤ 1099511627776 ∧ Ext w wr) (fun _ bv wr => natOf bv wr)
  case atStart => exact ⟨N, M, Hv.out, Hu.out, HG.out.symm, hN, hM, Ext.refl _⟩
  case round =>
    obtain ⟨A, B, hA, hB, hAB, h1, h2, hx⟩ := hrel
    have HA := Lib.hid hA; have HB := Lib.hid hB; have HAB := Lib.hid hAB
    obtain ⟨p, c, rfl, _, _⟩ := hA.form
    obtain ⟨p', c', rfl, _, _⟩ := hB.form
    clear hA hB hAB
    by_cases hB0 : B = 0
    · have hb : decide (0 < sz B) = false := by rw [hB0]; rfl
      have H0 := Lib.hid hB0; clear hB0
      go_wp2_with fail
      refine Calls.mono (clone_nat _ A _ HA.out (by omega)) ?_
      rintro e w1 ⟨r, rfl, hr, hx1⟩
      go_wp2
      go_ret
      have := HAB.out
      rw [H0.out, Nat.gcd_zero_right] at this
      exact Gives.mk (this ▸ hr) (hx.trans hx1)
    · have hb : decide (0 < sz B) = true := by have := sz_pos hB0; simpa using this
      have H0 := Lib.hid hB0; clear hB0
      by_cases hsm : sz A ≤ 2 ∧ sz B ≤ 2
      · have hb1 : decide (((sz A : Nat) : Int) ≤ 2) = true := by have := hsm.1; simp; omega
        have hb2 : decide (((sz B : Nat) : Int) ≤ 2) = true := by have := hsm.2; simp; omega
        have hA64 : A < 18446744073709551616 := by have := sz_le_iff.1 hsm.1; rwa [bp_two] at this
        have hB64 : B < 18446744073709551616 := by have := sz_le_iff.1 hsm.2; rwa [bp_two] at this
        clear hsm
        go_wp2_with fail
        refine Calls.mono (word_nat _ A _ HA.out hA64) ?_
        rintro e w1 ⟨r, rfl, rfl, hx1⟩
        go_wp2_with fail
        refine Calls.mono (word_nat _ B _ (HB.out.ext hx1) hB64) ?_
        rintro e w2 ⟨r, rfl, rfl, hx2⟩
        replace hx := (hx.trans hx1).trans hx2
        clear hx1 hx2
        go_wp2
        go_loopw [5, 6] (fun av bv wx => ∃ A' B' : Nat, av = .int .u64 A' ∧ bv = .int .u64 B' ∧ Nat.gcd A' B' = G ∧ A' < 18446744073709551616 ∧ B' < 18446744073709551616 ∧ Ext w wx) (fun _ bv _ => (intOf bv).toNat)
        case atStart => exact ⟨A, B, rfl, rfl, HAB.out, hA64, hB64, hx⟩
        case round =>
          obtain ⟨A', B', rfl, rfl, hg, k1, k2, hx'⟩ := hrel
          have Hg := Lib.hid hg; clear hg
          by_cases hB0 : B' = 0
          · subst hB0
            go_wp2_with fail
            refine Calls.mono (wide_nat A' _ rfl _ k1) ?_
            rintro e w3 ⟨r, rfl, hr, hx3⟩
            go_wp2
            go_ret
            have := Hg.out
            rw [Nat.gcd_zero_right] at this
            exact Gives.mk (this ▸ hr) (hx'.trans hx3)
          · have hp : (1 : Int) ≤ B' := by omega
            have hb : ((B' : Int) != 0) = true := by simp; omega
            go_wp2
            go_quiet (fail)
            go_wp2
            go_roundw
            case rel => exact ⟨B', A' % B', by simp, by simp, by rw [gcd_step, Hg.out], k2, by have := Nat.mod_lt A' (show 0 < B' by omega); omega, hx'.drewN _⟩
            case measure =>
              have := Nat.mod_lt A' (show 0 < B' by omega)
              simp only [intOf, Array.getD, Int.toNat_natCast] <;> simp <;> omega
      · have hb1 : decide (((sz A : Nat) : Int) ≤ 2) = false ∨ (decide (((sz A : Nat) : Int) ≤ 2) = true ∧ decide (((sz B : Nat) : Int) ≤ 2) = false) := by
          by_cases q : sz A ≤ 2
          · right; simp; omega
          · left; simp; omega
        clear hsm
        rcases hb1 with hb1 | ⟨hb1, hb2⟩
        all_goals
          go_wp2_with fail
          refine Calls.mono (divide_nat _ _ A B wr HA.out HB.out (by have := H0.out; omega) (by omega) (by omega)) ?_
          rintro e w1 ⟨r, rfl, ⟨q, m, rfl, hq, hm⟩, hx1⟩
          have hlt := Nat.mod_lt A (show 0 < B by have := H0.out; omega)
          have hm1 := natOf_eq hm
          have hb1 := natOf_eq HB.out
          have hsz := sz_mono (Nat.le_of_lt hlt)
          have Hm := Lib.hid hm; clear hm
          go_wp2
          go_roundw
          case rel => exact ⟨B, A % B, HB.out.ext hx1, Hm.out, by rw [gcd_step, HAB.out], h2, by omega, hx.trans hx1⟩
          case measure => simpa [hm1, hb1] using hlt
end Go.Proofs.YtedoifjbgokmcaaGreat
namespace Go.Hp
open Go.RowKit
theorem IsZ.natform {w : World} {v : Value} {n : Nat} (h : IsZ w v (n : Int)) : ∃ A c, v = .agg #[.bool false, .slice A (sz n) c] ∧ sz n ≤ c ∧ c ≤ 9223372036854775807 := by
  obtain ⟨A, c, e, h1, h2, _⟩ := h.form
  have h0 : decide ((n : Int) < 0) = false := decide_eq_false (by omega)
  rw [h0, Int.natAbs_natCast] at e
  rw [Int.natAbs_natCast] at h1
  exact ⟨A, c, e, h1, h2⟩
theorem IsZ.natn {w : World} {A : Option Addr} {m c n : Nat} {b : Bool} (h : IsZ w (.agg #[.bool b, .slice A m c]) (n : Int)) : NatV w (.slice A m c) n := by
  obtain ⟨A', c', e, _, _, k⟩ := h.form
  simp only [Value.agg.injEq, Array.mk.injEq, List.cons.injEq, Value.slice.injEq] at e
  obtain ⟨_, ⟨rfl, rfl, rfl⟩, _⟩ := e
  rw [Int.natAbs_natCast] at k ⊢
  exact k
/-- v is the machine word n. -/
def IsU (_ : World) (v : Value) (n : Nat) : Prop := v = .int .u64 n
theorem IsU.ext {w w' : World} {v : Value} {n : Nat} (h : IsU w v n) (_ : Ext w w') : IsU w' v n := h
/-- The number behind the second cell of a box. -/
noncomputable def boxNat (g : Nat) (w : World) : Nat := natOf ((w.cell? ⟨g, 1, none⟩).getD undef) w
theorem boxNat_eq {w : World} {g : Nat} {v : Value} {n : Nat} (h : w.cell? ⟨g, 1, none⟩ = some v) (k : NatV w v n) : boxNat g w = n := by
  unfold boxNat
  rw [h]
  exact natOf_eq k
end Go.Hp
namespace Go.Proofs.YtedoifjbgokmcaaGreat
open Go.RowKit Go.Hp
set_option maxHeartbeats 1000000 in
theorem exact_r (v u : Value) (x y : Int) (w : World) (hv : HasZ w v x) (hu : HasZ w u y) (hy : y ≠ 0) (sx : sz x.natAbs ≤ 549755813888) (sy : sz y.natAbs ≤ 549755813888) : Calls Tryz.prog 84 #[v, u] w (Gives w fun r w' => IsZ w' r (x / y)) := by
  have HV := Lib.hid hv; have HU := Lib.hid hu
  obtain ⟨neg, A, n, c, N, rfl, -, -, -, -, -⟩ := hv.form
  obtain ⟨neg', A', n', c', M, rfl, -, -, -, -, -⟩ := hu.form
  clear hv hu
  go_enter Tryz.func84, Tryz.ntmps84
  go_wp2_with fail
  refine Calls.mono (euclid_r _ _ x y _ (HV.out.ext (((Ext.refl w).alloc _).alloc _ |>.alloc _)) (HU.out.ext (((Ext.refl w).alloc _).alloc _ |>.alloc _)) hy sx sy) ?_
  rintro e w1 ⟨r, rfl, ⟨a, b, rfl, ha, hb⟩, hx1⟩
  obtain ⟨b5, A5, n5, c5, rfl⟩ := ha.cells
  obtain ⟨b6, A6, n6, c6, rfl⟩ := hb.cells
  clear hb
  go_upto_region 2 with (fail)
  obtain ⟨w5, hw5⟩ : ∃ w5, w5 = (w1.alloc (.cells #[.bool b5, .slice A5 n5 c5] 38)).alloc (.cells #[.bool b6, .slice A6 n6 c6] 38) := ⟨_, rfl⟩
  have hx2 : Ext w1 w5 := by rw [hw5]; exact ((Ext.refl w1).alloc _).alloc _
  have ed : Box w5 w1.heap.size 38 #[.bool b5, .slice A5 n5 c5] := by rw [hw5]; exact (Box.new w1 _ _ (by simp [isDig])).alloc _
  rw [← hw5]
  have hr := ha.ext hx2
  replace hx1 := hx1.trans hx2
  clear hw5 hx2 ha
  obtain ⟨ced0, ced1⟩ := ed.cells2
  have fed := ed.frozen
  have hc1 := hx1.cells
  have hf1 := hx1.frozens
  have Hfin := Lib.hid (fin_z hr hx1.a3 (NoDig.at_ hx1 (g := w.heap.size + 2) (by simp) (by simp [isDig])) (by omega))
  clear hr
  go_wp2
  refine bodyPost_ret (v := .agg #[.bool b5, .slice A5 n5 c5]) (by simp [results, Tryz.results84, go_sem, hc1]) rfl ?_
  exact Hfin.out
set_option maxHeartbeats 2000000 in
theorem gcd_r (v u : Value) (x y : Int) (w : World) (hv : HasZ w v x) (hu : HasZ w u y) (sx : sz x.natAbs ≤ 549755813888) (sy : sz y.natAbs ≤ 549755813888) : Calls Tryz.prog 86 #[v, u] w (Gives w fun r w' => IsZ w' r (Int.gcd x y : Nat)) := by
  have HV := Lib.hid hv; have HU := Lib.hid hu
  obtain ⟨neg, A, n, c, N, rfl, -, -, -, -, -⟩ := hv.form
  obtain ⟨neg', A', n', c', M, rfl, -, -, -, -, -⟩ := hu.form
  clear hv hu
  obtain ⟨G, hG⟩ : ∃ G, G = Int.gcd x y := ⟨_, rfl⟩
  rw [← hG]
  have HG := Lib.hid hG; clear hG
  go_enter Tryz.func86, Tryz.ntmps86
  go_wp2_with fail
  refine wp_region_apart (k := 6) (D := [11, 12, 13, 14, 5, 6]) (T := [[], [0], [], [0, 1, 2], [], [], [0, 1, 2, 3, 4, 5], [0, 1, 2, 3, 4, 5, 6]]) (EK := [2, 3]) (EV := [?e1x0, ?e1x1]) (VL := [(kv ?v1x0), (fun γ => γ 1), (kv ?v1x2), (fun γ => γ 3), (fun γ => γ 4), (fun γ => γ 5)]) (FL := fun γ w' => [True, IsZ w' (γ 1) (x.natAbs : Nat), True, IsZ w' (γ 3) (y.natAbs : Nat), NewAt w' (γ 4) (w.heap.size + 3) #[.bool false, .slice none 0 0] 38, NewAt w' (γ 5) (w.heap.size + 3) #[.bool false, .slice none 0 0] 38]) ?hE1 (by kernel_rfl) (by kernel_rfl) (by rfl) (by kernel_rfl) ?hloc1 ?hmono1 ?hstep1 ?htail1
  case hE1 => refine ⟨?_, ?_, trivial⟩ <;> (simp only [List.getElem?_toArray, List.getElem?_cons_succ, List.getElem?_cons_zero]; rfl)
  case hstep1 =>
    refine ⟨⟨⟨⟨⟨⟨trivial, ?_⟩, ?_⟩, ?_⟩, ?_⟩, ?_⟩, ?_⟩
    · intro γ w' he hf; clear hf; refine ⟨trivial, ?_⟩; intro R hR
      have hc := he.cells
      go_simp
      (try go_ints); (try (rw [if_neg (by omega)])); (try (rw [if_pos (by omega)])); (try go_simp); (try go_ints)
      refine hR _ _ (Ext.refl _) ?_ trivial
      rfl
    · intro γ w' he hf; clear hf; refine ⟨trivial, ?_⟩; intro R hR
      go_simp
      refine Calls.mono (show Calls _ _ _ w' (Gives w' fun r w'' => IsZ w'' (r) (x.natAbs : Nat)) from abs_r _ x w' (HV.out.ext he.a3)) ?_
      rintro e w2 ⟨v, rfl, hv, hx⟩
      exact ⟨v, rfl, hR v w2 hx rfl hv⟩
    · intro γ w' he hf; clear hf; refine ⟨trivial, ?_⟩; intro R hR
      have hc := he.cells
      go_simp
      (try go_ints); (try (rw [if_neg (by omega)])); (try (rw [if_pos (by omega)])); (try go_simp); (try go_ints)
      refine hR _ _ (Ext.refl _) ?_ trivial
      rfl
    · intro γ w' he hf; have f1 : IsZ w' (γ 1) (x.natAbs : Nat) := hf 1 (by decide); clear hf; refine ⟨trivial, ?_⟩; intro R hR
      go_simp
      refine Calls.mono (show Calls _ _ _ w' (Gives w' fun r w'' => IsZ w'' (r) (y.natAbs : Nat)) from abs_r _ y w' (HU.out.ext he.a3)) ?_
      rintro e w2 ⟨v, rfl, hv, hx⟩
      exact ⟨v, rfl, hR v w2 hx rfl hv⟩
    · intro γ w' he hf; clear hf; refine ⟨trivial, ?_⟩; intro R hR
      go_simp
      exact hR _ _ ((Ext.refl _).alloc _) rfl (NewAt.mk (Nat.le_trans (by simp) he.size) (by simp [isDig]))
    · intro γ w' he hf; clear hf; refine ⟨trivial, ?_⟩; intro R hR
      go_simp
      exact hR _ _ ((Ext.refl _).alloc _) rfl (NewAt.mk (Nat.le_trans (by simp) he.size) (by simp [isDig]))
  case hloc1 =>
    exact ⟨⟨⟨⟨⟨⟨trivial, (fun γ γ' h => ⟨rfl, fun _ => rfl⟩)⟩, (fun γ γ' h => ⟨h 1 rfl, fun w' => (congrArg (fun a => IsZ w' (a) (x.natAbs : Nat)) (h 1 rfl))⟩)⟩, (fun γ γ' h => ⟨rfl, fun _ => rfl⟩)⟩, (fun γ γ' h => ⟨h 3 rfl, fun w' => (congrArg (fun a => IsZ w' (a) (y.natAbs : Nat)) (h 3 rfl))⟩)⟩, (fun γ γ' h => ⟨h 4 rfl, fun w' => (congrArg (fun a => NewAt w' (a) (w.heap.size + 3) #[.bool false, .slice none 0 0] 38) (h 4 rfl))⟩)⟩, (fun γ γ' h => ⟨h 5 rfl, fun w' => (congrArg (fun a => NewAt w' (a) (w.heap.size + 3) #[.bool false, .slice none 0 0] 38) (h 5 rfl))⟩)⟩
  case hmono1 =>
    exact ⟨⟨⟨⟨⟨⟨trivial, (fun γ wA w' e h => h)⟩, (fun γ wA w' e h => (show IsZ wA (γ 1) (x.natAbs : Nat) from h).ext e)⟩, (fun γ wA w' e h => h)⟩, (fun γ wA w' e h => (show IsZ wA (γ 3) (y.natAbs : Nat) from h).ext e)⟩, (fun γ wA w' e h => (show NewAt wA (γ 4) (w.heap.size + 3) #[.bool false, .slice none 0 0] 38 from h).ext e)⟩, (fun γ wA w' e h => (show NewAt wA (γ 5) (w.heap.size + 3) #[.bool false, .slice none 0 0] 38 from h).ext e)⟩
  intro γ w1 hx1 hF hA
  have na4x5 : γ 4 ≠ γ 5 := hA 4 5 (by decide) (by decide) (by decide) ⟨_, _, rfl, rfl⟩ ⟨_, _, rfl, rfl⟩
  clear hA
  have p1 : IsZ w1 (γ 1) (x.natAbs : Nat) := Each.get hF 1 (by decide)
  have p3 : IsZ w1 (γ 3) (y.natAbs : Nat) := Each.get hF 3 (by decide)
  have p4 : NewAt w1 (γ 4) (w.heap.size + 3) #[.bool false, .slice none 0 0] 38 := Each.get hF 4 (by decide)
  have p5 : NewAt w1 (γ 5) (w.heap.size + 3) #[.bool false, .slice none 0 0] 38 := Each.get hF 5 (by decide)
  clear hF
  simp only [fillAll, gV, kv, List.getD_cons_zero, List.getD_cons_succ, Act.put, List.setIfInBounds_toArray, List.set_cons_zero, List.set_cons_succ, List.toList_toArray, List.drop_succ_cons, List.drop_zero, List.drop_nil, Nat.zero_add, Nat.reduceAdd]
  generalize γ 1 = g1 at *
  generalize γ 3 = g3 at *
  generalize γ 4 = g4 at *
  generalize γ 5 = g5 at *
  clear γ
  obtain ⟨ga, rfl, hga, ea⟩ := p4
  obtain ⟨gb, rfl, hgb, eb⟩ := p5
  have hab : ga ≠ gb := fun e => na4x5 (by rw [e])
  clear na4x5
  obtain ⟨A1, c1, rfl, q1, q2⟩ := p1.natform
  obtain ⟨A2, c2, rfl, q3, q4⟩ := p3.natform
  obtain ⟨cea0, cea1⟩ := ea.cells2
  have fea := ea.frozen
  obtain ⟨ceb0, ceb1⟩ := eb.cells2
  have feb := eb.frozen
  go_upto_region 2 with (fail)
  obtain ⟨W1, eW, ea', U⟩ := ea.put2 (.bool false) (.slice A1 (sz x.natAbs) c1) rfl rfl
  rw [← eW]
  clear eW ea
  replace p1 := p1.kd U.kd
  replace p3 := p3.kd U.kd
  replace eb := eb.upd U (by simp <;> omega)
  replace hx1 := U.from_ hx1 (by simp <;> omega)
  have ea := ea'
  clear U ea'
  obtain ⟨W2, eW, eb', U⟩ := eb.put2 (.bool false) (.slice A2 (sz y.natAbs) c2) rfl rfl
  rw [← eW]
  clear eW eb
  replace p1 := p1.kd U.kd
  replace p3 := p3.kd U.kd
  replace ea := ea.upd U (by simp <;> omega)
  replace hx1 := U.from_ hx1 (by simp <;> omega)
  have eb := eb'
  clear U eb'
  clear cea0 cea1 ceb0 ceb1 fea feb
  have Hg : Hid (Nat.gcd x.natAbs y.natAbs = G) := Lib.hid HG.out.symm
  clear HV HU HG
  generalize x.natAbs = aa at *
  generalize y.natAbs = bb at *
  by_cases hsm : sz aa ≤ 2 ∧ sz bb ≤ 2
  · obtain ⟨s1, s2⟩ := hsm
    have hA64 : aa < 18446744073709551616 := by rw [← bp_two]; exact Nat.lt_of_lt_of_le (lt_bp_sz aa) (bp_le s1)
    have hB64 : bb < 18446744073709551616 := by rw [← bp_two]; exact Nat.lt_of_lt_of_le (lt_bp_sz bb) (bp_le s2)
    obtain ⟨cea0, cea1⟩ := ea.cells2
    have fea := ea.frozen
    obtain ⟨ceb0, ceb1⟩ := eb.cells2
    have feb := eb.frozen
    have hc1 := hx1.cells
    have hf1 := hx1.frozens
    go_wp2_with fail
    refine wp_region_par (k := 5) (D := [25, 26, 27, 28, 29]) (T := [[], [0], [0, 1], [], [3], [0, 1, 2, 3, 4], [0, 1, 2, 3, 4, 5], [0, 1, 2, 3, 4, 5, 6]]) (EK := [5, 6]) (EV := [?e2x0, ?e2x1]) (VL := [(kv ?v2x0), (kv ?v2x1), (fun γ => γ 2), (kv ?v2x3), (kv ?v2x4)]) (FL := fun γ w' => [True, True, IsU w' (γ 2) aa, True, True]) ?hE2 (by kernel_rfl) (by kernel_rfl) (by rfl) (by kernel_rfl) ?hloc2 ?hmono2 ?hstep2 ?htail2
    case hE2 => refine ⟨?_, ?_, trivial⟩ <;> (simp only [List.getElem?_toArray, List.getElem?_cons_succ, List.getElem?_cons_zero]; rfl)
    case hstep2 =>
      refine ⟨⟨⟨⟨⟨trivial, ?_⟩, ?_⟩, ?_⟩, ?_⟩, ?_⟩
      · intro γ w' he hf; clear hf; refine ⟨trivial, ?_⟩; intro R hR
        have hc := he.cells
        go_simp
        (try go_ints); (try (rw [if_neg (by omega)])); (try (rw [if_pos (by omega)])); (try go_simp); (try go_ints)
        refine hR _ _ (Ext.refl _) ?_ trivial
        rfl
      · intro γ w' he hf; clear hf; refine ⟨trivial, ?_⟩; intro R hR
        have hc := he.cells
        have cq0 := he.cell cea0
        have cq1 := he.cell cea1
        have cq2 := he.cell ceb0
        have cq3 := he.cell ceb1
        go_simp
        (try go_ints); (try (rw [if_neg (by omega)])); (try (rw [if_pos (by omega)])); (try go_simp); (try go_ints)
        refine hR _ _ (Ext.refl _) ?_ trivial
        rfl
      · intro γ w' he hf; clear hf; refine ⟨trivial, ?_⟩; intro R hR
        go_simp
        refine Calls.mono (show Calls _ _ _ w' (Gives w' fun r w'' => IsU w'' (r) aa) from Gives.imp (word_rn _ aa w' ((p1.ext he).natn) s1) fun _ _ h => h) ?_
        rintro e w2 ⟨v, rfl, hv, hx⟩
        exact ⟨v, rfl, hR v w2 hx rfl hv⟩
      · intro γ w' he hf; clear hf; refine ⟨trivial, ?_⟩; intro R hR
        have hc := he.cells
        go_simp
        (try go_ints); (try (rw [if_neg (by omega)])); (try (rw [if_pos (by omega)])); (try go_simp); (try go_ints)
        refine hR _ _ (Ext.refl _) ?_ trivial
        rfl
      · intro γ w' he hf; clear hf; refine ⟨trivial, ?_⟩; intro R hR
        have hc := he.cells
        have cq0 := he.cell cea0
        have cq1 := he.cell cea1
        have cq2 := he.cell ceb0
        have cq3 := he.cell ceb1
        go_simp
        (try go_ints); (try (rw [if_neg (by omega)])); (try (rw [if_pos (by omega)])); (try go_simp); (try go_ints)
        refine hR _ _ (Ext.refl _) ?_ trivial
        rfl
    case hloc2 =>
      exact ⟨⟨⟨⟨⟨trivial, (fun γ γ' h => ⟨rfl, fun _ => rfl⟩)⟩, (fun γ γ' h => ⟨rfl, fun _ => rfl⟩)⟩, (fun γ γ' h => ⟨h 2 rfl, fun w' => (congrArg (fun a => IsU w' (a) aa) (h 2 rfl))⟩)⟩, (fun γ γ' h => ⟨rfl, fun _ => rfl⟩)⟩, (fun γ γ' h => ⟨rfl, fun _ => rfl⟩)⟩
    case hmono2 =>
      exact ⟨⟨⟨⟨⟨trivial, (fun γ wA w' e h => h)⟩, (fun γ wA w' e h => h)⟩, (fun γ wA w' e h => (show IsU wA (γ 2) aa from h).ext e)⟩, (fun γ wA w' e h => h)⟩, (fun γ wA w' e h => h)⟩
    intro γ w3 hx3 hF
    have p2 : IsU w3 (γ 2) aa := Each.get hF 2 (by decide)
    clear hF
    simp only [fillAll, gV, kv, List.getD_cons_zero, List.getD_cons_succ, Act.put, List.setIfInBounds_toArray, List.set_cons_zero, List.set_cons_succ, List.toList_toArray, List.drop_succ_cons, List.drop_zero, List.drop_nil, Nat.zero_add, Nat.reduceAdd]
    generalize γ 2 = g2 at *
    clear γ
    obtain rfl : g2 = .int .u64 aa := p2
    go_wp2_with fail
    refine Calls.mono (word_rn _ bb _ ((p3.ext hx3).natn) s2) ?_
    rintro e w4 ⟨r, rfl, rfl, hx4⟩
    replace hx1 := (hx1.trans hx3).trans hx4
    clear hc1 hf1 cea0 cea1 ceb0 ceb1 fea feb hx3 hx4 ea eb p1 p3 q1 q2 q3 q4
    go_wp2
    go_loopw [7, 8] (fun av bv wx => ∃ A' B' : Nat, av = .int .u64 A' ∧ bv = .int .u64 B' ∧ Nat.gcd A' B' = G ∧ A' < 18446744073709551616 ∧ B' < 18446744073709551616 ∧ Ext w4 wx) (fun _ bv _ => (intOf bv).toNat)
    case atStart => exact ⟨aa, bb, rfl, rfl, Hg.out, hA64, hB64, Ext.refl _⟩
    case round =>
      obtain ⟨A', B', rfl, rfl, hg, k1, k2, hx'⟩ := hrel
      have Hg' := Lib.hid hg; clear hg
      by_cases hB0 : B' = 0
      · subst hB0
        go_wp2_with fail
        refine Calls.mono (split_r A' _ k1) ?_
        rintro e w5 ⟨r, rfl, hr, hx5⟩
        have hg := Hg'.out
        rw [Nat.gcd_zero_right] at hg
        subst hg
        replace hx1 := (hx1.trans hx').trans hx5
        clear hx' hx5
        have hc1 := hx1.cells
        have hf1 := hx1.frozens
        have hs2 : sz A' ≤ 2 := sz_le_of_lt (by rw [bp_two]; exact k1)
        go_wp2_with fail
        refine Calls.mono (signed_r (A' : Int) false _ A' _ _ rfl (hr.num hs2) (by omega)) ?_
        rintro e w6 ⟨r, rfl, hr, hx6⟩
        replace hx1 := hx1.trans hx6
        clear hc1 hf1 hx6
        obtain ⟨b5, A5, n5, c5, rfl⟩ := hr.cells
        have hc1 := hx1.cells
        have hf1 := hx1.frozens
        have Hfin := Lib.hid (fin_z hr hx1.a3 (NoDig.at_ hx1 (g := w.heap.size + 2) (by simp) (by simp [isDig])) (by omega))
        clear hr
        go_wp2
        refine bodyPost_ret (v := .agg #[.bool b5, .slice A5 n5 c5]) (by simp [results, Tryz.results86, go_sem, hc1]) rfl ?_
        exact Hfin.out
      · have hp : (1 : Int) ≤ B' := by omega
        have hb : ((B' : Int) != 0) = true := by simp; omega
        go_wp2
        go_quiet (fail)
        go_wp2
        go_roundw
        case rel => exact ⟨B', A' % B', by simp, by simp, by rw [gcd_step, Hg'.out], k2, by have := Nat.mod_lt A' (show 0 < B' by omega); omega, hx'.drewN _⟩
        case measure =>
          have := Nat.mod_lt A' (show 0 < B' by omega)
          simp only [intOf, Array.getD, Int.toNat_natCast] <;> simp <;> omega
  · have hcase : 2 < sz aa ∨ (sz aa ≤ 2 ∧ 2 < sz bb) := by omega
    clear hsm
    obtain ⟨cea0, cea1⟩ := ea.cells2
    have fea := ea.frozen
    obtain ⟨ceb0, ceb1⟩ := eb.cells2
    have feb := eb.frozen
    rcases hcase with hcase | ⟨hcase, hcase2⟩
    all_goals
      go_wp2
      clear cea0 cea1 ceb0 ceb1 fea feb hcase
      go_loopw [] (fun wr => ∃ (a b : Nat) (A1 A2 : Option Addr) (c1 c2 : Nat), Box wr ga 38 #[.bool false, .slice A1 (sz a) c1] ∧ Box wr gb 38 #[.bool false, .slice A2 (sz b) c2] ∧ IsZ wr (.agg #[.bool false, .slice A1 (sz a) c1]) (a : Nat) ∧ IsZ wr (.agg #[.bool false, .slice A2 (sz b) c2]) (b : Nat) ∧ sz a ≤ 549755813888 ∧ sz b ≤ 549755813888 ∧ Nat.gcd a b = G ∧ Ext (((w.alloc (.cells #[.bool neg, .slice A n c] 38)).alloc (.cells #[.bool neg', .slice A' n' c'] 38)).alloc (.cells #[.bool false, .slice none 0 0] 38)) wr) (fun wr => boxNat gb wr)
      case atStart => exact ⟨aa, bb, A1, A2, c1, c2, ea, eb, p1, p3, sx, sy, Hg.out, hx1⟩
      case round =>
        clear ea eb p1 p3 sx sy q1 q2 q3 q4 Hg hx1
        obtain ⟨a, b, B1, B2, d1, d2, ea, eb, p1, p3, sx, sy, hg, hx1⟩ := hrel
        have Hg := Lib.hid hg; clear hg
        obtain ⟨cea0, cea1⟩ := ea.cells2
        have fea := ea.frozen
        obtain ⟨ceb0, ceb1⟩ := eb.cells2
        have feb := eb.frozen
        have hc1 := hx1.cells
        have hf1 := hx1.frozens
        by_cases hb0 : b = 0
        · have hb : decide (0 < sz b) = false := by rw [hb0]; rfl
          have hga : a = G := by rw [← Hg.out, hb0, Nat.gcd_zero_right]
          rw [hga] at p1 cea1
          have Hfin := Lib.hid (fin_z p1 hx1.a3 (NoDig.at_ hx1 (g := w.heap.size + 2) (by simp) (by simp [isDig])) (by omega))
          clear p1 p3 hga hb0
          go_wp2
          refine bodyPost_ret (v := .agg #[.bool false, .slice B1 (sz G) d1]) (by simp [results, Tryz.results86, go_sem, hc1]) rfl ?_
          exact Hfin.out
        · have hb : decide (0 < sz b) = true := by have := sz_pos hb0; simpa using this
          have hbz : (b : Int) ≠ 0 := by omega
          have hm0 := boxNat_eq ceb1 p3.natn
          have hmod := Nat.mod_lt a (show 0 < b by omega)
          have Hm := Lib.hid (And.intro hm0 hmod); clear hm0 hmod hb0
          go_wp2_with fail
          refine Calls.mono (euclid_r _ _ a b _ (p1.has (by rw [Int.natAbs_natCast]; omega)) (p3.has (by rw [Int.natAbs_natCast]; omega)) hbz (by rw [Int.natAbs_natCast]; exact sx) (by rw [Int.natAbs_natCast]; exact sy)) ?_
          rintro e w3 ⟨r, rfl, ⟨q, r3, rfl, hq, hr⟩, hx2⟩
          rw [← Int.natCast_emod] at hr
          obtain ⟨A3, c3, rfl, e1, e2⟩ := hr.natform
          obtain ⟨b6, A6, n6, c6, rfl⟩ := hq.cells
          clear hc1 hf1 cea0 cea1 ceb0 ceb1 fea feb hq
          replace p1 := p1.ext hx2
          replace p3 := p3.ext hx2
          replace ea := ea.ext hx2
          replace eb := eb.ext hx2
          replace hx1 := hx1.trans hx2
          clear hx2
          go_upto_region 9 with (fail)
          obtain ⟨w5, hw5⟩ : ∃ w5, w5 = (w3.alloc (.cells #[.bool b6, .slice A6 n6 c6] 38)).alloc (.cells #[.bool false, .slice A3 (sz (a % b)) c3] 38) := ⟨_, rfl⟩
          have hx2 : Ext w3 w5 := by rw [hw5]; exact ((Ext.refl w3).alloc _).alloc _
          have hs3 : (w3.alloc (.cells #[.bool b6, .slice A6 n6 c6] 38)).heap.size = w3.heap.size + 1 := by simp
          have ed : Box w5 (w3.heap.size + 1) 38 #[.bool false, .slice A3 (sz (a % b)) c3] := by rw [hw5, ← hs3]; exact Box.new _ _ _ (by simp [isDig])
          rw [← hw5]
          have hda : w3.heap.size + 1 ≠ ga := by have := ea.lt; omega
          have hdb : w3.heap.size + 1 ≠ gb := by have := eb.lt; omega
          generalize w3.heap.size + 1 = gd at *
          generalize w3.heap.size = ge at *
          clear hw5 hs3
          replace p1 := p1.ext hx2
          replace p3 := p3.ext hx2
          replace hr := hr.ext hx2
          replace ea := ea.ext hx2
          replace eb := eb.ext hx2
          replace hx1 := hx1.trans hx2
          clear hx2
          obtain ⟨cea0, cea1⟩ := ea.cells2
          have fea := ea.frozen
          obtain ⟨ceb0, ceb1⟩ := eb.cells2
          have feb := eb.frozen
          obtain ⟨ced0, ced1⟩ := ed.cells2
          have fed := ed.frozen
          go_upto_region 10 with (fail)
          obtain ⟨W1, eW, ea', U⟩ := ea.put2 (.bool false) (.slice B2 (sz b) d2) rfl rfl
          rw [← eW]
          clear eW ea
          replace p3 := p3.kd U.kd
          replace hr := hr.kd U.kd
          replace eb := eb.upd U (by simp <;> omega)
          replace ed := ed.upd U (by simp <;> omega)
          replace hx1 := U.from_ hx1 (by simp <;> omega)
          have ea := ea'
          clear U ea'
          clear cea0 cea1 ceb0 ceb1 fea feb ced0 ced1 fed
          obtain ⟨cea0, cea1⟩ := ea.cells2
          have fea := ea.frozen
          obtain ⟨ceb0, ceb1⟩ := eb.cells2
          have feb := eb.frozen
          obtain ⟨ced0, ced1⟩ := ed.cells2
          have fed := ed.frozen
          go_wp2
          obtain ⟨W2, eW, eb', U⟩ := eb.put2 (.bool false) (.slice A3 (sz (a % b)) c3) rfl rfl
          rw [← eW]
          clear eW eb
          replace p3 := p3.kd U.kd
          replace hr := hr.kd U.kd
          replace ea := ea.upd U (by simp <;> omega)
          replace hx1 := U.from_ hx1 (by simp <;> omega)
          have eb := eb'
          clear U eb'
          clear cea0 cea1 ceb0 ceb1 fea feb ced0 ced1 fed ed
          obtain ⟨ceb0, ceb1⟩ := eb.cells2
          have feb := eb.frozen
          go_roundw
          case rel => exact ⟨b, a % b, B2, A3, d2, c3, ea, eb, p3, hr, sy, Nat.le_trans (sz_mono (Nat.mod_le _ _)) sx, by rw [gcd_step, Hg.out], hx1⟩
          case measure => rw [Hm.out.1, boxNat_eq ceb1 hr.natn]; exact Hm.out.2
end Go.Proofs.YtedoifjbgokmcaaGreat
namespace Go.Proofs.YtedoifjbgokmcaaGreat
open Go.RowKit Go.Hp
theorem gcd_z (v u : Value) (x y : Int) (w : World) (hv : HasZ w v x) (hu : HasZ w u y) : Calls Tryz.prog 79 #[v, u] w (Gives w fun r w' => IsZ w' r (Int.gcd x y : Nat)) := by
  obtain ⟨neg, A, n, c, N, rfl, h1, h2, h3, hN, hx⟩ := hv.form
  obtain ⟨neg', A', n', c', M, rfl, k1, k2, k3, kN, hy⟩ := hu.form
  have HN := Lib.hid hN; have HM := Lib.hid kN; clear hN hv hu kN
  have hs : sz N ≤ n := HN.out.sz
  have hs' : sz M ≤ n' := HM.out.sz
  have hg : Int.gcd x y = Nat.gcd N M := by unfold Int.gcd; rw [hx, hy]; cases neg <;> cases neg' <;> simp
  rw [hg]
  clear hx hy hg
  go_enter Tryz.func79, Tryz.ntmps79
  go_wp2_with fail
  refine wp_region_par (k := 5) (D := [5, 6, 7, 8, 9]) (T := [[], [0], [0, 1], [], [3], [0, 1, 2, 3, 4], [0, 1, 2, 3, 4, 5], [0, 1, 2, 3, 4, 5, 6], [0, 1, 2, 3, 4, 5, 6, 7]]) (EK := [2, 3]) (EV := [?e1x0, ?e1x1]) (VL := [(kv ?v1x0), (kv ?v1x1), (fun γ => γ 2), (kv ?v1x3), (kv ?v1x4)]) (FL := fun γ w' => [True, True, NatV w' (γ 2) N, True, True]) ?hE1 (by kernel_rfl) (by kernel_rfl) (by rfl) (by kernel_rfl) ?hloc1 ?hmono1 ?hstep1 ?htail1
  case hE1 => refine ⟨?_, ?_, trivial⟩ <;> (simp only [List.getElem?_toArray, List.getElem?_cons_succ, List.getElem?_cons_zero]; rfl)
  case hstep1 =>
    refine ⟨⟨⟨⟨⟨trivial, ?_⟩, ?_⟩, ?_⟩, ?_⟩, ?_⟩
    · intro γ w' he hf; clear hf; refine ⟨trivial, ?_⟩; intro R hR
      have hc := he.cells
      go_simp
      (try go_ints); (try (rw [if_neg (by omega)])); (try (rw [if_pos (by omega)])); (try go_simp); (try go_ints)
      refine hR _ _ (Ext.refl _) ?_ trivial
      rfl
    · intro γ w' he hf; clear hf; refine ⟨trivial, ?_⟩; intro R hR
      have hc := he.cells
      go_simp
      (try go_ints); (try (rw [if_neg (by omega)])); (try (rw [if_pos (by omega)])); (try go_simp); (try go_ints)
      refine hR _ _ (Ext.refl _) ?_ trivial
      rfl
    · intro γ w' he hf; clear hf; refine ⟨trivial, ?_⟩; intro R hR
      go_simp
      refine Calls.mono (show Calls _ _ _ w' (Gives w' fun r w'' => NatV w'' (r) N) from trimmed_num _ N n w' (HN.out.ext he.a3)) ?_
      rintro e w2 ⟨v, rfl, hv, hx⟩
      exact ⟨v, rfl, hR v w2 hx rfl hv⟩
    · intro γ w' he hf; clear hf; refine ⟨trivial, ?_⟩; intro R hR
      have hc := he.cells
      go_simp
      (try go_ints); (try (rw [if_neg (by omega)])); (try (rw [if_pos (by omega)])); (try go_simp); (try go_ints)
      refine hR _ _ (Ext.refl _) ?_ trivial
      rfl
    · intro γ w' he hf; clear hf; refine ⟨trivial, ?_⟩; intro R hR
      have hc := he.cells
      go_simp
      (try go_ints); (try (rw [if_neg (by omega)])); (try (rw [if_pos (by omega)])); (try go_simp); (try go_ints)
      refine hR _ _ (Ext.refl _) ?_ trivial
      rfl
  case hloc1 =>
    exact ⟨⟨⟨⟨⟨trivial, (fun γ γ' h => ⟨rfl, fun _ => rfl⟩)⟩, (fun γ γ' h => ⟨rfl, fun _ => rfl⟩)⟩, (fun γ γ' h => ⟨h 2 rfl, fun w' => (congrArg (fun a => NatV w' (a) N) (h 2 rfl))⟩)⟩, (fun γ γ' h => ⟨rfl, fun _ => rfl⟩)⟩, (fun γ γ' h => ⟨rfl, fun _ => rfl⟩)⟩
  case hmono1 =>
    exact ⟨⟨⟨⟨⟨trivial, (fun γ wA w' e h => h)⟩, (fun γ wA w' e h => h)⟩, (fun γ wA w' e h => (show NatV wA (γ 2) N from h).ext e)⟩, (fun γ wA w' e h => h)⟩, (fun γ wA w' e h => h)⟩
  intro γ w1 hx1 hF
  have p2 : NatV w1 (γ 2) N := Each.get hF 2 (by decide)
  clear hF
  simp only [fillAll, gV, kv, List.getD_cons_zero, List.getD_cons_succ, Act.put, List.setIfInBounds_toArray, List.set_cons_zero, List.set_cons_succ, List.toList_toArray, List.drop_succ_cons, List.drop_zero, List.drop_nil, Nat.zero_add, Nat.reduceAdd]
  generalize γ 2 = g2 at *
  clear γ
  go_wp2_with fail
  refine Calls.mono (trimmed_num _ M n' w1 (HM.out.ext hx1.a3)) ?_
  rintro e w2 ⟨r2, rfl, hr2, hx2⟩
  replace p2 := p2.ext hx2
  replace hx1 := hx1.trans hx2
  clear hx2
  go_wp2_with fail
  refine Calls.mono (common_nat _ _ N M w2 p2 hr2 (by omega) (by omega)) ?_
  rintro e w3 ⟨r3, rfl, hr3, hx2⟩
  replace hx1 := hx1.trans hx2
  clear hx2 p2 hr2
  go_wp2_with fail
  refine Calls.mono (signed_z (Nat.gcd N M : Nat) false _ (Nat.gcd N M) _ w3 rfl (hr3.num (Nat.le_refl _))) ?_
  rintro e w4 ⟨r, rfl, hr, hx2⟩
  obtain ⟨b, A2, n2, c2, rfl⟩ := hr.cells
  replace hx1 := hx1.trans hx2
  have hc1 := hx1.cells
  have hf1 := hx1.frozens
  have Hfin := Lib.hid (fin_z hr hx1.a3 (NoDig.at_ hx1 (g := w.heap.size + 2) (by simp) (by simp [isDig])) (by omega))
  clear hr hr3
  go_wp2
  refine bodyPost_ret (v := .agg #[.bool b, .slice A2 n2 c2]) (by simp [results, Tryz.results79, go_sem, hc1]) rfl ?_
  exact Hfin.out
set_option maxHeartbeats 1000000 in
theorem exact_z (v u : Value) (x y : Int) (w : World) (hv : HasZ w v x) (hu : HasZ w u y) (h0 : y ≠ 0) (hd : y ∣ x) : Calls Tryz.prog 78 #[v, u] w (Gives w fun r w' => ∃ a, r = .tuple #[a, .int .i64 0] ∧ IsZ w' a (x / y)) := by
  have Hv := Lib.hid hv; have Hu := Lib.hid hu
  obtain ⟨neg, A, n, c, N, rfl, h1, h2, h3, hN, hx⟩ := hv.form
  obtain ⟨neg', A', n', c', M, rfl, k1, k2, k3, kN, hy⟩ := hu.form
  clear hN hx hv hu kN hy
  have H0 := Lib.hid h0; have Hd := Lib.hid hd; clear h0 hd
  go_enter Tryz.func78, Tryz.ntmps78
  go_wp2_with fail
  refine Calls.mono (divmod_z _ _ x y _ (Hv.out.ext ((((Ext.refl w).alloc _).alloc _).alloc _)) (Hu.out.ext ((((Ext.refl w).alloc _).alloc _).alloc _))) ?_
  rintro e w1 ⟨r, rfl, ⟨q, m, rfl, hq, hm⟩, hx1⟩
  rw [if_neg H0.out, Int.emod_eq_zero_of_dvd Hd.out] at hm
  rw [if_neg H0.out]
  obtain ⟨b, A1, n1, c1, rfl⟩ := hq.cells
  obtain ⟨A2, c2, rfl⟩ : ∃ A2 c2, m = .agg #[.bool false, .slice A2 0 c2] := by obtain ⟨A, c, e, _⟩ := hm.form; exact ⟨A, c, e⟩
  have Hq := Lib.hid hq; clear hq hm
  have hx2 := (hx1.alloc (Obj.cells #[Value.bool b, Value.slice A1 n1 c1] 38)).alloc (Obj.cells #[Value.bool false, Value.slice A2 0 c2] 38)
  have hc2 := hx2.cells
  have hf2 := hx2.frozens
  have Hfin := Lib.hid (fin_z (Hq.out.ext (((Ext.refl w1).alloc _).alloc _)) hx2.a3 (NoDig.at_ hx2 (g := w.heap.size + 1 + 1) (by simp) (by simp [isDig])) (by omega))
  have hc1 := hx1.cells
  have hf1 := hx1.frozens
  go_wp2
  refine bodyPost_ret (v := .tuple #[.agg #[.bool b, .slice A1 n1 c1], .int .i64 0]) (by simp [results, Tryz.results78, go_sem, hc2]) rfl ?_
  obtain ⟨r, e, hr, hx⟩ := Hfin.out
  cases e
  exact Gives.mk ⟨_, rfl, hr⟩ hx
end Go.Proofs.YtedoifjbgokmcaaGreat
namespace Go.Hp
theorem IsZ.parts {w : World} {v : Value} {x : Int} (h : IsZ w v x) : ∃ b A n c, v = .agg #[.bool b, .slice A n c] ∧ n = sz x.natAbs ∧ b = decide (x < 0) := by
  obtain ⟨A, c, e, _⟩ := h.form; exact ⟨_, _, _, _, e, rfl, rfl⟩
theorem sz_b0 {x : Int} (h : x = 0) : (((sz x.natAbs : Nat) : Int) == 0) = true := by subst h; rfl
theorem sz_b1 {x : Int} (h : x ≠ 0) : (((sz x.natAbs : Nat) : Int) == 0) = false := by
  have := sz_pos (n := x.natAbs) (by omega); simp; omega
theorem divInt_one (p : Int) : (Rat.divInt p 1).num = p ∧ ((Rat.divInt p 1).den : Int) = 1 := by
  rw [Rat.num_divInt, Rat.den_divInt]; simp
theorem divInt_parts {p q : Int} (hq : 0 < q) : (Rat.divInt p q).num = p / (Int.gcd p q : Nat) ∧ ((Rat.divInt p q).den : Int) = q / (Int.gcd p q : Nat) := by
  have hq0 : q ≠ 0 := by omega
  rw [Rat.num_divInt, Rat.den_divInt, if_neg hq0, Int.sign_eq_one_of_pos hq, Int.one_mul, Int.gcd_comm q p]
  refine ⟨rfl, ?_⟩
  have : ((q.natAbs : Nat) : Int) = q := by omega
  rw [Int.natCast_ediv, this]
theorem gcd_small {p q : Int} (hq : 0 < q) {k : Nat} (h : sz q.natAbs ≤ k) : sz ((Int.gcd p q : Nat) : Int).natAbs ≤ k := by
  refine Nat.le_trans (sz_mono ?_) h
  rw [Int.natAbs_natCast]
  exact Nat.le_of_dvd (by omega) (Nat.gcd_dvd_right _ _)
end Go.Hp
namespace Go.Proofs.YtedoifjbgokmcaaGreat
open Go.RowKit Go.Hp
theorem IsQ.mk_ {w : World} {b b' : Bool} {A A' : Option Addr} {n c n' c' : Nat} {q : Rat} {x y : Int} (h1 : IsZ w (.agg #[.bool b, .slice A n c]) x) (h2 : IsZ w (.agg #[.bool b', .slice A' n' c']) y) (e1 : x = q.num) (e2 : y = q.den) : IsQ w (.agg #[.bool b, .slice A n c, .bool b', .slice A' n' c']) q :=
  ⟨b, A, n, c, b', A', n', c', rfl, e1 ▸ h1, e2 ▸ h2⟩
set_option maxHeartbeats 4000000 in
theorem over_q (v u : Value) (x y : Int) (w : World) (hv : HasZ w v x) (hu : HasZ w u y) : Calls Tryz.prog 97 #[v, u] w (Gives w fun r w' => IsQ w' r (Rat.divInt x y)) := by
  have Hv := Lib.hid hv; have Hu := Lib.hid hu
  have hsx := hv.sz; have hsy := hu.sz
  obtain ⟨neg, A, n, c, N, rfl, h1, h2, h3, hN, hx⟩ := hv.form
  obtain ⟨neg', A', n', c', M, rfl, k1, k2, k3, kN, hy⟩ := hu.form
  clear hN hx hv hu kN hy
  go_enter Tryz.func97, Tryz.ntmps97
  go_wp2_with fail
  refine wp_region_par (k := 3) (D := [6, 7, 8]) (T := [[], [0], [], [0, 1, 2], [0, 1, 2, 3], [0, 1, 2, 3, 4]]) (EK := [2, 3]) (EV := [?e1x0, ?e1x1]) (VL := [(kv ?v1x0), (fun γ => γ 1), (kv ?v1x2)]) (FL := fun γ w' => [True, IsZ w' (γ 1) x, True]) ?hE1 (by kernel_rfl) (by kernel_rfl) (by rfl) (by kernel_rfl) ?hloc1 ?hmono1 ?hstep1 ?htail1
  case hE1 => refine ⟨?_, ?_, trivial⟩ <;> (simp only [List.getElem?_toArray, List.getElem?_cons_succ, List.getElem?_cons_zero]; rfl)
  case hstep1 =>
    refine ⟨⟨⟨trivial, ?_⟩, ?_⟩, ?_⟩
    · intro γ w' he hf; clear hf; refine ⟨trivial, ?_⟩; intro R hR
      have hc := he.cells
      go_simp
      (try go_ints); (try (rw [if_neg (by omega)])); (try (rw [if_pos (by omega)])); (try go_simp); (try go_ints)
      refine hR _ _ (Ext.refl _) ?_ trivial
      rfl
    · intro γ w' he hf; clear hf; refine ⟨trivial, ?_⟩; intro R hR
      go_simp
      refine Calls.mono (show Calls _ _ _ w' (Gives w' fun r w'' => IsZ w'' (r) x) from normal_z _ x w' (Hv.out.ext he.a3)) ?_
      rintro e w2 ⟨v, rfl, hv, hx⟩
      exact ⟨v, rfl, hR v w2 hx rfl hv⟩
    · intro γ w' he hf; clear hf; refine ⟨trivial, ?_⟩; intro R hR
      have hc := he.cells
      go_simp
      (try go_ints); (try (rw [if_neg (by omega)])); (try (rw [if_pos (by omega)])); (try go_simp); (try go_ints)
      refine hR _ _ (Ext.refl _) ?_ trivial
      rfl
  case hloc1 =>
    exact ⟨⟨⟨trivial, (fun γ γ' h => ⟨rfl, fun _ => rfl⟩)⟩, (fun γ γ' h => ⟨h 1 rfl, fun w' => (congrArg (fun a => IsZ w' (a) x) (h 1 rfl))⟩)⟩, (fun γ γ' h => ⟨rfl, fun _ => rfl⟩)⟩
  case hmono1 =>
    exact ⟨⟨⟨trivial, (fun γ wA w' e h => h)⟩, (fun γ wA w' e h => (show IsZ wA (γ 1) x from h).ext e)⟩, (fun γ wA w' e h => h)⟩
  intro γ w1 hx1 hF
  have p1 : IsZ w1 (γ 1) x := Each.get hF 1 (by decide)
  clear hF
  simp only [fillAll, gV, kv, List.getD_cons_zero, List.getD_cons_succ, Act.put, List.setIfInBounds_toArray, List.set_cons_zero, List.set_cons_succ, List.toList_toArray, List.drop_succ_cons, List.drop_zero, List.drop_nil, Nat.zero_add, Nat.reduceAdd]
  generalize γ 1 = g1 at *
  clear γ
  go_wp2_with fail
  refine Calls.mono (normal_z _ y w1 (Hu.out.ext hx1.a3)) ?_
  rintro e w2 ⟨r, rfl, hr, hx2⟩
  replace p1 := p1.ext hx2
  replace hx1 := hx1.trans hx2
  obtain ⟨b1, A1, n1, c1, rfl, hn1, hb1'⟩ := p1.parts
  obtain ⟨b2, A2, n2, c2, rfl, hn2, hb2'⟩ := hr.parts
  have e0 : Box w2 w.heap.size 38 #[.bool neg, .slice A n c] := (Box.new w _ _ (by simp [isDig])).ext hx1.a1.a1
  have e1 : Box w2 (w.heap.size + 1) 38 #[.bool neg', .slice A' n' c'] := by
    have := (Box.new (w.alloc _) _ _ (by simp [isDig])).ext hx1.a1; simpa using this
  have e2 : Box w2 (w.heap.size + 1 + 1) 40 #[.bool false, .slice none 0 0, .bool false, .slice none 0 0] := by
    have := (Box.new ((w.alloc _).alloc _) _ _ (by simp [isDig])).ext hx1; simpa using this
  replace hx1 := hx1.a3
  obtain ⟨ce00, ce01⟩ := e0.cells2
  have fe0 := e0.frozen
  obtain ⟨ce10, ce11⟩ := e1.cells2
  have fe1 := e1.frozen
  obtain ⟨ce20, ce21, ce22, ce23⟩ := e2.cells4
  have fe2 := e2.frozen
  have Hn1 := Lib.hid (And.intro hn1 hb1'); have Hn2 := Lib.hid (And.intro hn2 hb2')
  clear hn1 hb1' hn2 hb2'
  go_upto_block 0 with (fail)
  obtain ⟨W1, eW, e0', U⟩ := e0.put2 (.bool b1) (.slice A1 n1 c1) rfl rfl
  rw [← eW]
  clear eW e0
  replace p1 := p1.kd U.kd
  replace hr := hr.kd U.kd
  replace e1 := e1.upd U (by simp <;> omega)
  replace e2 := e2.upd U (by simp <;> omega)
  replace hx1 := U.from_ hx1 (by simp <;> omega)
  have e0 := e0'
  clear U e0'
  obtain ⟨W2, eW, e1', U⟩ := e1.put2 (.bool b2) (.slice A2 n2 c2) rfl rfl
  rw [← eW]
  clear eW e1
  replace p1 := p1.kd U.kd
  replace hr := hr.kd U.kd
  replace e0 := e0.upd U (by simp <;> omega)
  replace e2 := e2.upd U (by simp <;> omega)
  replace hx1 := U.from_ hx1 (by simp <;> omega)
  have e1 := e1'
  clear U e1'
  clear ce00 ce01 fe0 ce10 ce11 fe1 ce20 ce21 ce22 ce23 fe2
  obtain ⟨ce00, ce01⟩ := e0.cells2
  have fe0 := e0.frozen
  obtain ⟨ce10, ce11⟩ := e1.cells2
  have fe1 := e1.frozen
  obtain ⟨ce20, ce21, ce22, ce23⟩ := e2.cells4
  have fe2 := e2.frozen
  clear hx2
  go_cut [] (fun wx => ∃ (p q : Int) (b1 : Bool) (A1 : Option Addr) (n1 c1 : Nat) (b2 : Bool) (A2 : Option Addr) (n2 c2 : Nat), IsZ wx (.agg #[.bool b1, .slice A1 n1 c1]) p ∧ IsZ wx (.agg #[.bool b2, .slice A2 n2 c2]) q ∧ 0 < q ∧ Rat.divInt x y = Rat.divInt p q ∧ sz p.natAbs ≤ 1099511627776 ∧ sz q.natAbs ≤ 1099511627776 ∧ Box wx w.heap.size 38 #[.bool b1, .slice A1 n1 c1] ∧ Box wx (w.heap.size + 1) 38 #[.bool b2, .slice A2 n2 c2] ∧ Box wx (w.heap.size + 1 + 1) 40 #[.bool false, .slice none 0 0, .bool false, .slice none 0 0] ∧ Ext w wx)
  case first =>
    by_cases hz : y = 0 ∨ x = 0
    · have hq : Rat.divInt x y = 0 := by rcases hz with h | h <;> simp [h]
      have hbb : (((n2 : Nat) : Int) == 0) = true ∨ ((((n2 : Nat) : Int) == 0) = false ∧ (((n1 : Nat) : Int) == 0) = true) := by
        rw [Hn1.out.1, Hn2.out.1]
        by_cases hy0 : y = 0
        · exact .inl (sz_b0 hy0)
        · exact .inr ⟨sz_b1 hy0, sz_b0 (hz.resolve_left hy0)⟩
      have Hq := Lib.hid hq; clear hq hz
      rcases hbb with hb1 | ⟨hb1, hb2⟩
      all_goals
        go_wp2_with fail
        refine Calls.mono (of_z 1 _ (by omega) (by omega)) ?_
        rintro e w3 ⟨r, rfl, hr1, hx3⟩
        obtain ⟨b3, A3, n3, c3, rfl⟩ := hr1.cells
        clear p1 hr ce00 ce01 fe0 ce10 ce11 fe1 ce20 ce21 ce22 ce23 fe2
        replace e2 := e2.ext hx3
        replace hx1 := hx1.trans hx3
        clear hx3
        obtain ⟨ce20, ce21, ce22, ce23⟩ := e2.cells4
        have fe2 := e2.frozen
        go_wp2
        try clear ce00 ce01 fe0 ce10 ce11 fe1
        clear ce20 ce21 ce22 ce23 fe2
        obtain ⟨W9, eW, e2', U⟩ := e2.put4 (.bool false) (.slice none 0 0) (.bool b3) (.slice A3 n3 c3) rfl rfl rfl rfl
        rw [← eW]
        clear eW e2
        replace hr1 := hr1.kd U.kd
        replace hx1 := U.from_ hx1 (by simp <;> omega)
        have e2 := e2'
        clear U e2'
        obtain ⟨ce20, ce21, ce22, ce23⟩ := e2.cells4
        have fe2 := e2.frozen
        refine bodyPost_ret (v := .agg #[.bool false, .slice none 0 0, .bool b3, .slice A3 n3 c3]) (by simp [results, Tryz.results97, go_sem, ce20, ce21, ce22, ce23]) rfl ?_
        exact Gives.mk (IsQ.mk_ (IsZ.zero _) hr1 (by rw [Hq.out]; rfl) (by rw [Hq.out]; rfl)) hx1
    · have hy0 : y ≠ 0 := fun h => hz (.inl h)
      have hx0 : x ≠ 0 := fun h => hz (.inr h)
      have hb1 : (((n2 : Nat) : Int) == 0) = false := by rw [Hn2.out.1]; exact sz_b1 hy0
      have hb2 : (((n1 : Nat) : Int) == 0) = false := by rw [Hn1.out.1]; exact sz_b1 hx0
      have Hp1 := Lib.hid p1; have Hp2 := Lib.hid hr; clear p1 hr
      by_cases hyn : y < 0
      · obtain rfl : b2 = true := by rw [Hn2.out.2]; simpa using hyn
        have Hy := Lib.hid (And.intro hyn hy0); clear hyn hy0 hx0 hz
        go_wp2
        refine wp_region_par (k := 3) (D := [26, 27, 28]) (T := [[], [0], [], [0, 1, 2], [0, 1, 2, 3], [0, 1, 2, 3, 4]]) (EK := [2, 3]) (EV := [?e2x0, ?e2x1]) (VL := [(kv ?v2x0), (fun γ => γ 1), (kv ?v2x2)]) (FL := fun γ w' => [True, IsZ w' (γ 1) (-x), True]) ?hE2 (by kernel_rfl) (by kernel_rfl) (by rfl) (by kernel_rfl) ?hloc2 ?hmono2 ?hstep2 ?htail2
        case hE2 => refine ⟨?_, ?_, trivial⟩ <;> (simp only [List.getElem?_toArray, List.getElem?_cons_succ, List.getElem?_cons_zero]; rfl)
        case hstep2 =>
          refine ⟨⟨⟨trivial, ?_⟩, ?_⟩, ?_⟩
          · intro γ w' he hf; clear hf; refine ⟨trivial, ?_⟩; intro R hR
            have hc := he.cells
            have cq0 := he.cell ce00
            have cq1 := he.cell ce01
            have cq2 := he.cell ce10
            have cq3 := he.cell ce11
            go_simp
            (try go_ints); (try (rw [if_neg (by omega)])); (try (rw [if_pos (by omega)])); (try go_simp); (try go_ints)
            refine hR _ _ (Ext.refl _) ?_ trivial
            rfl
          · intro γ w' he hf; clear hf; refine ⟨trivial, ?_⟩; intro R hR
            go_simp
            refine Calls.mono (show Calls _ _ _ w' (Gives w' fun r w'' => IsZ w'' (r) (-x)) from neg_z _ x w' ((Hp1.out.ext he).has hsx)) ?_
            rintro e w2 ⟨v, rfl, hv, hx⟩
            exact ⟨v, rfl, hR v w2 hx rfl hv⟩
          · intro γ w' he hf; clear hf; refine ⟨trivial, ?_⟩; intro R hR
            have hc := he.cells
            have cq0 := he.cell ce00
            have cq1 := he.cell ce01
            have cq2 := he.cell ce10
            have cq3 := he.cell ce11
            go_simp
            (try go_ints); (try (rw [if_neg (by omega)])); (try (rw [if_pos (by omega)])); (try go_simp); (try go_ints)
            refine hR _ _ (Ext.refl _) ?_ trivial
            rfl
        case hloc2 =>
          exact ⟨⟨⟨trivial, (fun γ γ' h => ⟨rfl, fun _ => rfl⟩)⟩, (fun γ γ' h => ⟨h 1 rfl, fun w' => (congrArg (fun a => IsZ w' (a) (-x)) (h 1 rfl))⟩)⟩, (fun γ γ' h => ⟨rfl, fun _ => rfl⟩)⟩
        case hmono2 =>
          exact ⟨⟨⟨trivial, (fun γ wA w' e h => h)⟩, (fun γ wA w' e h => (show IsZ wA (γ 1) (-x) from h).ext e)⟩, (fun γ wA w' e h => h)⟩
        intro γ w3 hx3 hF
        have p1 : IsZ w3 (γ 1) (-x) := Each.get hF 1 (by decide)
        clear hF
        simp only [fillAll, gV, kv, List.getD_cons_zero, List.getD_cons_succ, Act.put, List.setIfInBounds_toArray, List.set_cons_zero, List.set_cons_succ, List.toList_toArray, List.drop_succ_cons, List.drop_zero, List.drop_nil, Nat.zero_add, Nat.reduceAdd]
        generalize γ 1 = g1 at *
        clear γ
        go_wp2_with fail
        refine Calls.mono (neg_z _ y w3 ((Hp2.out.ext hx3).has hsy)) ?_
        rintro e w4 ⟨r, rfl, hr, hx4⟩
        replace p1 := p1.ext hx4
        replace hx3 := hx3.trans hx4
        clear ce00 ce01 fe0 ce10 ce11 fe1 ce20 ce21 ce22 ce23 fe2 Hp1 Hp2
        replace e0 := e0.ext hx3
        replace e1 := e1.ext hx3
        replace e2 := e2.ext hx3
        replace hx1 := hx1.trans hx3
        clear hx3
        obtain ⟨b3, A3, n3, c3, rfl⟩ := p1.cells
        obtain ⟨b4, A4, n4, c4, rfl⟩ := hr.cells
        obtain ⟨ce00, ce01⟩ := e0.cells2
        have fe0 := e0.frozen
        obtain ⟨ce10, ce11⟩ := e1.cells2
        have fe1 := e1.frozen
        go_wp2
        obtain ⟨W3, eW, e0', U⟩ := e0.put2 (.bool b3) (.slice A3 n3 c3) rfl rfl
        rw [← eW]
        clear eW e0
        replace p1 := p1.kd U.kd
        replace hr := hr.kd U.kd
        replace e1 := e1.upd U (by simp <;> omega)
        replace e2 := e2.upd U (by simp <;> omega)
        replace hx1 := U.from_ hx1 (by simp <;> omega)
        have e0 := e0'
        clear U e0'
        obtain ⟨W4, eW, e1', U⟩ := e1.put2 (.bool b4) (.slice A4 n4 c4) rfl rfl
        rw [← eW]
        clear eW e1
        replace p1 := p1.kd U.kd
        replace hr := hr.kd U.kd
        replace e0 := e0.upd U (by simp <;> omega)
        replace e2 := e2.upd U (by simp <;> omega)
        replace hx1 := U.from_ hx1 (by simp <;> omega)
        have e1 := e1'
        clear U e1'
        go_meet
        case rel => exact ⟨-x, -y, b3, A3, n3, c3, b4, A4, n4, c4, p1, hr, by have := Hy.out; omega, by rw [Rat.neg_divInt_neg], by rwa [Int.natAbs_neg], by rwa [Int.natAbs_neg], e0, e1, e2, hx1⟩
      · obtain rfl : b2 = false := by rw [Hn2.out.2]; simpa using hyn
        have Hy := Lib.hid (And.intro hyn hy0); clear hyn hy0 hx0 hz
        go_wp2
        go_meet
        case rel => exact ⟨x, y, b1, A1, n1, c1, false, A2, n2, c2, Hp1.out, Hp2.out, by have := Hy.out; omega, rfl, hsx, hsy, e0, e1, e2, hx1⟩
  case rest =>
    clear ce00 ce01 fe0 ce10 ce11 fe1 ce20 ce21 ce22 ce23 fe2 e0 e1 e2 hx1 p1 hr Hn1 Hn2 Hv Hu
    obtain ⟨p, q, b1, A1, n1, c1, b2, A2, n2, c2, p1, hr, hq0, hpq, hsp, hsq, e0, e1, e2, hx1⟩ := hcut
    have Hpq := Lib.hid hpq
    have Hc := Lib.hid (And.intro hq0 (And.intro hsp hsq)); clear hq0 hpq hsp hsq hsx hsy
    obtain ⟨ce00, ce01⟩ := e0.cells2
    have fe0 := e0.frozen
    obtain ⟨ce10, ce11⟩ := e1.cells2
    have fe1 := e1.frozen
    obtain ⟨ce20, ce21, ce22, ce23⟩ := e2.cells4
    have fe2 := e2.frozen
    go_wp2_with fail
    refine Calls.mono (one_z _ q _ (hr.has Hc.out.2.2)) ?_
    rintro e w3 ⟨r, rfl, ⟨b, rfl, hb⟩, hx3⟩
    replace p1 := p1.ext hx3
    replace hr := hr.ext hx3
    replace e0 := e0.ext hx3
    replace e1 := e1.ext hx3
    replace e2 := e2.ext hx3
    replace hx1 := hx1.trans hx3
    clear hx3
    clear ce00 ce01 fe0 ce10 ce11 fe1 ce20 ce21 ce22 ce23 fe2
    obtain ⟨ce00, ce01⟩ := e0.cells2
    have fe0 := e0.frozen
    obtain ⟨ce10, ce11⟩ := e1.cells2
    have fe1 := e1.frozen
    obtain ⟨ce20, ce21, ce22, ce23⟩ := e2.cells4
    have fe2 := e2.frozen
    cases b
    · clear hb
      go_wp2_with fail
      refine Calls.mono (gcd_z _ _ p q _ (p1.has Hc.out.2.1) (hr.has Hc.out.2.2)) ?_
      rintro e w4 ⟨r, rfl, hg, hx4⟩
      replace p1 := p1.ext hx4
      replace hr := hr.ext hx4
      replace e0 := e0.ext hx4
      replace e1 := e1.ext hx4
      replace e2 := e2.ext hx4
      replace hx1 := hx1.trans hx4
      clear hx4
      clear ce00 ce01 fe0 ce10 ce11 fe1 ce20 ce21 ce22 ce23 fe2
      obtain ⟨b5, A5, n5, c5, rfl⟩ := hg.cells
      obtain ⟨ce00, ce01⟩ := e0.cells2
      have fe0 := e0.frozen
      obtain ⟨ce10, ce11⟩ := e1.cells2
      have fe1 := e1.frozen
      obtain ⟨ce20, ce21, ce22, ce23⟩ := e2.cells4
      have fe2 := e2.frozen
      have hgs := gcd_small (p := p) Hc.out.1 Hc.out.2.2
      have hg0 : ((Int.gcd p q : Nat) : Int) ≠ 0 := by have := Int.gcd_pos_of_ne_zero_right p (show q ≠ 0 by have := Hc.out.1; omega); omega
      have Hg := Lib.hid (And.intro hgs hg0); clear hgs hg0
      have l0 := e0.lt; have l1 := e1.lt; have l2 := e2.lt
      go_wp2_with fail
      obtain ⟨W5, eW5, e5, x5⟩ := Box.made w4 38 #[.bool b5, .slice A5 n5 c5] (by simp [isDig])
      rw [← eW5]
      clear eW5
      replace p1 := p1.ext x5
      replace hr := hr.ext x5
      replace hg := hg.ext x5
      replace e0 := e0.ext x5
      replace e1 := e1.ext x5
      replace e2 := e2.ext x5
      replace hx1 := hx1.trans x5
      clear x5
      clear ce00 ce01 fe0 ce10 ce11 fe1 ce20 ce21 ce22 ce23 fe2
      refine Calls.mono (one_z _ _ _ (hg.has Hg.out.1)) ?_
      rintro e w6 ⟨r, rfl, ⟨b, rfl, hb⟩, hx4⟩
      replace p1 := p1.ext hx4
      replace hr := hr.ext hx4
      replace hg := hg.ext hx4
      replace e0 := e0.ext hx4
      replace e1 := e1.ext hx4
      replace e2 := e2.ext hx4
      replace e5 := e5.ext hx4
      replace hx1 := hx1.trans hx4
      clear hx4
      obtain ⟨ce00, ce01⟩ := e0.cells2
      have fe0 := e0.frozen
      obtain ⟨ce10, ce11⟩ := e1.cells2
      have fe1 := e1.frozen
      obtain ⟨ce20, ce21, ce22, ce23⟩ := e2.cells4
      have fe2 := e2.frozen
      obtain ⟨ce50, ce51⟩ := e5.cells2
      have fe5 := e5.frozen
      cases b
      · clear hb
        go_wp2_with fail
        refine Calls.mono (exact_z _ _ p _ _ (p1.has Hc.out.2.1) (hg.has Hg.out.1) Hg.out.2 (Int.gcd_dvd_left ..)) ?_
        rintro e w7 ⟨r, rfl, ⟨a7, rfl, h7⟩, hx4⟩
        obtain ⟨b7, A7, n7, c7, rfl⟩ := h7.cells
        replace hr := hr.ext hx4
        replace hg := hg.ext hx4
        replace e0 := e0.ext hx4
        replace e1 := e1.ext hx4
        replace e2 := e2.ext hx4
        replace e5 := e5.ext hx4
        replace hx1 := hx1.trans hx4
        clear hx4
        clear ce00 ce01 fe0 ce10 ce11 fe1 ce20 ce21 ce22 ce23 fe2 ce50 ce51 fe5 p1
        obtain ⟨ce00, ce01⟩ := e0.cells2
        have fe0 := e0.frozen
        obtain ⟨ce10, ce11⟩ := e1.cells2
        have fe1 := e1.frozen
        obtain ⟨ce20, ce21, ce22, ce23⟩ := e2.cells4
        have fe2 := e2.frozen
        obtain ⟨ce50, ce51⟩ := e5.cells2
        have fe5 := e5.frozen
        go_upto_region 11 with (fail)
        obtain ⟨W7, eW, e0', U⟩ := e0.put2 (.bool b7) (.slice A7 n7 c7) rfl rfl
        rw [← eW]
        clear eW e0
        replace hr := hr.kd U.kd
        replace hg := hg.kd U.kd
        replace h7 := h7.kd U.kd
        replace e1 := e1.upd U (by simp <;> omega)
        replace e2 := e2.upd U (by simp <;> omega)
        replace e5 := e5.upd U (by simp <;> omega)
        replace hx1 := U.from_ hx1 (by simp <;> omega)
        have e0 := e0'
        clear U e0'
        clear ce00 ce01 fe0 ce10 ce11 fe1 ce20 ce21 ce22 ce23 fe2 ce50 ce51 fe5
        obtain ⟨ce00, ce01⟩ := e0.cells2
        have fe0 := e0.frozen
        obtain ⟨ce10, ce11⟩ := e1.cells2
        have fe1 := e1.frozen
        obtain ⟨ce20, ce21, ce22, ce23⟩ := e2.cells4
        have fe2 := e2.frozen
        obtain ⟨ce50, ce51⟩ := e5.cells2
        have fe5 := e5.frozen
        go_wp2_with fail
        refine Calls.mono (exact_z _ _ q _ _ (hr.has Hc.out.2.2) (hg.has Hg.out.1) Hg.out.2 (Int.gcd_dvd_right ..)) ?_
        rintro e w8 ⟨r, rfl, ⟨a8, rfl, h8⟩, hx4⟩
        obtain ⟨b8, A8, n8, c8, rfl⟩ := h8.cells
        replace h7 := h7.ext hx4
        replace e0 := e0.ext hx4
        replace e1 := e1.ext hx4
        replace e2 := e2.ext hx4
        replace hx1 := hx1.trans hx4
        clear hx4
        clear ce00 ce01 fe0 ce10 ce11 fe1 ce20 ce21 ce22 ce23 fe2 ce50 ce51 fe5 hr hg e5
        obtain ⟨ce00, ce01⟩ := e0.cells2
        have fe0 := e0.frozen
        obtain ⟨ce10, ce11⟩ := e1.cells2
        have fe1 := e1.frozen
        obtain ⟨ce20, ce21, ce22, ce23⟩ := e2.cells4
        have fe2 := e2.frozen
        go_upto_region 12 with (fail)
        obtain ⟨W8, eW, e1', U⟩ := e1.put2 (.bool b8) (.slice A8 n8 c8) rfl rfl
        rw [← eW]
        clear eW e1
        replace h7 := h7.kd U.kd
        replace h8 := h8.kd U.kd
        replace e0 := e0.upd U (by simp <;> omega)
        replace e2 := e2.upd U (by simp <;> omega)
        replace hx1 := U.from_ hx1 (by simp <;> omega)
        have e1 := e1'
        clear U e1'
        clear ce00 ce01 fe0 ce10 ce11 fe1 ce20 ce21 ce22 ce23 fe2
        obtain ⟨ce00, ce01⟩ := e0.cells2
        have fe0 := e0.frozen
        obtain ⟨ce10, ce11⟩ := e1.cells2
        have fe1 := e1.frozen
        obtain ⟨ce20, ce21, ce22, ce23⟩ := e2.cells4
        have fe2 := e2.frozen
        go_wp2
        try clear ce00 ce01 fe0 ce10 ce11 fe1
        clear ce20 ce21 ce22 ce23 fe2
        obtain ⟨W9, eW, e2', U⟩ := e2.put4 (.bool b7) (.slice A7 n7 c7) (.bool b8) (.slice A8 n8 c8) rfl rfl rfl rfl
        rw [← eW]
        clear eW e2
        replace h7 := h7.kd U.kd
        replace h8 := h8.kd U.kd
        replace hx1 := U.from_ hx1 (by simp <;> omega)
        have e2 := e2'
        clear U e2'
        obtain ⟨ce20, ce21, ce22, ce23⟩ := e2.cells4
        have fe2 := e2.frozen
        refine bodyPost_ret (v := .agg #[.bool b7, .slice A7 n7 c7, .bool b8, .slice A8 n8 c8]) (by simp [results, Tryz.results97, go_sem, ce20, ce21, ce22, ce23]) rfl ?_
        exact Gives.mk (IsQ.mk_ h7 h8 (by rw [Hpq.out]; exact (divInt_parts Hc.out.1).1.symm) (by rw [Hpq.out]; exact (divInt_parts Hc.out.1).2.symm)) hx1
      · have H1 := Lib.hid (hb rfl); clear hb
        go_wp2
        clear ce50 ce51 fe5
        try clear ce00 ce01 fe0 ce10 ce11 fe1
        clear ce20 ce21 ce22 ce23 fe2
        obtain ⟨W9, eW, e2', U⟩ := e2.put4 (.bool b1) (.slice A1 n1 c1) (.bool b2) (.slice A2 n2 c2) rfl rfl rfl rfl
        rw [← eW]
        clear eW e2
        replace p1 := p1.kd U.kd
        replace hr := hr.kd U.kd
        replace hx1 := U.from_ hx1 (by simp <;> omega)
        have e2 := e2'
        clear U e2'
        obtain ⟨ce20, ce21, ce22, ce23⟩ := e2.cells4
        have fe2 := e2.frozen
        refine bodyPost_ret (v := .agg #[.bool b1, .slice A1 n1 c1, .bool b2, .slice A2 n2 c2]) (by simp [results, Tryz.results97, go_sem, ce20, ce21, ce22, ce23]) rfl ?_
        exact Gives.mk (IsQ.mk_ p1 hr (by rw [Hpq.out, (divInt_parts Hc.out.1).1, H1.out]; simp) (by rw [Hpq.out, (divInt_parts Hc.out.1).2, H1.out]; simp)) hx1
    · have hq1 := hb rfl; clear hb
      have H1 := Lib.hid hq1; clear hq1
      go_wp2
      try clear ce00 ce01 fe0 ce10 ce11 fe1
      clear ce20 ce21 ce22 ce23 fe2
      obtain ⟨W9, eW, e2', U⟩ := e2.put4 (.bool b1) (.slice A1 n1 c1) (.bool b2) (.slice A2 n2 c2) rfl rfl rfl rfl
      rw [← eW]
      clear eW e2
      replace p1 := p1.kd U.kd
      replace hr := hr.kd U.kd
      replace hx1 := U.from_ hx1 (by simp <;> omega)
      have e2 := e2'
      clear U e2'
      obtain ⟨ce20, ce21, ce22, ce23⟩ := e2.cells4
      have fe2 := e2.frozen
      refine bodyPost_ret (v := .agg #[.bool b1, .slice A1 n1 c1, .bool b2, .slice A2 n2 c2]) (by simp [results, Tryz.results97, go_sem, ce20, ce21, ce22, ce23]) rfl ?_
      exact Gives.mk (IsQ.mk_ p1 hr (by rw [Hpq.out, H1.out]; exact (divInt_one p).1.symm) (by rw [Hpq.out, H1.out]; exact (divInt_one p).2.symm)) hx1
end Go.Proofs.YtedoifjbgokmcaaGreat
namespace Go.Hp
theorem IsQ.cells {w : World} {v : Value} {q : Rat} (h : IsQ w v q) : ∃ b A n c b' A' n' c', v = .agg #[.bool b, .slice A n c, .bool b', .slice A' n' c'] := by
  obtain ⟨b, A, n, c, b', A', n', c', e, _⟩ := h; exact ⟨_, _, _, _, _, _, _, _, e⟩
/-- A result struct of the call's own, filled with a fraction. -/
theorem fin_q {w w1 : World} {g n c n' c' : Nat} {A A' : Option Addr} {b b' : Bool} {q : Rat} (h : IsQ w1 (.agg #[.bool b, .slice A n c, .bool b', .slice A' n' c']) q) (hx : Ext w w1) (hn : NoDig w1 g) (hg : w.heap.size ≤ g) :
    Gives w (fun r w' => IsQ w' r q) (.returned (.agg #[.bool b, .slice A n c, .bool b', .slice A' n' c'])) ((((w1.setCell ⟨g, 0, none⟩ (.bool b)).setCell ⟨g, 1, none⟩ (.slice A n c)).setCell ⟨g, 2, none⟩ (.bool b')).setCell ⟨g, 3, none⟩ (.slice A' n' c')) :=
  Gives.mk (h.kd (((((KD.refl w1).set_ (i := 0) hn (.bool b)).set_ (i := 1) (hn.set_ rfl) (.slice A n c)).set_ (i := 2) ((hn.set_ rfl).set_ rfl) (.bool b')).set_ (i := 3) (((hn.set_ rfl).set_ rfl).set_ rfl) (.slice A' n' c'))) ((((hx.setCell _ _ hg).setCell _ _ hg).setCell _ _ hg).setCell _ _ hg)
theorem sgn_divInt (x y : Int) : (Rat.divInt x y).num.sign = x.sign * y.sign := by
  rcases Int.lt_trichotomy y 0 with h | h | h
  · rw [show Rat.divInt x y = Rat.divInt (-x) (-y) from (Rat.neg_divInt_neg x y).symm, (divInt_parts (by omega)).1, Int.sign_eq_neg_one_of_neg h]
    have hg := Int.gcd_pos_of_ne_zero_right (-x) (show -y ≠ 0 by omega)
    have hd : (Int.gcd (-x) (-y) : Int) ∣ -x := Int.gcd_dvd_left ..
    obtain ⟨k, hk⟩ := hd
    have e : -x / ((-x).gcd (-y) : Nat) = k := Int.ediv_eq_of_eq_mul_right (by omega) hk
    have hs := congrArg Int.sign hk
    rw [Int.sign_mul, Int.sign_eq_one_of_pos (a := (((-x).gcd (-y) : Nat) : Int)) (by omega), Int.sign_neg] at hs
    rw [e]; omega
  · subst h; simp
  · rw [(divInt_parts h).1, Int.sign_eq_one_of_pos h]
    have hg := Int.gcd_pos_of_ne_zero_right x (show y ≠ 0 by omega)
    obtain ⟨k, hk⟩ : (Int.gcd x y : Int) ∣ x := Int.gcd_dvd_left ..
    have e : x / (x.gcd y : Nat) = k := Int.ediv_eq_of_eq_mul_right (by omega) hk
    have hs := congrArg Int.sign hk
    rw [Int.sign_mul, Int.sign_eq_one_of_pos (a := ((x.gcd y : Nat) : Int)) (by omega)] at hs
    rw [e]; omega
theorem divInt_1 (x : Int) : Rat.divInt x 1 = ((x : Int) : Rat) := Rat.ext (divInt_one x).1 (by have := (divInt_one x).2; show _ = 1; omega)
/-- v is the machine integer n. -/
def IsI (_ : World) (v : Value) (n : Int) : Prop := v = .int .i64 n
theorem IsI.ext {w w' : World} {v : Value} {n : Int} (h : IsI w v n) (_ : Ext w w') : IsI w' v n := h
def sgn (q : Rat) : Int := q.num.sign
theorem sgn_zero {q : Rat} : sgn q = 0 ↔ q = 0 := by unfold sgn; rw [Int.sign_eq_zero_iff_zero]; exact Rat.num_eq_zero
theorem divInt_div (a b c d : Int) : Rat.divInt (a * d) (b * c) = Rat.divInt a b / Rat.divInt c d := by
  rw [Rat.div_def, Rat.inv_divInt, Rat.divInt_mul_divInt]
theorem HasQ.form {w : World} {v : Value} {q : Rat} (h : HasQ w v q) : ∃ b A n c b' A' n' c' x y, v = .agg #[.bool b, .slice A n c, .bool b', .slice A' n' c'] ∧ HasZ w (.agg #[.bool b, .slice A n c]) x ∧ HasZ w (.agg #[.bool b', .slice A' n' c']) y ∧ sz x.natAbs ≤ 274877906944 ∧ sz y.natAbs ≤ 274877906944 ∧ q = Rat.divInt x y := h
end Go.Hp
namespace Go.Proofs.YtedoifjbgokmcaaGreat
open Go.RowKit Go.Hp
theorem normal_q (v : Value) (q : Rat) (w : World) (hv : HasQ w v q) : Calls Tryz.prog 55 #[v] w (Gives w fun r w' => IsQ w' r q) := by
  obtain ⟨b, A, n, c, b', A', n', c', x, y, rfl, hx, hy, sx, sy, hq⟩ := hv.form
  have HX := Lib.hid hx; have HY := Lib.hid hy; clear hx hy hv sx sy
  have Hq := Lib.hid hq; clear hq
  go_enter Tryz.func55, Tryz.ntmps55
  go_wp2_with fail
  refine Calls.mono (over_q _ _ x y _ (HX.out.ext (((Ext.refl w).alloc _).alloc _)) (HY.out.ext (((Ext.refl w).alloc _).alloc _))) ?_
  rintro e w1 ⟨r, rfl, hr, hx1⟩
  rw [← Hq.out] at hr
  obtain ⟨b5, A5, n5, c5, b6, A6, n6, c6, rfl⟩ := hr.cells
  have hc1 := hx1.cells
  have hf1 := hx1.frozens
  have Hfin := Lib.hid (fin_q hr hx1.a2 (NoDig.at_ hx1 (g := w.heap.size + 1) (by simp) (by simp [isDig])) (by omega))
  clear hr
  go_wp2
  refine bodyPost_ret (v := .agg #[.bool b5, .slice A5 n5 c5, .bool b6, .slice A6 n6 c6]) (by simp [results, Tryz.results55, go_sem, hc1]) rfl ?_
  exact Hfin.out
theorem make_q (v u : Value) (x y : Int) (w : World) (hv : HasZ w v x) (hu : HasZ w u y) (h0 : y ≠ 0) : Calls Tryz.prog 82 #[v, u] w (Gives w fun r w' => ∃ a, r = .tuple #[a, .int .i64 0] ∧ IsQ w' a (Rat.divInt x y)) := by
  have HX := Lib.hid hv; have HY := Lib.hid hu; have H0 := Lib.hid h0; clear h0
  obtain ⟨neg, A, n, c, N, rfl, h1, h2, h3, hN, hx⟩ := hv.form
  obtain ⟨neg', A', n', c', M, rfl, k1, k2, k3, kN, hy⟩ := hu.form
  clear hN hx hv hu kN hy
  go_enter Tryz.func82, Tryz.ntmps82
  go_wp2_with fail
  refine Calls.mono (sign_z _ y _ (HY.out.ext ((((Ext.refl w).alloc _).alloc _).alloc _))) ?_
  rintro e w1 ⟨r, rfl, rfl, hx1⟩
  have hb : (y.sign == 0) = false := by simpa [Int.sign_eq_zero_iff_zero] using H0.out
  have hc1 := hx1.cells
  have hf1 := hx1.frozens
  go_wp2_with fail
  refine Calls.mono (over_q _ _ x y _ (HX.out.ext hx1.a3) (HY.out.ext hx1.a3)) ?_
  rintro e w2 ⟨r, rfl, hr, hx2⟩
  replace hx1 := hx1.trans hx2
  clear hc1 hf1 hx2
  obtain ⟨b5, A5, n5, c5, b6, A6, n6, c6, rfl⟩ := hr.cells
  have hc1 := hx1.cells
  have hf1 := hx1.frozens
  have Hfin := Lib.hid (fin_q hr hx1.a3 (NoDig.at_ hx1 (g := w.heap.size + 2) (by simp) (by simp [isDig])) (by omega))
  clear hr
  go_wp2
  refine bodyPost_ret (v := .tuple #[.agg #[.bool b5, .slice A5 n5 c5, .bool b6, .slice A6 n6 c6], .int .i64 0]) (by simp [results, Tryz.results82, go_sem, hc1]) rfl ?_
  obtain ⟨r, e, hr, hx⟩ := Hfin.out
  cases e
  exact Gives.mk ⟨_, rfl, hr⟩ hx
theorem of_q (n : Int) (w : World) (h1 : -9223372036854775808 ≤ n) (h2 : n < 9223372036854775808) : Calls Tryz.prog 48 #[.int .i64 n] w (Gives w fun r w' => IsQ w' r (n : Rat)) := by
  go_enter Tryz.func48, Tryz.ntmps48
  go_wp2_with fail
  refine Calls.mono (of_z n _ h1 h2) ?_
  rintro e w1 ⟨r, rfl, hn, hx1⟩
  go_wp2_with fail
  refine Calls.mono (of_z 1 _ (by omega) (by omega)) ?_
  rintro e w2 ⟨r, rfl, h1', hx2⟩
  replace hn := hn.ext hx2
  replace hx1 := hx1.trans hx2
  clear hx2
  obtain ⟨b5, A5, n5, c5, rfl⟩ := hn.cells
  obtain ⟨b6, A6, n6, c6, rfl⟩ := h1'.cells
  have hr := IsQ.mk_ hn h1' (q := (n : Rat)) rfl rfl
  clear hn h1'
  have hc1 := hx1.cells
  have hf1 := hx1.frozens
  have Hfin := Lib.hid (fin_q hr hx1.a1 (NoDig.at_ hx1 (g := w.heap.size + 0) (by simp) (by simp [isDig])) (by omega))
  clear hr
  go_wp2
  refine bodyPost_ret (v := .agg #[.bool b5, .slice A5 n5 c5, .bool b6, .slice A6 n6 c6]) (by simp [results, Tryz.results48, go_sem, hc1]) rfl ?_
  exact Hfin.out
theorem whole_q (v : Value) (x : Int) (w : World) (hv : HasZ w v x) : Calls Tryz.prog 90 #[v] w (Gives w fun r w' => IsQ w' r (x : Rat)) := by
  have HX := Lib.hid hv
  obtain ⟨neg, A, n, c, N, rfl, h1, h2, h3, hN, hx⟩ := hv.form
  clear hN hx hv
  go_enter Tryz.func90, Tryz.ntmps90
  go_wp2_with fail
  refine Calls.mono (normal_z _ x _ (HX.out.ext (((Ext.refl w).alloc _).alloc _))) ?_
  rintro e w1 ⟨r, rfl, hn, hx1⟩
  go_wp2_with fail
  refine Calls.mono (of_z 1 _ (by omega) (by omega)) ?_
  rintro e w2 ⟨r, rfl, h1', hx2⟩
  replace hn := hn.ext hx2
  replace hx1 := hx1.trans hx2
  clear hx2
  obtain ⟨b5, A5, n5, c5, rfl⟩ := hn.cells
  obtain ⟨b6, A6, n6, c6, rfl⟩ := h1'.cells
  have hr := IsQ.mk_ hn h1' (q := (x : Rat)) rfl rfl
  clear hn h1'
  have hc1 := hx1.cells
  have hf1 := hx1.frozens
  have Hfin := Lib.hid (fin_q hr hx1.a2 (NoDig.at_ hx1 (g := w.heap.size + 1) (by simp) (by simp [isDig])) (by omega))
  clear hr
  go_wp2
  refine bodyPost_ret (v := .agg #[.bool b5, .slice A5 n5 c5, .bool b6, .slice A6 n6 c6]) (by simp [results, Tryz.results90, go_sem, hc1]) rfl ?_
  exact Hfin.out
theorem sign_bounds (x : Int) : -1 ≤ x.sign ∧ x.sign ≤ 1 := by
  rcases Int.lt_trichotomy x 0 with h | h | h
  · rw [Int.sign_eq_neg_one_of_neg h]; omega
  · subst h; simp
  · rw [Int.sign_eq_one_of_pos h]; omega
theorem sign_mul_bounds (x y : Int) : -1 ≤ x.sign * y.sign ∧ x.sign * y.sign ≤ 1 := by rw [← Int.sign_mul]; exact sign_bounds _
theorem sign_q (v : Value) (q : Rat) (w : World) (hv : HasQ w v q) : Calls Tryz.prog 101 #[v] w (Gives w fun r _ => r = .int .i64 (sgn q)) := by
  obtain ⟨b, A, n, c, b', A', n', c', x, y, rfl, hx, hy, sx, sy, hq⟩ := hv.form
  have HX := Lib.hid hx; have HY := Lib.hid hy; clear hx hy hv sx sy
  have Hq := Lib.hid (show sgn q = x.sign * y.sign by rw [hq]; exact sgn_divInt x y); clear hq
  have hb := sign_mul_bounds x y
  go_enter Tryz.func101, Tryz.ntmps101
  go_wp2_with fail
  refine wp_region_par (k := 5) (D := [3, 4, 5, 6, 7]) (T := [[], [0], [0, 1], [], [3], [0, 1, 2, 3, 4], [0, 1, 2, 3, 4, 5], [0, 1, 2, 3, 4, 5, 6]]) (EK := [1]) (EV := [?e1x0]) (VL := [(kv ?v1x0), (kv ?v1x1), (fun γ => γ 2), (kv ?v1x3), (kv ?v1x4)]) (FL := fun γ w' => [True, True, IsI w' (γ 2) x.sign, True, True]) ?hE1 (by kernel_rfl) (by kernel_rfl) (by rfl) (by kernel_rfl) ?hloc1 ?hmono1 ?hstep1 ?htail1
  case hE1 => refine ⟨?_, trivial⟩ <;> (simp only [List.getElem?_toArray, List.getElem?_cons_succ, List.getElem?_cons_zero]; rfl)
  case hstep1 =>
    refine ⟨⟨⟨⟨⟨trivial, ?_⟩, ?_⟩, ?_⟩, ?_⟩, ?_⟩
    · intro γ w' he hf; clear hf; refine ⟨trivial, ?_⟩; intro R hR
      have hc := he.cells
      go_simp
      (try go_ints); (try (rw [if_neg (by omega)])); (try (rw [if_pos (by omega)])); (try go_simp); (try go_ints)
      refine hR _ _ (Ext.refl _) ?_ trivial
      rfl
    · intro γ w' he hf; clear hf; refine ⟨trivial, ?_⟩; intro R hR
      have hc := he.cells
      go_simp
      (try go_ints); (try (rw [if_neg (by omega)])); (try (rw [if_pos (by omega)])); (try go_simp); (try go_ints)
      refine hR _ _ (Ext.refl _) ?_ trivial
      rfl
    · intro γ w' he hf; clear hf; refine ⟨trivial, ?_⟩; intro R hR
      go_simp
      refine Calls.mono (show Calls _ _ _ w' (Gives w' fun r w'' => IsI w'' (r) x.sign) from sign_z _ x w' (HX.out.ext he.a1)) ?_
      rintro e w2 ⟨v, rfl, hv, hx⟩
      exact ⟨v, rfl, hR v w2 hx rfl hv⟩
    · intro γ w' he hf; clear hf; refine ⟨trivial, ?_⟩; intro R hR
      have hc := he.cells
      go_simp
      (try go_ints); (try (rw [if_neg (by omega)])); (try (rw [if_pos (by omega)])); (try go_simp); (try go_ints)
      refine hR _ _ (Ext.refl _) ?_ trivial
      rfl
    · intro γ w' he hf; clear hf; refine ⟨trivial, ?_⟩; intro R hR
      have hc := he.cells
      go_simp
      (try go_ints); (try (rw [if_neg (by omega)])); (try (rw [if_pos (by omega)])); (try go_simp); (try go_ints)
      refine hR _ _ (Ext.refl _) ?_ trivial
      rfl
  case hloc1 =>
    exact ⟨⟨⟨⟨⟨trivial, (fun γ γ' h => ⟨rfl, fun _ => rfl⟩)⟩, (fun γ γ' h => ⟨rfl, fun _ => rfl⟩)⟩, (fun γ γ' h => ⟨h 2 rfl, fun w' => (congrArg (fun a => IsI w' (a) x.sign) (h 2 rfl))⟩)⟩, (fun γ γ' h => ⟨rfl, fun _ => rfl⟩)⟩, (fun γ γ' h => ⟨rfl, fun _ => rfl⟩)⟩
  case hmono1 =>
    exact ⟨⟨⟨⟨⟨trivial, (fun γ wA w' e h => h)⟩, (fun γ wA w' e h => h)⟩, (fun γ wA w' e h => (show IsI wA (γ 2) x.sign from h).ext e)⟩, (fun γ wA w' e h => h)⟩, (fun γ wA w' e h => h)⟩
  intro γ w1 hx1 hF
  have p2 : IsI w1 (γ 2) x.sign := Each.get hF 2 (by decide)
  clear hF
  simp only [fillAll, gV, kv, List.getD_cons_zero, List.getD_cons_succ, Act.put, List.setIfInBounds_toArray, List.set_cons_zero, List.set_cons_succ, List.toList_toArray, List.drop_succ_cons, List.drop_zero, List.drop_nil, Nat.zero_add, Nat.reduceAdd]
  generalize γ 2 = g2 at *
  clear γ
  obtain rfl : g2 = .int .i64 x.sign := p2
  go_wp2_with fail
  refine Calls.mono (sign_z _ y _ (HY.out.ext hx1.a1)) ?_
  rintro e w2 ⟨r, rfl, rfl, hx2⟩
  replace hx1 := hx1.trans hx2
  go_wp2
  go_ret
  exact Gives.mk (by rw [Hq.out]; rfl) hx1.a1
theorem neg_q (v : Value) (q : Rat) (w : World) (hv : HasQ w v q) : Calls Tryz.prog 72 #[v] w (Gives w fun r w' => IsQ w' r (-q)) := by
  obtain ⟨b, A, n, c, b', A', n', c', x, y, rfl, hx, hy, sx, sy, hq⟩ := hv.form
  have HX := Lib.hid hx; have HY := Lib.hid hy; clear hx hy hv
  have Hq := Lib.hid hq; clear hq
  go_enter Tryz.func72, Tryz.ntmps72
  go_wp2_with fail
  refine wp_region_par (k := 5) (D := [3, 4, 5, 6, 7]) (T := [[], [0], [0, 1], [], [3], [0, 1, 2, 3, 4], [0, 1, 2, 3, 4, 5]]) (EK := [1]) (EV := [?e2x0]) (VL := [(kv ?v2x0), (kv ?v2x1), (fun γ => γ 2), (kv ?v2x3), (kv ?v2x4)]) (FL := fun γ w' => [True, True, IsZ w' (γ 2) (-x), True, True]) ?hE2 (by kernel_rfl) (by kernel_rfl) (by rfl) (by kernel_rfl) ?hloc2 ?hmono2 ?hstep2 ?htail2
  case hE2 => refine ⟨?_, trivial⟩ <;> (simp only [List.getElem?_toArray, List.getElem?_cons_succ, List.getElem?_cons_zero]; rfl)
  case hstep2 =>
    refine ⟨⟨⟨⟨⟨trivial, ?_⟩, ?_⟩, ?_⟩, ?_⟩, ?_⟩
    · intro γ w' he hf; clear hf; refine ⟨trivial, ?_⟩; intro R hR
      have hc := he.cells
      go_simp
      (try go_ints); (try (rw [if_neg (by omega)])); (try (rw [if_pos (by omega)])); (try go_simp); (try go_ints)
      refine hR _ _ (Ext.refl _) ?_ trivial
      rfl
    · intro γ w' he hf; clear hf; refine ⟨trivial, ?_⟩; intro R hR
      have hc := he.cells
      go_simp
      (try go_ints); (try (rw [if_neg (by omega)])); (try (rw [if_pos (by omega)])); (try go_simp); (try go_ints)
      refine hR _ _ (Ext.refl _) ?_ trivial
      rfl
    · intro γ w' he hf; clear hf; refine ⟨trivial, ?_⟩; intro R hR
      go_simp
      refine Calls.mono (show Calls _ _ _ w' (Gives w' fun r w'' => IsZ w'' (r) (-x)) from neg_z _ x w' (HX.out.ext he.a2)) ?_
      rintro e w2 ⟨v, rfl, hv, hx⟩
      exact ⟨v, rfl, hR v w2 hx rfl hv⟩
    · intro γ w' he hf; clear hf; refine ⟨trivial, ?_⟩; intro R hR
      have hc := he.cells
      go_simp
      (try go_ints); (try (rw [if_neg (by omega)])); (try (rw [if_pos (by omega)])); (try go_simp); (try go_ints)
      refine hR _ _ (Ext.refl _) ?_ trivial
      rfl
    · intro γ w' he hf; clear hf; refine ⟨trivial, ?_⟩; intro R hR
      have hc := he.cells
      go_simp
      (try go_ints); (try (rw [if_neg (by omega)])); (try (rw [if_pos (by omega)])); (try go_simp); (try go_ints)
      refine hR _ _ (Ext.refl _) ?_ trivial
      rfl
  case hloc2 =>
    exact ⟨⟨⟨⟨⟨trivial, (fun γ γ' h => ⟨rfl, fun _ => rfl⟩)⟩, (fun γ γ' h => ⟨rfl, fun _ => rfl⟩)⟩, (fun γ γ' h => ⟨h 2 rfl, fun w' => (congrArg (fun a => IsZ w' (a) (-x)) (h 2 rfl))⟩)⟩, (fun γ γ' h => ⟨rfl, fun _ => rfl⟩)⟩, (fun γ γ' h => ⟨rfl, fun _ => rfl⟩)⟩
  case hmono2 =>
    exact ⟨⟨⟨⟨⟨trivial, (fun γ wA w' e h => h)⟩, (fun γ wA w' e h => h)⟩, (fun γ wA w' e h => (show IsZ wA (γ 2) (-x) from h).ext e)⟩, (fun γ wA w' e h => h)⟩, (fun γ wA w' e h => h)⟩
  intro γ w1 hx1 hF
  have p2 : IsZ w1 (γ 2) (-x) := Each.get hF 2 (by decide)
  clear hF
  simp only [fillAll, gV, kv, List.getD_cons_zero, List.getD_cons_succ, Act.put, List.setIfInBounds_toArray, List.set_cons_zero, List.set_cons_succ, List.toList_toArray, List.drop_succ_cons, List.drop_zero, List.drop_nil, Nat.zero_add, Nat.reduceAdd]
  generalize γ 2 = g2 at *
  clear γ
  go_wp2_with fail
  refine Calls.mono (over_q _ _ (-x) y _ (p2.has (by rw [Int.natAbs_neg]; omega)) (HY.out.ext hx1.a2)) ?_
  rintro e w2 ⟨r, rfl, hr, hx2⟩
  replace hx1 := hx1.trans hx2
  clear hx2 p2
  rw [← Rat.neg_divInt, ← Hq.out] at hr
  obtain ⟨b5, A5, n5, c5, b6, A6, n6, c6, rfl⟩ := hr.cells
  have hc1 := hx1.cells
  have hf1 := hx1.frozens
  have Hfin := Lib.hid (fin_q hr hx1.a2 (NoDig.at_ hx1 (g := w.heap.size + 1) (by simp) (by simp [isDig])) (by omega))
  clear hr
  go_wp2
  refine bodyPost_ret (v := .agg #[.bool b5, .slice A5 n5 c5, .bool b6, .slice A6 n6 c6]) (by simp [results, Tryz.results72, go_sem, hc1]) rfl ?_
  exact Hfin.out
theorem mul_sz {x y : Int} (hx : sz x.natAbs ≤ 274877906944) (hy : sz y.natAbs ≤ 274877906944) : sz (x * y).natAbs ≤ 549755813888 := by
  rw [Int.natAbs_mul]; have := sz_mul x.natAbs y.natAbs; omega
theorem mul_q (v u : Value) (p q : Rat) (w : World) (hv : HasQ w v p) (hu : HasQ w u q) : Calls Tryz.prog 50 #[v, u] w (Gives w fun r w' => IsQ w' r (p * q)) := by
  obtain ⟨b, A, n, c, b', A', n', c', x, y, rfl, hx, hy, sx, sy, hp⟩ := hv.form
  obtain ⟨d, E, m, e, d', E', m', e', s, t, rfl, hs, ht, ss, st, hq⟩ := hu.form
  have HX := Lib.hid (And.intro hx hy); have HY := Lib.hid (And.intro hs ht); clear hx hy hv hs ht hu
  have Hq := Lib.hid (show Rat.divInt (x * s) (y * t) = p * q by rw [hp, hq, Rat.divInt_mul_divInt]); clear hp hq
  have m1 := mul_sz sx ss; have m2 := mul_sz sy st
  go_enter Tryz.func50, Tryz.ntmps50
  go_wp2_with fail
  refine wp_region_par (k := 9) (D := [5, 6, 7, 8, 9, 10, 11, 12, 13]) (T := [[], [0], [], [2], [0, 1, 2, 3], [], [5], [], [7], [0, 1, 2, 3, 4, 5, 6, 7, 8], [0, 1, 2, 3, 4, 5, 6, 7, 8, 9], [0, 1, 2, 3, 4, 5, 6, 7, 8, 9, 10]]) (EK := [2, 3]) (EV := [?e3x0, ?e3x1]) (VL := [(kv ?v3x0), (kv ?v3x1), (kv ?v3x2), (kv ?v3x3), (fun γ => γ 4), (kv ?v3x5), (kv ?v3x6), (kv ?v3x7), (kv ?v3x8)]) (FL := fun γ w' => [True, True, True, True, IsZ w' (γ 4) (x * s), True, True, True, True]) ?hE3 (by kernel_rfl) (by kernel_rfl) (by rfl) (by kernel_rfl) ?hloc3 ?hmono3 ?hstep3 ?htail3
  case hE3 => refine ⟨?_, ?_, trivial⟩ <;> (simp only [List.getElem?_toArray, List.getElem?_cons_succ, List.getElem?_cons_zero]; rfl)
  case hstep3 =>
    refine ⟨⟨⟨⟨⟨⟨⟨⟨⟨trivial, ?_⟩, ?_⟩, ?_⟩, ?_⟩, ?_⟩, ?_⟩, ?_⟩, ?_⟩, ?_⟩
    · intro γ w' he hf; clear hf; refine ⟨trivial, ?_⟩; intro R hR
      have hc := he.cells
      go_simp
      (try go_ints); (try (rw [if_neg (by omega)])); (try (rw [if_pos (by omega)])); (try go_simp); (try go_ints)
      refine hR _ _ (Ext.refl _) ?_ trivial
      rfl
    · intro γ w' he hf; clear hf; refine ⟨trivial, ?_⟩; intro R hR
      have hc := he.cells
      go_simp
      (try go_ints); (try (rw [if_neg (by omega)])); (try (rw [if_pos (by omega)])); (try go_simp); (try go_ints)
      refine hR _ _ (Ext.refl _) ?_ trivial
      rfl
    · intro γ w' he hf; clear hf; refine ⟨trivial, ?_⟩; intro R hR
      have hc := he.cells
      go_simp
      (try go_ints); (try (rw [if_neg (by omega)])); (try (rw [if_pos (by omega)])); (try go_simp); (try go_ints)
      refine hR _ _ (Ext.refl _) ?_ trivial
      rfl
    · intro γ w' he hf; clear hf; refine ⟨trivial, ?_⟩; intro R hR
      have hc := he.cells
      go_simp
      (try go_ints); (try (rw [if_neg (by omega)])); (try (rw [if_pos (by omega)])); (try go_simp); (try go_ints)
      refine hR _ _ (Ext.refl _) ?_ trivial
      rfl
    · intro γ w' he hf; clear hf; refine ⟨trivial, ?_⟩; intro R hR
      go_simp
      refine Calls.mono (show Calls _ _ _ w' (Gives w' fun r w'' => IsZ w'' (r) (x * s)) from mul_z _ _ x s w' (HX.out.1.ext he.a3) (HY.out.1.ext he.a3)) ?_
      rintro e w2 ⟨v, rfl, hv, hx⟩
      exact ⟨v, rfl, hR v w2 hx rfl hv⟩
    · intro γ w' he hf; clear hf; refine ⟨trivial, ?_⟩; intro R hR
      have hc := he.cells
      go_simp
      (try go_ints); (try (rw [if_neg (by omega)])); (try (rw [if_pos (by omega)])); (try go_simp); (try go_ints)
      refine hR _ _ (Ext.refl _) ?_ trivial
      rfl
    · intro γ w' he hf; clear hf; refine ⟨trivial, ?_⟩; intro R hR
      have hc := he.cells
      go_simp
      (try go_ints); (try (rw [if_neg (by omega)])); (try (rw [if_pos (by omega)])); (try go_simp); (try go_ints)
      refine hR _ _ (Ext.refl _) ?_ trivial
      rfl
    · intro γ w' he hf; clear hf; refine ⟨trivial, ?_⟩; intro R hR
      have hc := he.cells
      go_simp
      (try go_ints); (try (rw [if_neg (by omega)])); (try (rw [if_pos (by omega)])); (try go_simp); (try go_ints)
      refine hR _ _ (Ext.refl _) ?_ trivial
      rfl
    · intro γ w' he hf; clear hf; refine ⟨trivial, ?_⟩; intro R hR
      have hc := he.cells
      go_simp
      (try go_ints); (try (rw [if_neg (by omega)])); (try (rw [if_pos (by omega)])); (try go_simp); (try go_ints)
      refine hR _ _ (Ext.refl _) ?_ trivial
      rfl
  case hloc3 =>
    exact ⟨⟨⟨⟨⟨⟨⟨⟨⟨trivial, (fun γ γ' h => ⟨rfl, fun _ => rfl⟩)⟩, (fun γ γ' h => ⟨rfl, fun _ => rfl⟩)⟩, (fun γ γ' h => ⟨rfl, fun _ => rfl⟩)⟩, (fun γ γ' h => ⟨rfl, fun _ => rfl⟩)⟩, (fun γ γ' h => ⟨h 4 rfl, fun w' => (congrArg (fun a => IsZ w' (a) (x * s)) (h 4 rfl))⟩)⟩, (fun γ γ' h => ⟨rfl, fun _ => rfl⟩)⟩, (fun γ γ' h => ⟨rfl, fun _ => rfl⟩)⟩, (fun γ γ' h => ⟨rfl, fun _ => rfl⟩)⟩, (fun γ γ' h => ⟨rfl, fun _ => rfl⟩)⟩
  case hmono3 =>
    exact ⟨⟨⟨⟨⟨⟨⟨⟨⟨trivial, (fun γ wA w' e h => h)⟩, (fun γ wA w' e h => h)⟩, (fun γ wA w' e h => h)⟩, (fun γ wA w' e h => h)⟩, (fun γ wA w' e h => (show IsZ wA (γ 4) (x * s) from h).ext e)⟩, (fun γ wA w' e h => h)⟩, (fun γ wA w' e h => h)⟩, (fun γ wA w' e h => h)⟩, (fun γ wA w' e h => h)⟩
  intro γ w1 hx1 hF
  have p4 : IsZ w1 (γ 4) (x * s) := Each.get hF 4 (by decide)
  clear hF
  simp only [fillAll, gV, kv, List.getD_cons_zero, List.getD_cons_succ, Act.put, List.setIfInBounds_toArray, List.set_cons_zero, List.set_cons_succ, List.toList_toArray, List.drop_succ_cons, List.drop_zero, List.drop_nil, Nat.zero_add, Nat.reduceAdd]
  generalize γ 4 = g4 at *
  clear γ
  go_wp2_with fail
  refine Calls.mono (mul_z _ _ y t _ (HX.out.2.ext hx1.a3) (HY.out.2.ext hx1.a3)) ?_
  rintro e w9 ⟨g9, rfl, p9, hx9⟩
  replace p4 := p4.ext hx9
  replace hx1 := hx1.trans hx9
  clear hx9
  go_wp2_with fail
  refine Calls.mono (over_q _ _ (x * s) (y * t) _ (p4.has (by omega)) (p9.has (by omega))) ?_
  rintro e w2 ⟨r, rfl, hr, hx2⟩
  replace hx1 := hx1.trans hx2
  clear hx2 p4 p9
  rw [Hq.out] at hr
  obtain ⟨b5, A5, n5, c5, b6, A6, n6, c6, rfl⟩ := hr.cells
  have hc1 := hx1.cells
  have hf1 := hx1.frozens
  have Hfin := Lib.hid (fin_q hr hx1.a3 (NoDig.at_ hx1 (g := w.heap.size + 2) (by simp) (by simp [isDig])) (by omega))
  clear hr
  go_wp2
  refine bodyPost_ret (v := .agg #[.bool b5, .slice A5 n5 c5, .bool b6, .slice A6 n6 c6]) (by simp [results, Tryz.results50, go_sem, hc1]) rfl ?_
  exact Hfin.out
theorem quo_q (v u : Value) (p q : Rat) (w : World) (hv : HasQ w v p) (hu : HasQ w u q) (h0 : q ≠ 0) : Calls Tryz.prog 57 #[v, u] w (Gives w fun r w' => ∃ a, r = .tuple #[a, .int .i64 0] ∧ IsQ w' a (p / q)) := by
  have HU := Lib.hid hu
  obtain ⟨b, A, n, c, b', A', n', c', x, y, rfl, hx, hy, sx, sy, hp⟩ := hv.form
  obtain ⟨d, E, m, e, d', E', m', e', s, t, rfl, hs, ht, ss, st, hq⟩ := hu.form
  have HX := Lib.hid (And.intro hx hy); have HY := Lib.hid (And.intro hs ht); clear hx hy hv hs ht hu
  have Hq := Lib.hid (show Rat.divInt (x * t) (y * s) = p / q by rw [hp, hq]; exact divInt_div x y s t); clear hp hq
  have m1 := mul_sz sx st; have m2 := mul_sz sy ss
  have hb : (sgn q == 0) = false := by simpa [sgn_zero] using h0
  clear h0
  go_enter Tryz.func57, Tryz.ntmps57
  go_wp2_with fail
  refine Calls.mono (sign_q _ q _ (HU.out.ext ((((Ext.refl w).alloc _).alloc _).alloc _))) ?_
  rintro e w0 ⟨r, rfl, rfl, hx0⟩
  have hc0 := hx0.cells
  have hf0 := hx0.frozens
  go_wp2_with fail
  have ca0 := hx0.a1.a1.box (g := w.heap.size) (i := 0) rfl rfl
  have ca1 := hx0.a1.a1.box (g := w.heap.size) (i := 1) rfl rfl
  have ca2 := hx0.a1.a1.box (g := w.heap.size) (i := 2) rfl rfl
  have ca3 := hx0.a1.a1.box (g := w.heap.size) (i := 3) rfl rfl
  have cb0 := hx0.a1.box (g := w.heap.size + 1) (i := 0) (by simp) rfl
  have cb1 := hx0.a1.box (g := w.heap.size + 1) (i := 1) (by simp) rfl
  have cb2 := hx0.a1.box (g := w.heap.size + 1) (i := 2) (by simp) rfl
  have cb3 := hx0.a1.box (g := w.heap.size + 1) (i := 3) (by simp) rfl
  refine wp_region_par (k := 9) (D := [10, 11, 12, 13, 14, 15, 16, 17, 18]) (T := [[], [0], [], [2], [0, 1, 2, 3], [], [5], [], [7], [0, 1, 2, 3, 4, 5, 6, 7, 8], [0, 1, 2, 3, 4, 5, 6, 7, 8, 9], [0, 1, 2, 3, 4, 5, 6, 7, 8, 9, 10], [0, 1, 2, 3, 4, 5, 6, 7, 8, 9, 10, 11]]) (EK := [2, 3]) (EV := [?e4x0, ?e4x1]) (VL := [(kv ?v4x0), (kv ?v4x1), (kv ?v4x2), (kv ?v4x3), (fun γ => γ 4), (kv ?v4x5), (kv ?v4x6), (kv ?v4x7), (kv ?v4x8)]) (FL := fun γ w' => [True, True, True, True, IsZ w' (γ 4) (x * t), True, True, True, True]) ?hE4 (by kernel_rfl) (by kernel_rfl) (by rfl) (by kernel_rfl) ?hloc4 ?hmono4 ?hstep4 ?htail4
  case hE4 => refine ⟨?_, ?_, trivial⟩ <;> (simp only [List.getElem?_toArray, List.getElem?_cons_succ, List.getElem?_cons_zero]; rfl)
  case hstep4 =>
    refine ⟨⟨⟨⟨⟨⟨⟨⟨⟨trivial, ?_⟩, ?_⟩, ?_⟩, ?_⟩, ?_⟩, ?_⟩, ?_⟩, ?_⟩, ?_⟩
    · intro γ w' he hf; clear hf; refine ⟨trivial, ?_⟩; intro R hR
      have hc := he.cells
      go_simp
      (try go_ints); (try (rw [if_neg (by omega)])); (try (rw [if_pos (by omega)])); (try go_simp); (try go_ints)
      refine hR _ _ (Ext.refl _) ?_ trivial
      rfl
    · intro γ w' he hf; clear hf; refine ⟨trivial, ?_⟩; intro R hR
      have hc := he.cells
      have cq0 := he.cell ca0
      have cq1 := he.cell ca1
      have cq2 := he.cell ca2
      have cq3 := he.cell ca3
      have cq4 := he.cell cb0
      have cq5 := he.cell cb1
      have cq6 := he.cell cb2
      have cq7 := he.cell cb3
      go_simp
      (try go_ints); (try (rw [if_neg (by omega)])); (try (rw [if_pos (by omega)])); (try go_simp); (try go_ints)
      refine hR _ _ (Ext.refl _) ?_ trivial
      rfl
    · intro γ w' he hf; clear hf; refine ⟨trivial, ?_⟩; intro R hR
      have hc := he.cells
      go_simp
      (try go_ints); (try (rw [if_neg (by omega)])); (try (rw [if_pos (by omega)])); (try go_simp); (try go_ints)
      refine hR _ _ (Ext.refl _) ?_ trivial
      rfl
    · intro γ w' he hf; clear hf; refine ⟨trivial, ?_⟩; intro R hR
      have hc := he.cells
      have cq0 := he.cell ca0
      have cq1 := he.cell ca1
      have cq2 := he.cell ca2
      have cq3 := he.cell ca3
      have cq4 := he.cell cb0
      have cq5 := he.cell cb1
      have cq6 := he.cell cb2
      have cq7 := he.cell cb3
      go_simp
      (try go_ints); (try (rw [if_neg (by omega)])); (try (rw [if_pos (by omega)])); (try go_simp); (try go_ints)
      refine hR _ _ (Ext.refl _) ?_ trivial
      rfl
    · intro γ w' he hf; clear hf; refine ⟨trivial, ?_⟩; intro R hR
      go_simp
      refine Calls.mono (show Calls _ _ _ w' (Gives w' fun r w'' => IsZ w'' (r) (x * t)) from mul_z _ _ x t w' (HX.out.1.ext (hx0.trans he).a3) (HY.out.2.ext (hx0.trans he).a3)) ?_
      rintro e w2 ⟨v, rfl, hv, hx⟩
      exact ⟨v, rfl, hR v w2 hx rfl hv⟩
    · intro γ w' he hf; clear hf; refine ⟨trivial, ?_⟩; intro R hR
      have hc := he.cells
      go_simp
      (try go_ints); (try (rw [if_neg (by omega)])); (try (rw [if_pos (by omega)])); (try go_simp); (try go_ints)
      refine hR _ _ (Ext.refl _) ?_ trivial
      rfl
    · intro γ w' he hf; clear hf; refine ⟨trivial, ?_⟩; intro R hR
      have hc := he.cells
      have cq0 := he.cell ca0
      have cq1 := he.cell ca1
      have cq2 := he.cell ca2
      have cq3 := he.cell ca3
      have cq4 := he.cell cb0
      have cq5 := he.cell cb1
      have cq6 := he.cell cb2
      have cq7 := he.cell cb3
      go_simp
      (try go_ints); (try (rw [if_neg (by omega)])); (try (rw [if_pos (by omega)])); (try go_simp); (try go_ints)
      refine hR _ _ (Ext.refl _) ?_ trivial
      rfl
    · intro γ w' he hf; clear hf; refine ⟨trivial, ?_⟩; intro R hR
      have hc := he.cells
      go_simp
      (try go_ints); (try (rw [if_neg (by omega)])); (try (rw [if_pos (by omega)])); (try go_simp); (try go_ints)
      refine hR _ _ (Ext.refl _) ?_ trivial
      rfl
    · intro γ w' he hf; clear hf; refine ⟨trivial, ?_⟩; intro R hR
      have hc := he.cells
      have cq0 := he.cell ca0
      have cq1 := he.cell ca1
      have cq2 := he.cell ca2
      have cq3 := he.cell ca3
      have cq4 := he.cell cb0
      have cq5 := he.cell cb1
      have cq6 := he.cell cb2
      have cq7 := he.cell cb3
      go_simp
      (try go_ints); (try (rw [if_neg (by omega)])); (try (rw [if_pos (by omega)])); (try go_simp); (try go_ints)
      refine hR _ _ (Ext.refl _) ?_ trivial
      rfl
  case hloc4 =>
    exact ⟨⟨⟨⟨⟨⟨⟨⟨⟨trivial, (fun γ γ' h => ⟨rfl, fun _ => rfl⟩)⟩, (fun γ γ' h => ⟨rfl, fun _ => rfl⟩)⟩, (fun γ γ' h => ⟨rfl, fun _ => rfl⟩)⟩, (fun γ γ' h => ⟨rfl, fun _ => rfl⟩)⟩, (fun γ γ' h => ⟨h 4 rfl, fun w' => (congrArg (fun a => IsZ w' (a) (x * t)) (h 4 rfl))⟩)⟩, (fun γ γ' h => ⟨rfl, fun _ => rfl⟩)⟩, (fun γ γ' h => ⟨rfl, fun _ => rfl⟩)⟩, (fun γ γ' h => ⟨rfl, fun _ => rfl⟩)⟩, (fun γ γ' h => ⟨rfl, fun _ => rfl⟩)⟩
  case hmono4 =>
    exact ⟨⟨⟨⟨⟨⟨⟨⟨⟨trivial, (fun γ wA w' e h => h)⟩, (fun γ wA w' e h => h)⟩, (fun γ wA w' e h => h)⟩, (fun γ wA w' e h => h)⟩, (fun γ wA w' e h => (show IsZ wA (γ 4) (x * t) from h).ext e)⟩, (fun γ wA w' e h => h)⟩, (fun γ wA w' e h => h)⟩, (fun γ wA w' e h => h)⟩, (fun γ wA w' e h => h)⟩
  intro γ w1 hx1 hF
  have p4 : IsZ w1 (γ 4) (x * t) := Each.get hF 4 (by decide)
  clear hF
  simp only [fillAll, gV, kv, List.getD_cons_zero, List.getD_cons_succ, Act.put, List.setIfInBounds_toArray, List.set_cons_zero, List.set_cons_succ, List.toList_toArray, List.drop_succ_cons, List.drop_zero, List.drop_nil, Nat.zero_add, Nat.reduceAdd]
  generalize γ 4 = g4 at *
  clear γ
  replace hx1 := hx0.trans hx1
  clear hx0 hc0 hf0 ca0 ca1 ca2 ca3 cb0 cb1 cb2 cb3
  have hc0 := hx1.cells
  have hf0 := hx1.frozens
  go_wp2_with fail
  refine Calls.mono (mul_z _ _ y s _ (HX.out.2.ext hx1.a3) (HY.out.1.ext hx1.a3)) ?_
  rintro e w9 ⟨g9, rfl, p9, hx9⟩
  replace p4 := p4.ext hx9
  replace hx1 := hx1.trans hx9
  clear hx9 hc0 hf0
  go_wp2_with fail
  refine Calls.mono (over_q _ _ (x * t) (y * s) _ (p4.has (by omega)) (p9.has (by omega))) ?_
  rintro e w2 ⟨r, rfl, hr, hx2⟩
  replace hx1 := hx1.trans hx2
  clear hx2 p4 p9
  rw [Hq.out] at hr
  obtain ⟨b5, A5, n5, c5, b6, A6, n6, c6, rfl⟩ := hr.cells
  have hc1 := hx1.cells
  have hf1 := hx1.frozens
  have Hfin := Lib.hid (fin_q hr hx1.a3 (NoDig.at_ hx1 (g := w.heap.size + 2) (by simp) (by simp [isDig])) (by omega))
  clear hr
  go_wp2
  refine bodyPost_ret (v := .tuple #[.agg #[.bool b5, .slice A5 n5 c5, .bool b6, .slice A6 n6 c6], .int .i64 0]) (by simp [results, Tryz.results57, go_sem, hc1]) rfl ?_
  obtain ⟨r, e, hr, hx⟩ := Hfin.out
  cases e
  exact Gives.mk ⟨_, rfl, hr⟩ hx
set_option maxHeartbeats 4000000 in
theorem add_q (v u : Value) (p q : Rat) (w : World) (hv : HasQ w v p) (hu : HasQ w u q) : Calls Tryz.prog 56 #[v, u] w (Gives w fun r w' => IsQ w' r (p + q)) := by
  have HV := Lib.hid hv; have HU := Lib.hid hu
  obtain ⟨b, A, n, c, b', A', n', c', x, y, rfl, hx, hy, sx, sy, hp⟩ := hv.form
  obtain ⟨d, E, m, e, d', E', m', e', s, t, rfl, hs, ht, ss, st, hq⟩ := hu.form
  have HX := Lib.hid (And.intro hx hy); have HY := Lib.hid (And.intro hs ht); clear hx hy hv hs ht hu
  have Hpq := Lib.hid (And.intro hp hq); clear hp hq
  go_enter Tryz.func56, Tryz.ntmps56
  go_wp2_with fail
  refine Calls.mono (sign_z _ y _ (HX.out.2.ext ((((Ext.refl w).alloc _).alloc _).alloc _))) ?_
  rintro e w1 ⟨r, rfl, rfl, hx1⟩
  have hc1 := hx1.cells
  have hf1 := hx1.frozens
  by_cases hy0 : y = 0
  · have hb : (y.sign == 0) = true := by rw [hy0]; rfl
    have Hz := Lib.hid (show p + q = q by rw [Hpq.out.1, hy0, Rat.divInt_zero]; exact Rat.zero_add _)
    clear hy0
    go_wp2_with fail
    refine Calls.mono (normal_q _ q _ (HU.out.ext hx1.a3)) ?_
    rintro e w2 ⟨r, rfl, hr, hx2⟩
    replace hx1 := hx1.trans hx2
    clear hx2 hc1 hf1
    rw [← Hz.out] at hr
    obtain ⟨b5, A5, n5, c5, b6, A6, n6, c6, rfl⟩ := hr.cells
    have hc1 := hx1.cells
    have hf1 := hx1.frozens
    have Hfin := Lib.hid (fin_q hr hx1.a3 (NoDig.at_ hx1 (g := w.heap.size + 2) (by simp) (by simp [isDig])) (by omega))
    clear hr
    go_wp2
    refine bodyPost_ret (v := .agg #[.bool b5, .slice A5 n5 c5, .bool b6, .slice A6 n6 c6]) (by simp [results, Tryz.results56, go_sem, hc1]) rfl ?_
    exact Hfin.out
  have hb : (y.sign == 0) = false := by simpa [Int.sign_eq_zero_iff_zero] using hy0
  have Hy0 := Lib.hid hy0; clear hy0
  go_wp2_with fail
  refine Calls.mono (sign_z _ t _ (HY.out.2.ext hx1.a3)) ?_
  rintro e w3 ⟨r, rfl, rfl, hx3⟩
  clear hc1 hf1
  replace hx1 := hx1.trans hx3
  clear hx3
  have hc1 := hx1.cells
  have hf1 := hx1.frozens
  by_cases ht0 : t = 0
  · have hb : (t.sign == 0) = true := by rw [ht0]; rfl
    have Hz := Lib.hid (show p + q = p by rw [Hpq.out.2, ht0, Rat.divInt_zero]; exact Rat.add_zero _)
    clear ht0
    go_wp2_with fail
    refine Calls.mono (normal_q _ p _ (HV.out.ext hx1.a3)) ?_
    rintro e w2 ⟨r, rfl, hr, hx2⟩
    replace hx1 := hx1.trans hx2
    clear hx2 hc1 hf1
    rw [← Hz.out] at hr
    obtain ⟨b5, A5, n5, c5, b6, A6, n6, c6, rfl⟩ := hr.cells
    have hc1 := hx1.cells
    have hf1 := hx1.frozens
    have Hfin := Lib.hid (fin_q hr hx1.a3 (NoDig.at_ hx1 (g := w.heap.size + 2) (by simp) (by simp [isDig])) (by omega))
    clear hr
    go_wp2
    refine bodyPost_ret (v := .agg #[.bool b5, .slice A5 n5 c5, .bool b6, .slice A6 n6 c6]) (by simp [results, Tryz.results56, go_sem, hc1]) rfl ?_
    exact Hfin.out
  have hb2 : (t.sign == 0) = false := by simpa [Int.sign_eq_zero_iff_zero] using ht0
  have Ht0 := Lib.hid ht0; clear ht0
  go_wp2_with fail
  refine Calls.mono (one_z _ y _ (HX.out.2.ext hx1.a3)) ?_
  rintro e w4 ⟨r, rfl, ⟨o1, rfl, ho1⟩, hx3⟩
  clear hc1 hf1
  replace hx1 := hx1.trans hx3
  clear hx3
  have hc1 := hx1.cells
  have hf1 := hx1.frozens
  have m1 := mul_sz sx st; have m2 := mul_sz ss sy; have m3 := mul_sz sy st
  have m4 : sz (x * t + s * y).natAbs ≤ 549755813889 := by
    have h1 := sz_mono (Int.natAbs_add_le (x * t) (s * y))
    have h2 := sz_add (x * t).natAbs (s * y).natAbs
    omega
  have Hz := Lib.hid (show p + q = Rat.divInt (x * t + s * y) (y * t) by rw [Hpq.out.1, Hpq.out.2, Rat.divInt_add_divInt _ _ Hy0.out Ht0.out])
  have H1 := Lib.hid ho1; clear ho1
  cases o1
  · go_wp2_with fail
    have l4 : w.heap.size + 3 ≤ w4.heap.size := by have := hx1.size; simpa using this
    have ca0 := hx1.a1.a1.box (g := w.heap.size) (i := 0) rfl rfl
    have ca1 := hx1.a1.a1.box (g := w.heap.size) (i := 1) rfl rfl
    have ca2 := hx1.a1.a1.box (g := w.heap.size) (i := 2) rfl rfl
    have ca3 := hx1.a1.a1.box (g := w.heap.size) (i := 3) rfl rfl
    have cb0 := hx1.a1.box (g := w.heap.size + 1) (i := 0) (by simp) rfl
    have cb1 := hx1.a1.box (g := w.heap.size + 1) (i := 1) (by simp) rfl
    have cb2 := hx1.a1.box (g := w.heap.size + 1) (i := 2) (by simp) rfl
    have cb3 := hx1.a1.box (g := w.heap.size + 1) (i := 3) (by simp) rfl
    refine wp_region_par (k := 12) (D := [36, 37, 38, 39, 40, 41, 42, 43, 44, 45, 46, 5]) (T := [[], [0], [], [2], [0, 1, 2, 3], [], [5], [], [7], [0, 1, 2, 3, 4, 5, 6, 7, 8], [0, 1, 2, 3, 4, 5, 6, 7, 8, 9], [], [0, 1, 2, 3, 4, 5, 6, 7, 8, 9, 10, 11]]) (EK := [2, 3]) (EV := [?e5x0, ?e5x1]) (VL := [(kv ?v5x0), (kv ?v5x1), (kv ?v5x2), (kv ?v5x3), (fun γ => γ 4), (kv ?v5x5), (kv ?v5x6), (kv ?v5x7), (kv ?v5x8), (fun γ => γ 9), (fun γ => γ 10), (fun γ => γ 11)]) (FL := fun γ w' => [True, True, True, True, IsZ w' (γ 4) (x * t), True, True, True, True, IsZ w' (γ 9) (s * y), IsZ w' (γ 10) (x * t + s * y), NewAt w' (γ 11) w4.heap.size #[.bool false, .slice none 0 0] 38]) ?hE5 (by kernel_rfl) (by kernel_rfl) (by rfl) (by kernel_rfl) ?hloc5 ?hmono5 ?hstep5 ?htail5
    case hE5 => refine ⟨?_, ?_, trivial⟩ <;> (simp only [List.getElem?_toArray, List.getElem?_cons_succ, List.getElem?_cons_zero]; rfl)
    case hstep5 =>
      refine ⟨⟨⟨⟨⟨⟨⟨⟨⟨⟨⟨⟨trivial, ?_⟩, ?_⟩, ?_⟩, ?_⟩, ?_⟩, ?_⟩, ?_⟩, ?_⟩, ?_⟩, ?_⟩, ?_⟩, ?_⟩
      · intro γ w' he hf; clear hf; refine ⟨trivial, ?_⟩; intro R hR
        have hc := he.cells
        go_simp
        (try go_ints); (try (rw [if_neg (by omega)])); (try (rw [if_pos (by omega)])); (try go_simp); (try go_ints)
        refine hR _ _ (Ext.refl _) ?_ trivial
        rfl
      · intro γ w' he hf; clear hf; refine ⟨trivial, ?_⟩; intro R hR
        have hc := he.cells
        have cq0 := he.cell ca0
        have cq1 := he.cell ca1
        have cq2 := he.cell ca2
        have cq3 := he.cell ca3
        have cq4 := he.cell cb0
        have cq5 := he.cell cb1
        have cq6 := he.cell cb2
        have cq7 := he.cell cb3
        go_simp
        (try go_ints); (try (rw [if_neg (by omega)])); (try (rw [if_pos (by omega)])); (try go_simp); (try go_ints)
        refine hR _ _ (Ext.refl _) ?_ trivial
        rfl
      · intro γ w' he hf; clear hf; refine ⟨trivial, ?_⟩; intro R hR
        have hc := he.cells
        go_simp
        (try go_ints); (try (rw [if_neg (by omega)])); (try (rw [if_pos (by omega)])); (try go_simp); (try go_ints)
        refine hR _ _ (Ext.refl _) ?_ trivial
        rfl
      · intro γ w' he hf; clear hf; refine ⟨trivial, ?_⟩; intro R hR
        have hc := he.cells
        have cq0 := he.cell ca0
        have cq1 := he.cell ca1
        have cq2 := he.cell ca2
        have cq3 := he.cell ca3
        have cq4 := he.cell cb0
        have cq5 := he.cell cb1
        have cq6 := he.cell cb2
        have cq7 := he.cell cb3
        go_simp
        (try go_ints); (try (rw [if_neg (by omega)])); (try (rw [if_pos (by omega)])); (try go_simp); (try go_ints)
        refine hR _ _ (Ext.refl _) ?_ trivial
        rfl
      · intro γ w' he hf; clear hf; refine ⟨trivial, ?_⟩; intro R hR
        go_simp
        refine Calls.mono (show Calls _ _ _ w' (Gives w' fun r w'' => IsZ w'' (r) (x * t)) from mul_z _ _ x t w' (HX.out.1.ext (hx1.trans he).a3) (HY.out.2.ext (hx1.trans he).a3)) ?_
        rintro e w2 ⟨v, rfl, hv, hx⟩
        exact ⟨v, rfl, hR v w2 hx rfl hv⟩
      · intro γ w' he hf; clear hf; refine ⟨trivial, ?_⟩; intro R hR
        have hc := he.cells
        go_simp
        (try go_ints); (try (rw [if_neg (by omega)])); (try (rw [if_pos (by omega)])); (try go_simp); (try go_ints)
        refine hR _ _ (Ext.refl _) ?_ trivial
        rfl
      · intro γ w' he hf; clear hf; refine ⟨trivial, ?_⟩; intro R hR
        have hc := he.cells
        have cq0 := he.cell ca0
        have cq1 := he.cell ca1
        have cq2 := he.cell ca2
        have cq3 := he.cell ca3
        have cq4 := he.cell cb0
        have cq5 := he.cell cb1
        have cq6 := he.cell cb2
        have cq7 := he.cell cb3
        go_simp
        (try go_ints); (try (rw [if_neg (by omega)])); (try (rw [if_pos (by omega)])); (try go_simp); (try go_ints)
        refine hR _ _ (Ext.refl _) ?_ trivial
        rfl
      · intro γ w' he hf; clear hf; refine ⟨trivial, ?_⟩; intro R hR
        have hc := he.cells
        go_simp
        (try go_ints); (try (rw [if_neg (by omega)])); (try (rw [if_pos (by omega)])); (try go_simp); (try go_ints)
        refine hR _ _ (Ext.refl _) ?_ trivial
        rfl
      · intro γ w' he hf; clear hf; refine ⟨trivial, ?_⟩; intro R hR
        have hc := he.cells
        have cq0 := he.cell ca0
        have cq1 := he.cell ca1
        have cq2 := he.cell ca2
        have cq3 := he.cell ca3
        have cq4 := he.cell cb0
        have cq5 := he.cell cb1
        have cq6 := he.cell cb2
        have cq7 := he.cell cb3
        go_simp
        (try go_ints); (try (rw [if_neg (by omega)])); (try (rw [if_pos (by omega)])); (try go_simp); (try go_ints)
        refine hR _ _ (Ext.refl _) ?_ trivial
        rfl
      · intro γ w' he hf; have f4 : IsZ w' (γ 4) (x * t) := hf 4 (by decide); clear hf; refine ⟨trivial, ?_⟩; intro R hR
        go_simp
        refine Calls.mono (show Calls _ _ _ w' (Gives w' fun r w'' => IsZ w'' (r) (s * y)) from mul_z _ _ s y w' (HY.out.1.ext (hx1.trans he).a3) (HX.out.2.ext (hx1.trans he).a3)) ?_
        rintro e w2 ⟨v, rfl, hv, hx⟩
        exact ⟨v, rfl, hR v w2 hx rfl hv⟩
      · intro γ w' he hf; have f4 : IsZ w' (γ 4) (x * t) := hf 4 (by decide); have f9 : IsZ w' (γ 9) (s * y) := hf 9 (by decide); clear hf; refine ⟨trivial, ?_⟩; intro R hR
        go_simp
        refine Calls.mono (show Calls _ _ _ w' (Gives w' fun r w'' => IsZ w'' (r) (x * t + s * y)) from add_z _ _ _ _ w' (f4.has (by omega)) (f9.has (by omega))) ?_
        rintro e w2 ⟨v, rfl, hv, hx⟩
        exact ⟨v, rfl, hR v w2 hx rfl hv⟩
      · intro γ w' he hf; clear hf; refine ⟨trivial, ?_⟩; intro R hR
        go_simp
        exact hR _ _ ((Ext.refl _).alloc _) rfl (NewAt.mk (Nat.le_trans (by simp) he.size) (by simp [isDig]))
    case hloc5 =>
      exact ⟨⟨⟨⟨⟨⟨⟨⟨⟨⟨⟨⟨trivial, (fun γ γ' h => ⟨rfl, fun _ => rfl⟩)⟩, (fun γ γ' h => ⟨rfl, fun _ => rfl⟩)⟩, (fun γ γ' h => ⟨rfl, fun _ => rfl⟩)⟩, (fun γ γ' h => ⟨rfl, fun _ => rfl⟩)⟩, (fun γ γ' h => ⟨h 4 rfl, fun w' => (congrArg (fun a => IsZ w' (a) (x * t)) (h 4 rfl))⟩)⟩, (fun γ γ' h => ⟨rfl, fun _ => rfl⟩)⟩, (fun γ γ' h => ⟨rfl, fun _ => rfl⟩)⟩, (fun γ γ' h => ⟨rfl, fun _ => rfl⟩)⟩, (fun γ γ' h => ⟨rfl, fun _ => rfl⟩)⟩, (fun γ γ' h => ⟨h 9 rfl, fun w' => (congrArg (fun a => IsZ w' (a) (s * y)) (h 9 rfl))⟩)⟩, (fun γ γ' h => ⟨h 10 rfl, fun w' => (congrArg (fun a => IsZ w' (a) (x * t + s * y)) (h 10 rfl))⟩)⟩, (fun γ γ' h => ⟨h 11 rfl, fun w' => (congrArg (fun a => NewAt w' (a) w4.heap.size #[.bool false, .slice none 0 0] 38) (h 11 rfl))⟩)⟩
    case hmono5 =>
      exact ⟨⟨⟨⟨⟨⟨⟨⟨⟨⟨⟨⟨trivial, (fun γ wA w' e h => h)⟩, (fun γ wA w' e h => h)⟩, (fun γ wA w' e h => h)⟩, (fun γ wA w' e h => h)⟩, (fun γ wA w' e h => (show IsZ wA (γ 4) (x * t) from h).ext e)⟩, (fun γ wA w' e h => h)⟩, (fun γ wA w' e h => h)⟩, (fun γ wA w' e h => h)⟩, (fun γ wA w' e h => h)⟩, (fun γ wA w' e h => (show IsZ wA (γ 9) (s * y) from h).ext e)⟩, (fun γ wA w' e h => (show IsZ wA (γ 10) (x * t + s * y) from h).ext e)⟩, (fun γ wA w' e h => (show NewAt wA (γ 11) w4.heap.size #[.bool false, .slice none 0 0] 38 from h).ext e)⟩
    intro γ w6 hx6 hF
    have p4 : IsZ w6 (γ 4) (x * t) := Each.get hF 4 (by decide)
    have p9 : IsZ w6 (γ 9) (s * y) := Each.get hF 9 (by decide)
    have p10 : IsZ w6 (γ 10) (x * t + s * y) := Each.get hF 10 (by decide)
    have p11 : NewAt w6 (γ 11) w4.heap.size #[.bool false, .slice none 0 0] 38 := Each.get hF 11 (by decide)
    clear hF
    simp only [fillAll, gV, kv, List.getD_cons_zero, List.getD_cons_succ, Act.put, List.setIfInBounds_toArray, List.set_cons_zero, List.set_cons_succ, List.toList_toArray, List.drop_succ_cons, List.drop_zero, List.drop_nil, Nat.zero_add, Nat.reduceAdd]
    generalize γ 4 = g4 at *
    generalize γ 9 = g9 at *
    generalize γ 10 = g10 at *
    generalize γ 11 = g11 at *
    clear γ
    obtain ⟨gb, rfl, hgb, eb⟩ := p11
    obtain ⟨b7, A7, n7, c7, rfl⟩ := p10.cells
    clear hc1 hf1 ca0 ca1 ca2 ca3 cb0 cb1 cb2 cb3 p4 p9
    replace hx1 := hx1.trans hx6
    obtain ⟨ceb0, ceb1⟩ := eb.cells2
    have feb := eb.frozen
    go_upto_region 8 with (fail)
    obtain ⟨W8, eW, eb', U⟩ := eb.put2 (.bool b7) (.slice A7 n7 c7) rfl rfl
    rw [← eW]
    clear eW eb
    replace p10 := p10.kd U.kd
    replace hx1 := U.from_ hx1 (by simp <;> omega)
    have eb := eb'
    clear U eb'
    clear ceb0 ceb1 feb
    obtain ⟨ceb0, ceb1⟩ := eb.cells2
    have feb := eb.frozen
    have hc1 := hx1.cells
    have ca0 := hx1.a1.a1.box (g := w.heap.size) (i := 0) rfl rfl
    have ca1 := hx1.a1.a1.box (g := w.heap.size) (i := 1) rfl rfl
    have ca2 := hx1.a1.a1.box (g := w.heap.size) (i := 2) rfl rfl
    have ca3 := hx1.a1.a1.box (g := w.heap.size) (i := 3) rfl rfl
    have cb0 := hx1.a1.box (g := w.heap.size + 1) (i := 0) (by simp) rfl
    have cb1 := hx1.a1.box (g := w.heap.size + 1) (i := 1) (by simp) rfl
    have cb2 := hx1.a1.box (g := w.heap.size + 1) (i := 2) (by simp) rfl
    have cb3 := hx1.a1.box (g := w.heap.size + 1) (i := 3) (by simp) rfl
    refine wp_region_par (k := 6) (D := [47, 48, 49, 50, 51, 52]) (T := [[], [], [1], [], [3], [1, 2, 3, 4], [0, 1, 2, 3, 4, 5], [0, 1, 2, 3, 4, 5, 6]]) (EK := [5, 2, 3]) (EV := [?e6x0, ?e6x1, ?e6x2]) (VL := [(kv ?v6x0), (kv ?v6x1), (kv ?v6x2), (kv ?v6x3), (kv ?v6x4), (fun γ => γ 5)]) (FL := fun γ w' => [True, True, True, True, True, IsZ w' (γ 5) (y * t)]) ?hE6 (by kernel_rfl) (by kernel_rfl) (by rfl) (by kernel_rfl) ?hloc6 ?hmono6 ?hstep6 ?htail6
    case hE6 => refine ⟨?_, ?_, ?_, trivial⟩ <;> (simp only [List.getElem?_toArray, List.getElem?_cons_succ, List.getElem?_cons_zero]; rfl)
    case hstep6 =>
      refine ⟨⟨⟨⟨⟨⟨trivial, ?_⟩, ?_⟩, ?_⟩, ?_⟩, ?_⟩, ?_⟩
      · intro γ w' he hf; clear hf; refine ⟨trivial, ?_⟩; intro R hR
        have hc := he.cells
        have cq0 := he.cell ceb0
        have cq1 := he.cell ceb1
        have cq2 := he.cell ca0
        have cq3 := he.cell ca1
        have cq4 := he.cell ca2
        have cq5 := he.cell ca3
        have cq6 := he.cell cb0
        have cq7 := he.cell cb1
        have cq8 := he.cell cb2
        have cq9 := he.cell cb3
        go_simp
        (try go_ints); (try (rw [if_neg (by omega)])); (try (rw [if_pos (by omega)])); (try go_simp); (try go_ints)
        refine hR _ _ (Ext.refl _) ?_ trivial
        rfl
      · intro γ w' he hf; clear hf; refine ⟨trivial, ?_⟩; intro R hR
        have hc := he.cells
        go_simp
        (try go_ints); (try (rw [if_neg (by omega)])); (try (rw [if_pos (by omega)])); (try go_simp); (try go_ints)
        refine hR _ _ (Ext.refl _) ?_ trivial
        rfl
      · intro γ w' he hf; clear hf; refine ⟨trivial, ?_⟩; intro R hR
        have hc := he.cells
        have cq0 := he.cell ceb0
        have cq1 := he.cell ceb1
        have cq2 := he.cell ca0
        have cq3 := he.cell ca1
        have cq4 := he.cell ca2
        have cq5 := he.cell ca3
        have cq6 := he.cell cb0
        have cq7 := he.cell cb1
        have cq8 := he.cell cb2
        have cq9 := he.cell cb3
        go_simp
        (try go_ints); (try (rw [if_neg (by omega)])); (try (rw [if_pos (by omega)])); (try go_simp); (try go_ints)
        refine hR _ _ (Ext.refl _) ?_ trivial
        rfl
      · intro γ w' he hf; clear hf; refine ⟨trivial, ?_⟩; intro R hR
        have hc := he.cells
        go_simp
        (try go_ints); (try (rw [if_neg (by omega)])); (try (rw [if_pos (by omega)])); (try go_simp); (try go_ints)
        refine hR _ _ (Ext.refl _) ?_ trivial
        rfl
      · intro γ w' he hf; clear hf; refine ⟨trivial, ?_⟩; intro R hR
        have hc := he.cells
        have cq0 := he.cell ceb0
        have cq1 := he.cell ceb1
        have cq2 := he.cell ca0
        have cq3 := he.cell ca1
        have cq4 := he.cell ca2
        have cq5 := he.cell ca3
        have cq6 := he.cell cb0
        have cq7 := he.cell cb1
        have cq8 := he.cell cb2
        have cq9 := he.cell cb3
        go_simp
        (try go_ints); (try (rw [if_neg (by omega)])); (try (rw [if_pos (by omega)])); (try go_simp); (try go_ints)
        refine hR _ _ (Ext.refl _) ?_ trivial
        rfl
      · intro γ w' he hf; clear hf; refine ⟨trivial, ?_⟩; intro R hR
        go_simp
        refine Calls.mono (show Calls _ _ _ w' (Gives w' fun r w'' => IsZ w'' (r) (y * t)) from mul_z _ _ y t w' (HX.out.2.ext (hx1.trans he).a3) (HY.out.2.ext (hx1.trans he).a3)) ?_
        rintro e w2 ⟨v, rfl, hv, hx⟩
        exact ⟨v, rfl, hR v w2 hx rfl hv⟩
    case hloc6 =>
      exact ⟨⟨⟨⟨⟨⟨trivial, (fun γ γ' h => ⟨rfl, fun _ => rfl⟩)⟩, (fun γ γ' h => ⟨rfl, fun _ => rfl⟩)⟩, (fun γ γ' h => ⟨rfl, fun _ => rfl⟩)⟩, (fun γ γ' h => ⟨rfl, fun _ => rfl⟩)⟩, (fun γ γ' h => ⟨rfl, fun _ => rfl⟩)⟩, (fun γ γ' h => ⟨h 5 rfl, fun w' => (congrArg (fun a => IsZ w' (a) (y * t)) (h 5 rfl))⟩)⟩
    case hmono6 =>
      exact ⟨⟨⟨⟨⟨⟨trivial, (fun γ wA w' e h => h)⟩, (fun γ wA w' e h => h)⟩, (fun γ wA w' e h => h)⟩, (fun γ wA w' e h => h)⟩, (fun γ wA w' e h => h)⟩, (fun γ wA w' e h => (show IsZ wA (γ 5) (y * t) from h).ext e)⟩
    intro γ w8 hx9 hF
    have p5 : IsZ w8 (γ 5) (y * t) := Each.get hF 5 (by decide)
    clear hF
    simp only [fillAll, gV, kv, List.getD_cons_zero, List.getD_cons_succ, Act.put, List.setIfInBounds_toArray, List.set_cons_zero, List.set_cons_succ, List.toList_toArray, List.drop_succ_cons, List.drop_zero, List.drop_nil, Nat.zero_add, Nat.reduceAdd]
    generalize γ 5 = g5 at *
    clear γ
    go_wp2_with fail
    refine Calls.mono (over_q _ _ (x * t + s * y) (y * t) _ ((p10.ext hx9).has (by omega)) (p5.has (by omega))) ?_
    rintro e w10 ⟨r, rfl, hr, hx10⟩
    rw [← Hz.out] at hr
    clear hc1 p5 ca0 ca1 ca2 ca3 cb0 cb1 cb2 cb3 ceb0 ceb1 feb
    replace hx1 := (hx1.trans hx9).trans hx10
    clear hx9 hx10
    obtain ⟨b5, A5, n5, c5, b6, A6, n6, c6, rfl⟩ := hr.cells
    have hc1 := hx1.cells
    have hf1 := hx1.frozens
    have Hfin := Lib.hid (fin_q hr hx1.a3 (NoDig.at_ hx1 (g := w.heap.size + 2) (by simp) (by simp [isDig])) (by omega))
    clear hr
    go_wp2
    refine bodyPost_ret (v := .agg #[.bool b5, .slice A5 n5 c5, .bool b6, .slice A6 n6 c6]) (by simp [results, Tryz.results56, go_sem, hc1]) rfl ?_
    exact Hfin.out
  · go_wp2_with fail
    refine Calls.mono (one_z _ t _ (HY.out.2.ext hx1.a3)) ?_
    rintro e w5 ⟨r, rfl, ⟨o2, rfl, ho2⟩, hx3⟩
    clear hc1 hf1
    replace hx1 := hx1.trans hx3
    clear hx3
    have hc1 := hx1.cells
    have hf1 := hx1.frozens
    have H2 := Lib.hid ho2; clear ho2
    cases o2
    · go_wp2_with fail
      have l4 : w.heap.size + 3 ≤ w5.heap.size := by have := hx1.size; simpa using this
      have ca0 := hx1.a1.a1.box (g := w.heap.size) (i := 0) rfl rfl
      have ca1 := hx1.a1.a1.box (g := w.heap.size) (i := 1) rfl rfl
      have ca2 := hx1.a1.a1.box (g := w.heap.size) (i := 2) rfl rfl
      have ca3 := hx1.a1.a1.box (g := w.heap.size) (i := 3) rfl rfl
      have cb0 := hx1.a1.box (g := w.heap.size + 1) (i := 0) (by simp) rfl
      have cb1 := hx1.a1.box (g := w.heap.size + 1) (i := 1) (by simp) rfl
      have cb2 := hx1.a1.box (g := w.heap.size + 1) (i := 2) (by simp) rfl
      have cb3 := hx1.a1.box (g := w.heap.size + 1) (i := 3) (by simp) rfl
      refine wp_region_par (k := 12) (D := [36, 37, 38, 39, 40, 41, 42, 43, 44, 45, 46, 5]) (T := [[], [0], [], [2], [0, 1, 2, 3], [], [5], [], [7], [0, 1, 2, 3, 4, 5, 6, 7, 8], [0, 1, 2, 3, 4, 5, 6, 7, 8, 9], [], [0, 1, 2, 3, 4, 5, 6, 7, 8, 9, 10, 11]]) (EK := [2, 3]) (EV := [?e7x0, ?e7x1]) (VL := [(kv ?v7x0), (kv ?v7x1), (kv ?v7x2), (kv ?v7x3), (fun γ => γ 4), (kv ?v7x5), (kv ?v7x6), (kv ?v7x7), (kv ?v7x8), (fun γ => γ 9), (fun γ => γ 10), (fun γ => γ 11)]) (FL := fun γ w' => [True, True, True, True, IsZ w' (γ 4) (x * t), True, True, True, True, IsZ w' (γ 9) (s * y), IsZ w' (γ 10) (x * t + s * y), NewAt w' (γ 11) w5.heap.size #[.bool false, .slice none 0 0] 38]) ?hE7 (by kernel_rfl) (by kernel_rfl) (by rfl) (by kernel_rfl) ?hloc7 ?hmono7 ?hstep7 ?htail7
      case hE7 => refine ⟨?_, ?_, trivial⟩ <;> (simp only [List.getElem?_toArray, List.getElem?_cons_succ, List.getElem?_cons_zero]; rfl)
      case hstep7 =>
        refine ⟨⟨⟨⟨⟨⟨⟨⟨⟨⟨⟨⟨trivial, ?_⟩, ?_⟩, ?_⟩, ?_⟩, ?_⟩, ?_⟩, ?_⟩, ?_⟩, ?_⟩, ?_⟩, ?_⟩, ?_⟩
        · intro γ w' he hf; clear hf; refine ⟨trivial, ?_⟩; intro R hR
          have hc := he.cells
          go_simp
          (try go_ints); (try (rw [if_neg (by omega)])); (try (rw [if_pos (by omega)])); (try go_simp); (try go_ints)
          refine hR _ _ (Ext.refl _) ?_ trivial
          rfl
        · intro γ w' he hf; clear hf; refine ⟨trivial, ?_⟩; intro R hR
          have hc := he.cells
          have cq0 := he.cell ca0
          have cq1 := he.cell ca1
          have cq2 := he.cell ca2
          have cq3 := he.cell ca3
          have cq4 := he.cell cb0
          have cq5 := he.cell cb1
          have cq6 := he.cell cb2
          have cq7 := he.cell cb3
          go_simp
          (try go_ints); (try (rw [if_neg (by omega)])); (try (rw [if_pos (by omega)])); (try go_simp); (try go_ints)
          refine hR _ _ (Ext.refl _) ?_ trivial
          rfl
        · intro γ w' he hf; clear hf; refine ⟨trivial, ?_⟩; intro R hR
          have hc := he.cells
          go_simp
          (try go_ints); (try (rw [if_neg (by omega)])); (try (rw [if_pos (by omega)])); (try go_simp); (try go_ints)
          refine hR _ _ (Ext.refl _) ?_ trivial
          rfl
        · intro γ w' he hf; clear hf; refine ⟨trivial, ?_⟩; intro R hR
          have hc := he.cells
          have cq0 := he.cell ca0
          have cq1 := he.cell ca1
          have cq2 := he.cell ca2
          have cq3 := he.cell ca3
          have cq4 := he.cell cb0
          have cq5 := he.cell cb1
          have cq6 := he.cell cb2
          have cq7 := he.cell cb3
          go_simp
          (try go_ints); (try (rw [if_neg (by omega)])); (try (rw [if_pos (by omega)])); (try go_simp); (try go_ints)
          refine hR _ _ (Ext.refl _) ?_ trivial
          rfl
        · intro γ w' he hf; clear hf; refine ⟨trivial, ?_⟩; intro R hR
          go_simp
          refine Calls.mono (show Calls _ _ _ w' (Gives w' fun r w'' => IsZ w'' (r) (x * t)) from mul_z _ _ x t w' (HX.out.1.ext (hx1.trans he).a3) (HY.out.2.ext (hx1.trans he).a3)) ?_
          rintro e w2 ⟨v, rfl, hv, hx⟩
          exact ⟨v, rfl, hR v w2 hx rfl hv⟩
        · intro γ w' he hf; clear hf; refine ⟨trivial, ?_⟩; intro R hR
          have hc := he.cells
          go_simp
          (try go_ints); (try (rw [if_neg (by omega)])); (try (rw [if_pos (by omega)])); (try go_simp); (try go_ints)
          refine hR _ _ (Ext.refl _) ?_ trivial
          rfl
        · intro γ w' he hf; clear hf; refine ⟨trivial, ?_⟩; intro R hR
          have hc := he.cells
          have cq0 := he.cell ca0
          have cq1 := he.cell ca1
          have cq2 := he.cell ca2
          have cq3 := he.cell ca3
          have cq4 := he.cell cb0
          have cq5 := he.cell cb1
          have cq6 := he.cell cb2
          have cq7 := he.cell cb3
          go_simp
          (try go_ints); (try (rw [if_neg (by omega)])); (try (rw [if_pos (by omega)])); (try go_simp); (try go_ints)
          refine hR _ _ (Ext.refl _) ?_ trivial
          rfl
        · intro γ w' he hf; clear hf; refine ⟨trivial, ?_⟩; intro R hR
          have hc := he.cells
          go_simp
          (try go_ints); (try (rw [if_neg (by omega)])); (try (rw [if_pos (by omega)])); (try go_simp); (try go_ints)
          refine hR _ _ (Ext.refl _) ?_ trivial
          rfl
        · intro γ w' he hf; clear hf; refine ⟨trivial, ?_⟩; intro R hR
          have hc := he.cells
          have cq0 := he.cell ca0
          have cq1 := he.cell ca1
          have cq2 := he.cell ca2
          have cq3 := he.cell ca3
          have cq4 := he.cell cb0
          have cq5 := he.cell cb1
          have cq6 := he.cell cb2
          have cq7 := he.cell cb3
          go_simp
          (try go_ints); (try (rw [if_neg (by omega)])); (try (rw [if_pos (by omega)])); (try go_simp); (try go_ints)
          refine hR _ _ (Ext.refl _) ?_ trivial
          rfl
        · intro γ w' he hf; have f4 : IsZ w' (γ 4) (x * t) := hf 4 (by decide); clear hf; refine ⟨trivial, ?_⟩; intro R hR
          go_simp
          refine Calls.mono (show Calls _ _ _ w' (Gives w' fun r w'' => IsZ w'' (r) (s * y)) from mul_z _ _ s y w' (HY.out.1.ext (hx1.trans he).a3) (HX.out.2.ext (hx1.trans he).a3)) ?_
          rintro e w2 ⟨v, rfl, hv, hx⟩
          exact ⟨v, rfl, hR v w2 hx rfl hv⟩
        · intro γ w' he hf; have f4 : IsZ w' (γ 4) (x * t) := hf 4 (by decide); have f9 : IsZ w' (γ 9) (s * y) := hf 9 (by decide); clear hf; refine ⟨trivial, ?_⟩; intro R hR
          go_simp
          refine Calls.mono (show Calls _ _ _ w' (Gives w' fun r w'' => IsZ w'' (r) (x * t + s * y)) from add_z _ _ _ _ w' (f4.has (by omega)) (f9.has (by omega))) ?_
          rintro e w2 ⟨v, rfl, hv, hx⟩
          exact ⟨v, rfl, hR v w2 hx rfl hv⟩
        · intro γ w' he hf; clear hf; refine ⟨trivial, ?_⟩; intro R hR
          go_simp
          exact hR _ _ ((Ext.refl _).alloc _) rfl (NewAt.mk (Nat.le_trans (by simp) he.size) (by simp [isDig]))
      case hloc7 =>
        exact ⟨⟨⟨⟨⟨⟨⟨⟨⟨⟨⟨⟨trivial, (fun γ γ' h => ⟨rfl, fun _ => rfl⟩)⟩, (fun γ γ' h => ⟨rfl, fun _ => rfl⟩)⟩, (fun γ γ' h => ⟨rfl, fun _ => rfl⟩)⟩, (fun γ γ' h => ⟨rfl, fun _ => rfl⟩)⟩, (fun γ γ' h => ⟨h 4 rfl, fun w' => (congrArg (fun a => IsZ w' (a) (x * t)) (h 4 rfl))⟩)⟩, (fun γ γ' h => ⟨rfl, fun _ => rfl⟩)⟩, (fun γ γ' h => ⟨rfl, fun _ => rfl⟩)⟩, (fun γ γ' h => ⟨rfl, fun _ => rfl⟩)⟩, (fun γ γ' h => ⟨rfl, fun _ => rfl⟩)⟩, (fun γ γ' h => ⟨h 9 rfl, fun w' => (congrArg (fun a => IsZ w' (a) (s * y)) (h 9 rfl))⟩)⟩, (fun γ γ' h => ⟨h 10 rfl, fun w' => (congrArg (fun a => IsZ w' (a) (x * t + s * y)) (h 10 rfl))⟩)⟩, (fun γ γ' h => ⟨h 11 rfl, fun w' => (congrArg (fun a => NewAt w' (a) w5.heap.size #[.bool false, .slice none 0 0] 38) (h 11 rfl))⟩)⟩
      case hmono7 =>
        exact ⟨⟨⟨⟨⟨⟨⟨⟨⟨⟨⟨⟨trivial, (fun γ wA w' e h => h)⟩, (fun γ wA w' e h => h)⟩, (fun γ wA w' e h => h)⟩, (fun γ wA w' e h => h)⟩, (fun γ wA w' e h => (show IsZ wA (γ 4) (x * t) from h).ext e)⟩, (fun γ wA w' e h => h)⟩, (fun γ wA w' e h => h)⟩, (fun γ wA w' e h => h)⟩, (fun γ wA w' e h => h)⟩, (fun γ wA w' e h => (show IsZ wA (γ 9) (s * y) from h).ext e)⟩, (fun γ wA w' e h => (show IsZ wA (γ 10) (x * t + s * y) from h).ext e)⟩, (fun γ wA w' e h => (show NewAt wA (γ 11) w5.heap.size #[.bool false, .slice none 0 0] 38 from h).ext e)⟩
      intro γ w6 hx6 hF
      have p4 : IsZ w6 (γ 4) (x * t) := Each.get hF 4 (by decide)
      have p9 : IsZ w6 (γ 9) (s * y) := Each.get hF 9 (by decide)
      have p10 : IsZ w6 (γ 10) (x * t + s * y) := Each.get hF 10 (by decide)
      have p11 : NewAt w6 (γ 11) w5.heap.size #[.bool false, .slice none 0 0] 38 := Each.get hF 11 (by decide)
      clear hF
      simp only [fillAll, gV, kv, List.getD_cons_zero, List.getD_cons_succ, Act.put, List.setIfInBounds_toArray, List.set_cons_zero, List.set_cons_succ, List.toList_toArray, List.drop_succ_cons, List.drop_zero, List.drop_nil, Nat.zero_add, Nat.reduceAdd]
      generalize γ 4 = g4 at *
      generalize γ 9 = g9 at *
      generalize γ 10 = g10 at *
      generalize γ 11 = g11 at *
      clear γ
      obtain ⟨gb, rfl, hgb, eb⟩ := p11
      obtain ⟨b7, A7, n7, c7, rfl⟩ := p10.cells
      clear hc1 hf1 ca0 ca1 ca2 ca3 cb0 cb1 cb2 cb3 p4 p9
      replace hx1 := hx1.trans hx6
      obtain ⟨ceb0, ceb1⟩ := eb.cells2
      have feb := eb.frozen
      go_upto_region 8 with (fail)
      obtain ⟨W8, eW, eb', U⟩ := eb.put2 (.bool b7) (.slice A7 n7 c7) rfl rfl
      rw [← eW]
      clear eW eb
      replace p10 := p10.kd U.kd
      replace hx1 := U.from_ hx1 (by simp <;> omega)
      have eb := eb'
      clear U eb'
      clear ceb0 ceb1 feb
      obtain ⟨ceb0, ceb1⟩ := eb.cells2
      have feb := eb.frozen
      have hc1 := hx1.cells
      have ca0 := hx1.a1.a1.box (g := w.heap.size) (i := 0) rfl rfl
      have ca1 := hx1.a1.a1.box (g := w.heap.size) (i := 1) rfl rfl
      have ca2 := hx1.a1.a1.box (g := w.heap.size) (i := 2) rfl rfl
      have ca3 := hx1.a1.a1.box (g := w.heap.size) (i := 3) rfl rfl
      have cb0 := hx1.a1.box (g := w.heap.size + 1) (i := 0) (by simp) rfl
      have cb1 := hx1.a1.box (g := w.heap.size + 1) (i := 1) (by simp) rfl
      have cb2 := hx1.a1.box (g := w.heap.size + 1) (i := 2) (by simp) rfl
      have cb3 := hx1.a1.box (g := w.heap.size + 1) (i := 3) (by simp) rfl
      refine wp_region_par (k := 6) (D := [47, 48, 49, 50, 51, 52]) (T := [[], [], [1], [], [3], [1, 2, 3, 4], [0, 1, 2, 3, 4, 5], [0, 1, 2, 3, 4, 5, 6]]) (EK := [5, 2, 3]) (EV := [?e8x0, ?e8x1, ?e8x2]) (VL := [(kv ?v8x0), (kv ?v8x1), (kv ?v8x2), (kv ?v8x3), (kv ?v8x4), (fun γ => γ 5)]) (FL := fun γ w' => [True, True, True, True, True, IsZ w' (γ 5) (y * t)]) ?hE8 (by kernel_rfl) (by kernel_rfl) (by rfl) (by kernel_rfl) ?hloc8 ?hmono8 ?hstep8 ?htail8
      case hE8 => refine ⟨?_, ?_, ?_, trivial⟩ <;> (simp only [List.getElem?_toArray, List.getElem?_cons_succ, List.getElem?_cons_zero]; rfl)
      case hstep8 =>
        refine ⟨⟨⟨⟨⟨⟨trivial, ?_⟩, ?_⟩, ?_⟩, ?_⟩, ?_⟩, ?_⟩
        · intro γ w' he hf; clear hf; refine ⟨trivial, ?_⟩; intro R hR
          have hc := he.cells
          have cq0 := he.cell ceb0
          have cq1 := he.cell ceb1
          have cq2 := he.cell ca0
          have cq3 := he.cell ca1
          have cq4 := he.cell ca2
          have cq5 := he.cell ca3
          have cq6 := he.cell cb0
          have cq7 := he.cell cb1
          have cq8 := he.cell cb2
          have cq9 := he.cell cb3
          go_simp
          (try go_ints); (try (rw [if_neg (by omega)])); (try (rw [if_pos (by omega)])); (try go_simp); (try go_ints)
          refine hR _ _ (Ext.refl _) ?_ trivial
          rfl
        · intro γ w' he hf; clear hf; refine ⟨trivial, ?_⟩; intro R hR
          have hc := he.cells
          go_simp
          (try go_ints); (try (rw [if_neg (by omega)])); (try (rw [if_pos (by omega)])); (try go_simp); (try go_ints)
          refine hR _ _ (Ext.refl _) ?_ trivial
          rfl
        · intro γ w' he hf; clear hf; refine ⟨trivial, ?_⟩; intro R hR
          have hc := he.cells
          have cq0 := he.cell ceb0
          have cq1 := he.cell ceb1
          have cq2 := he.cell ca0
          have cq3 := he.cell ca1
          have cq4 := he.cell ca2
          have cq5 := he.cell ca3
          have cq6 := he.cell cb0
          have cq7 := he.cell cb1
          have cq8 := he.cell cb2
          have cq9 := he.cell cb3
          go_simp
          (try go_ints); (try (rw [if_neg (by omega)])); (try (rw [if_pos (by omega)])); (try go_simp); (try go_ints)
          refine hR _ _ (Ext.refl _) ?_ trivial
          rfl
        · intro γ w' he hf; clear hf; refine ⟨trivial, ?_⟩; intro R hR
          have hc := he.cells
          go_simp
          (try go_ints); (try (rw [if_neg (by omega)])); (try (rw [if_pos (by omega)])); (try go_simp); (try go_ints)
          refine hR _ _ (Ext.refl _) ?_ trivial
          rfl
        · intro γ w' he hf; clear hf; refine ⟨trivial, ?_⟩; intro R hR
          have hc := he.cells
          have cq0 := he.cell ceb0
          have cq1 := he.cell ceb1
          have cq2 := he.cell ca0
          have cq3 := he.cell ca1
          have cq4 := he.cell ca2
          have cq5 := he.cell ca3
          have cq6 := he.cell cb0
          have cq7 := he.cell cb1
          have cq8 := he.cell cb2
          have cq9 := he.cell cb3
          go_simp
          (try go_ints); (try (rw [if_neg (by omega)])); (try (rw [if_pos (by omega)])); (try go_simp); (try go_ints)
          refine hR _ _ (Ext.refl _) ?_ trivial
          rfl
        · intro γ w' he hf; clear hf; refine ⟨trivial, ?_⟩; intro R hR
          go_simp
          refine Calls.mono (show Calls _ _ _ w' (Gives w' fun r w'' => IsZ w'' (r) (y * t)) from mul_z _ _ y t w' (HX.out.2.ext (hx1.trans he).a3) (HY.out.2.ext (hx1.trans he).a3)) ?_
          rintro e w2 ⟨v, rfl, hv, hx⟩
          exact ⟨v, rfl, hR v w2 hx rfl hv⟩
      case hloc8 =>
        exact ⟨⟨⟨⟨⟨⟨trivial, (fun γ γ' h => ⟨rfl, fun _ => rfl⟩)⟩, (fun γ γ' h => ⟨rfl, fun _ => rfl⟩)⟩, (fun γ γ' h => ⟨rfl, fun _ => rfl⟩)⟩, (fun γ γ' h => ⟨rfl, fun _ => rfl⟩)⟩, (fun γ γ' h => ⟨rfl, fun _ => rfl⟩)⟩, (fun γ γ' h => ⟨h 5 rfl, fun w' => (congrArg (fun a => IsZ w' (a) (y * t)) (h 5 rfl))⟩)⟩
      case hmono8 =>
        exact ⟨⟨⟨⟨⟨⟨trivial, (fun γ wA w' e h => h)⟩, (fun γ wA w' e h => h)⟩, (fun γ wA w' e h => h)⟩, (fun γ wA w' e h => h)⟩, (fun γ wA w' e h => h)⟩, (fun γ wA w' e h => (show IsZ wA (γ 5) (y * t) from h).ext e)⟩
      intro γ w8 hx9 hF
      have p5 : IsZ w8 (γ 5) (y * t) := Each.get hF 5 (by decide)
      clear hF
      simp only [fillAll, gV, kv, List.getD_cons_zero, List.getD_cons_succ, Act.put, List.setIfInBounds_toArray, List.set_cons_zero, List.set_cons_succ, List.toList_toArray, List.drop_succ_cons, List.drop_zero, List.drop_nil, Nat.zero_add, Nat.reduceAdd]
      generalize γ 5 = g5 at *
      clear γ
      go_wp2_with fail
      refine Calls.mono (over_q _ _ (x * t + s * y) (y * t) _ ((p10.ext hx9).has (by omega)) (p5.has (by omega))) ?_
      rintro e w10 ⟨r, rfl, hr, hx10⟩
      rw [← Hz.out] at hr
      clear hc1 p5 ca0 ca1 ca2 ca3 cb0 cb1 cb2 cb3 ceb0 ceb1 feb
      replace hx1 := (hx1.trans hx9).trans hx10
      clear hx9 hx10
      obtain ⟨b5, A5, n5, c5, b6, A6, n6, c6, rfl⟩ := hr.cells
      have hc1 := hx1.cells
      have hf1 := hx1.frozens
      have Hfin := Lib.hid (fin_q hr hx1.a3 (NoDig.at_ hx1 (g := w.heap.size + 2) (by simp) (by simp [isDig])) (by omega))
      clear hr
      go_wp2
      refine bodyPost_ret (v := .agg #[.bool b5, .slice A5 n5 c5, .bool b6, .slice A6 n6 c6]) (by simp [results, Tryz.results56, go_sem, hc1]) rfl ?_
      exact Hfin.out
    · go_wp2_with fail
      refine Calls.mono (add_z _ _ x s _ (HX.out.1.ext hx1.a3) (HY.out.1.ext hx1.a3)) ?_
      rintro e w6 ⟨r, rfl, hn, hx3⟩
      clear hc1 hf1
      replace hx1 := hx1.trans hx3
      clear hx3
      have hc1 := hx1.cells
      have hf1 := hx1.frozens
      go_wp2_with fail
      refine Calls.mono (of_z 1 _ (by omega) (by omega)) ?_
      rintro e w7 ⟨r, rfl, h1', hx3⟩
      clear hc1 hf1
      replace hx1 := hx1.trans hx3
      replace hn := hn.ext hx3
      clear hx3
      obtain ⟨b5, A5, n5, c5, rfl⟩ := hn.cells
      obtain ⟨b6, A6, n6, c6, rfl⟩ := h1'.cells
      have e9 : Rat.divInt (x * t + s * y) (y * t) = ((x + s : Int) : Rat) := by rw [H1.out (by simp), H2.out (by simp), Int.mul_one, Int.mul_one, Int.mul_one]; exact divInt_1 _
      have hr := IsQ.mk_ hn h1' (q := p + q) (by rw [Hz.out, e9]; rfl) (by rw [Hz.out, e9]; rfl)
      clear hn h1'
      have E9 := Lib.hid e9; clear e9
      have hc1 := hx1.cells
      have hf1 := hx1.frozens
      have Hfin := Lib.hid (fin_q hr hx1.a3 (NoDig.at_ hx1 (g := w.heap.size + 2) (by simp) (by simp [isDig])) (by omega))
      clear hr
      go_wp2
      refine bodyPost_ret (v := .agg #[.bool b5, .slice A5 n5 c5, .bool b6, .slice A6 n6 c6]) (by simp [results, Tryz.results56, go_sem, hc1]) rfl ?_
      exact Hfin.out
end Go.Proofs.YtedoifjbgokmcaaGreat
namespace Go.Hp
open Go.RowKit
/-- The divisor that the reference takes: with the sign of the denominator. -/
def gsg (x y : Int) : Int := if y < 0 then -((Int.gcd x y : Nat) : Int) else (Int.gcd x y : Nat)
theorem gsg_ne {x y : Int} (h : y ≠ 0) : gsg x y ≠ 0 := by
  have := Int.gcd_pos_of_ne_zero_right x h
  unfold gsg; split <;> omega
theorem gsg_parts {x y : Int} (h : y ≠ 0) : (Rat.divInt x y).num = x / gsg x y ∧ ((Rat.divInt x y).den : Int) = y / gsg x y := by
  unfold gsg
  by_cases hy : y < 0
  · rw [if_pos hy]
    have h1 := divInt_parts (p := -x) (q := -y) (by omega)
    rw [Rat.neg_divInt_neg, Int.gcd_neg, Int.neg_gcd] at h1
    have hg := Int.gcd_pos_of_ne_zero_right x h
    rw [Int.ediv_neg, Int.ediv_neg, ← Int.neg_ediv_of_dvd (Int.gcd_dvd_left ..), ← Int.neg_ediv_of_dvd (Int.gcd_dvd_right ..)]
    exact h1
  · rw [if_neg hy]
    exact divInt_parts (by omega)
theorem gsg_sz {x y : Int} {k : Nat} (h : y ≠ 0) (hk : sz y.natAbs ≤ k) : sz (gsg x y).natAbs ≤ k := by
  refine Nat.le_trans (sz_mono ?_) hk
  have e : (gsg x y).natAbs = Int.gcd x y := by unfold gsg; split <;> simp
  rw [e]
  exact Nat.le_of_dvd (by omega) (Nat.gcd_dvd_right _ _)
end Go.Hp
namespace Go.Proofs.YtedoifjbgokmcaaGreat
open Go.RowKit Go.Hp
theorem of_rq (n : Int) (w : World) (h1 : -9223372036854775808 ≤ n) (h2 : n < 9223372036854775808) : Calls Tryz.prog 54 #[.int .i64 n] w (Gives w fun r w' => IsQ w' r (n : Rat)) := by
  go_enter Tryz.func54, Tryz.ntmps54
  go_wp2_with fail
  refine Calls.mono (of_r n _ h1 h2) ?_
  rintro e w1 ⟨r, rfl, hn, hx1⟩
  go_wp2_with fail
  refine Calls.mono (of_r 1 _ (by omega) (by omega)) ?_
  rintro e w2 ⟨r, rfl, h1', hx2⟩
  replace hn := hn.ext hx2
  replace hx1 := hx1.trans hx2
  clear hx2
  obtain ⟨b5, A5, n5, c5, rfl⟩ := hn.cells
  obtain ⟨b6, A6, n6, c6, rfl⟩ := h1'.cells
  have hr := IsQ.mk_ hn h1' (q := (n : Rat)) rfl rfl
  clear hn h1'
  have hc1 := hx1.cells
  have hf1 := hx1.frozens
  have Hfin := Lib.hid (fin_q hr hx1.a1 (NoDig.at_ hx1 (g := w.heap.size + 0) (by simp) (by simp [isDig])) (by omega))
  clear hr
  go_wp2
  refine bodyPost_ret (v := .agg #[.bool b5, .slice A5 n5 c5, .bool b6, .slice A6 n6 c6]) (by simp [results, Tryz.results54, go_sem, hc1]) rfl ?_
  exact Hfin.out
theorem whole_rq (v : Value) (x : Int) (w : World) (hv : HasZ w v x) : Calls Tryz.prog 87 #[v] w (Gives w fun r w' => IsQ w' r (x : Rat)) := by
  have HX := Lib.hid hv
  obtain ⟨neg, A, n, c, N, rfl, h1, h2, h3, hN, hx⟩ := hv.form
  clear hN hx hv
  go_enter Tryz.func87, Tryz.ntmps87
  go_wp2_with fail
  refine Calls.mono (norm_r _ x _ (HX.out.ext (((Ext.refl w).alloc _).alloc _))) ?_
  rintro e w1 ⟨r, rfl, hn, hx1⟩
  go_wp2_with fail
  refine Calls.mono (of_r 1 _ (by omega) (by omega)) ?_
  rintro e w2 ⟨r, rfl, h1', hx2⟩
  replace hn := hn.ext hx2
  replace hx1 := hx1.trans hx2
  clear hx2
  obtain ⟨b5, A5, n5, c5, rfl⟩ := hn.cells
  obtain ⟨b6, A6, n6, c6, rfl⟩ := h1'.cells
  have hr := IsQ.mk_ hn h1' (q := (x : Rat)) rfl rfl
  clear hn h1'
  have hc1 := hx1.cells
  have hf1 := hx1.frozens
  have Hfin := Lib.hid (fin_q hr hx1.a2 (NoDig.at_ hx1 (g := w.heap.size + 1) (by simp) (by simp [isDig])) (by omega))
  clear hr
  go_wp2
  refine bodyPost_ret (v := .agg #[.bool b5, .slice A5 n5 c5, .bool b6, .slice A6 n6 c6]) (by simp [results, Tryz.results87, go_sem, hc1]) rfl ?_
  exact Hfin.out
set_option maxHeartbeats 2000000 in
theorem over_rq (v u : Value) (x y : Int) (w : World) (hv : HasZ w v x) (hu : HasZ w u y) (sx : sz x.natAbs ≤ 549755813888) (sy : sz y.natAbs ≤ 549755813888) : Calls Tryz.prog 61 #[v, u] w (Gives w fun r w' => IsQ w' r (Rat.divInt x y)) := by
  have HX := Lib.hid hv; have HY := Lib.hid hu
  obtain ⟨neg, A, n, c, N, rfl, -, -, -, -, -⟩ := hv.form
  obtain ⟨neg', A', n', c', M, rfl, -, -, -, -, -⟩ := hu.form
  clear hv hu
  have HS := Lib.hid (And.intro sx sy); clear sx sy
  go_enter Tryz.func61, Tryz.ntmps61
  go_wp2_with fail
  refine Calls.mono (sign_r _ y _ (HY.out.ext ((((Ext.refl w).alloc _).alloc _).alloc _))) ?_
  rintro e w1 ⟨r, rfl, rfl, hx1⟩
  by_cases hy0 : y = 0
  · have hb : (y.sign == 0) = true := by rw [hy0]; rfl
    have Hz := Lib.hid (show Rat.divInt x y = ((0 : Int) : Rat) by rw [hy0, Rat.divInt_zero]; rfl)
    clear hy0
    go_wp2_with fail
    refine Calls.mono (of_rq 0 _ (by omega) (by omega)) ?_
    rintro e w2 ⟨r, rfl, hr, hx2⟩
    replace hx1 := hx1.trans hx2
    clear hx2
    rw [← Hz.out] at hr
    obtain ⟨b5, A5, n5, c5, b6, A6, n6, c6, rfl⟩ := hr.cells
    have hc1 := hx1.cells
    have hf1 := hx1.frozens
    have Hfin := Lib.hid (fin_q hr hx1.a3 (NoDig.at_ hx1 (g := w.heap.size + 2) (by simp) (by simp [isDig])) (by omega))
    clear hr
    go_wp2
    refine bodyPost_ret (v := .agg #[.bool b5, .slice A5 n5 c5, .bool b6, .slice A6 n6 c6]) (by simp [results, Tryz.results61, go_sem, hc1]) rfl ?_
    exact Hfin.out
  have hb : (y.sign == 0) = false := by simpa [Int.sign_eq_zero_iff_zero] using hy0
  have Hy := Lib.hid (And.intro hy0 (And.intro (gsg_ne (x := x) hy0) (gsg_sz (x := x) hy0 HS.out.2)))
  have HG := Lib.hid (gsg_parts (x := x) hy0)
  clear hy0
  have ca0 := hx1.a1.a1.box (g := w.heap.size) (i := 0) rfl rfl
  have ca1 := hx1.a1.a1.box (g := w.heap.size) (i := 1) rfl rfl
  have cb0 := hx1.a1.box (g := w.heap.size + 1) (i := 0) (by simp) rfl
  have cb1 := hx1.a1.box (g := w.heap.size + 1) (i := 1) (by simp) rfl
  go_wp2_with fail
  refine Calls.mono (gcd_r _ _ x y _ (HX.out.ext hx1.a3) (HY.out.ext hx1.a3) HS.out.1 HS.out.2) ?_
  rintro e w2 ⟨r, rfl, hr, hx2⟩
  replace hx1 := hx1.trans hx2
  clear hx2 ca0 ca1 cb0 cb1
  obtain ⟨b5, A5, n5, c5, rfl⟩ := hr.cells
  have ca0 := hx1.a1.a1.box (g := w.heap.size) (i := 0) rfl rfl
  have ca1 := hx1.a1.a1.box (g := w.heap.size) (i := 1) rfl rfl
  have cb0 := hx1.a1.box (g := w.heap.size + 1) (i := 0) (by simp) rfl
  have cb1 := hx1.a1.box (g := w.heap.size + 1) (i := 1) (by simp) rfl
  go_upto_region 4 with (fail)
  have hgg : w.heap.size + 1 + 1 + 1 ≤ w2.heap.size := by have := hx1.size; simpa using this
  obtain ⟨W5, eW5, e5, x5⟩ := Box.made w2 38 #[.bool b5, .slice A5 n5 c5] (by simp [isDig])
  rw [← eW5]
  clear eW5
  replace hr := hr.ext x5
  replace hx1 := hx1.trans x5
  clear x5
  generalize w2.heap.size = gg at *
  clear ca0 ca1 cb0 cb1
  have ca0 := hx1.a1.a1.box (g := w.heap.size) (i := 0) rfl rfl
  have ca1 := hx1.a1.a1.box (g := w.heap.size) (i := 1) rfl rfl
  have cb0 := hx1.a1.box (g := w.heap.size + 1) (i := 0) (by simp) rfl
  have cb1 := hx1.a1.box (g := w.heap.size + 1) (i := 1) (by simp) rfl
  obtain ⟨ce50, ce51⟩ := e5.cells2
  have fe5 := e5.frozen
  go_wp2_with fail
  refine Calls.mono (sign_r _ y _ (HY.out.ext hx1.a3)) ?_
  rintro e w7 ⟨r, rfl, rfl, hx2⟩
  replace hr := hr.ext hx2
  replace e5 := e5.ext hx2
  replace hx1 := hx1.trans hx2
  clear hx2
  clear ca0 ca1 cb0 cb1 ce50 ce51 fe5
  by_cases hyn : y < 0
  · have hb : decide (y.sign < 0) = true := by rw [Int.sign_eq_neg_one_of_neg hyn]; rfl
    have hr' : IsZ w7 (.agg #[.bool b5, .slice A5 n5 c5]) ((Int.gcd x y : Nat) : Int) := hr
    have Hg := Lib.hid (show -((Int.gcd x y : Nat) : Int) = gsg x y by unfold gsg; rw [if_pos hyn])
    have Hr := Lib.hid (hr.has (show sz (((Int.gcd x y : Nat) : Int)).natAbs ≤ 1099511627776 by
      have := Hy.out.2.2
      rw [← Hg.out, Int.natAbs_neg] at this
      omega)); clear hr hr'
    have ca0 := hx1.a1.a1.box (g := w.heap.size) (i := 0) rfl rfl
    have ca1 := hx1.a1.a1.box (g := w.heap.size) (i := 1) rfl rfl
    have cb0 := hx1.a1.box (g := w.heap.size + 1) (i := 0) (by simp) rfl
    have cb1 := hx1.a1.box (g := w.heap.size + 1) (i := 1) (by simp) rfl
    obtain ⟨ce50, ce51⟩ := e5.cells2
    have fe5 := e5.frozen
    go_wp2_with fail
    refine Calls.mono (neg_r _ _ _ Hr.out) ?_
    rintro e w8 ⟨r, rfl, hr2, hx2⟩
    rw [Hg.out] at hr2
    replace e5 := e5.ext hx2
    replace hx1 := hx1.trans hx2
    clear hx2
    obtain ⟨b3, A3, n3, c3, rfl⟩ := hr2.cells
    clear ca0 ca1 cb0 cb1 ce50 ce51 fe5 Hr hyn hb
    have ca0 := hx1.a1.a1.box (g := w.heap.size) (i := 0) rfl rfl
    have ca1 := hx1.a1.a1.box (g := w.heap.size) (i := 1) rfl rfl
    have cb0 := hx1.a1.box (g := w.heap.size + 1) (i := 0) (by simp) rfl
    have cb1 := hx1.a1.box (g := w.heap.size + 1) (i := 1) (by simp) rfl
    obtain ⟨ce50, ce51⟩ := e5.cells2
    have fe5 := e5.frozen
    go_upto_region 6 with (fail)
    obtain ⟨W9, eW, e5', U⟩ := e5.put2 (.bool b3) (.slice A3 n3 c3) rfl rfl
    rw [← eW]
    clear eW e5
    replace hr2 := hr2.kd U.kd
    replace hx1 := U.from_ hx1 (by simp <;> omega)
    have e5 := e5'
    clear U e5'
    have hr := hr2
    clear hr2 ca0 ca1 cb0 cb1 ce50 ce51 fe5
    have ca0 := hx1.a1.a1.box (g := w.heap.size) (i := 0) rfl rfl
    have ca1 := hx1.a1.a1.box (g := w.heap.size) (i := 1) rfl rfl
    have cb0 := hx1.a1.box (g := w.heap.size + 1) (i := 0) (by simp) rfl
    have cb1 := hx1.a1.box (g := w.heap.size + 1) (i := 1) (by simp) rfl
    obtain ⟨ce50, ce51⟩ := e5.cells2
    have fe5 := e5.frozen
    go_wp2_with fail
    refine wp_region_par (k := 2) (D := [18, 19]) (T := [[], [], [0, 1]]) (EK := [5]) (EV := [?e1x0]) (VL := [(kv ?v1x0), (fun γ => γ 1)]) (FL := fun γ w' => [True, IsZ w' (γ 1) 1]) ?hE1 (by kernel_rfl) (by kernel_rfl) (by rfl) (by kernel_rfl) ?hloc1 ?hmono1 ?hstep1 ?htail1
    case hE1 => refine ⟨?_, trivial⟩ <;> (simp only [List.getElem?_toArray, List.getElem?_cons_succ, List.getElem?_cons_zero]; rfl)
    case hstep1 =>
      refine ⟨⟨trivial, ?_⟩, ?_⟩
      · intro γ w' he hf; clear hf; refine ⟨trivial, ?_⟩; intro R hR
        have hc := he.cells
        have cq0 := he.cell ce50
        have cq1 := he.cell ce51
        go_simp
        (try go_ints); (try (rw [if_neg (by omega)])); (try (rw [if_pos (by omega)])); (try go_simp); (try go_ints)
        refine hR _ _ (Ext.refl _) ?_ trivial
        rfl
      · intro γ w' he hf; clear hf; refine ⟨trivial, ?_⟩; intro R hR
        go_simp
        refine Calls.mono (show Calls _ _ _ w' (Gives w' fun r w'' => IsZ w'' (r) 1) from of_r 1 w' (by omega) (by omega)) ?_
        rintro e w2 ⟨v, rfl, hv, hx⟩
        exact ⟨v, rfl, hR v w2 hx rfl hv⟩
    case hloc1 =>
      exact ⟨⟨trivial, (fun γ γ' h => ⟨rfl, fun _ => rfl⟩)⟩, (fun γ γ' h => ⟨h 1 rfl, fun w' => (congrArg (fun a => IsZ w' (a) 1) (h 1 rfl))⟩)⟩
    case hmono1 =>
      exact ⟨⟨trivial, (fun γ wA w' e h => h)⟩, (fun γ wA w' e h => (show IsZ wA (γ 1) 1 from h).ext e)⟩
    intro γ w7 hx7 hF
    have p1 : IsZ w7 (γ 1) 1 := Each.get hF 1 (by decide)
    clear hF
    simp only [fillAll, gV, kv, List.getD_cons_zero, List.getD_cons_succ, Act.put, List.setIfInBounds_toArray, List.set_cons_zero, List.set_cons_succ, List.toList_toArray, List.drop_succ_cons, List.drop_zero, List.drop_nil, Nat.zero_add, Nat.reduceAdd]
    generalize γ 1 = g1 at *
    clear γ
    go_wp2_with fail
    refine Calls.mono (same_r _ _ _ 1 _ (hr.ext hx7) p1) ?_
    rintro e w8 ⟨r, rfl, rfl, hx8⟩
    replace hx8 := hx7.trans hx8
    replace hr := hr.ext hx8
    replace e5 := e5.ext hx8
    replace hx1 := hx1.trans hx8
    clear hx8
    clear ca0 ca1 cb0 cb1 ce50 ce51 fe5 p1 hx7
    have ca0 := hx1.a1.a1.box (g := w.heap.size) (i := 0) rfl rfl
    have ca1 := hx1.a1.a1.box (g := w.heap.size) (i := 1) rfl rfl
    have cb0 := hx1.a1.box (g := w.heap.size + 1) (i := 0) (by simp) rfl
    have cb1 := hx1.a1.box (g := w.heap.size + 1) (i := 1) (by simp) rfl
    obtain ⟨ce50, ce51⟩ := e5.cells2
    have fe5 := e5.frozen
    by_cases h1 : gsg x y = 1
    · have hb : decide (gsg x y = 1) = true := decide_eq_true h1
      have H1 := Lib.hid h1; clear h1
      go_wp2_with fail
      refine wp_region_par (k := 3) (D := [21, 22, 23]) (T := [[], [0], [], [0, 1, 2], [0, 1, 2, 3], [0, 1, 2, 3, 4]]) (EK := [2, 3]) (EV := [?e2x0, ?e2x1]) (VL := [(kv ?v2x0), (fun γ => γ 1), (kv ?v2x2)]) (FL := fun γ w' => [True, IsZ w' (γ 1) x, True]) ?hE2 (by kernel_rfl) (by kernel_rfl) (by rfl) (by kernel_rfl) ?hloc2 ?hmono2 ?hstep2 ?htail2
      case hE2 => refine ⟨?_, ?_, trivial⟩ <;> (simp only [List.getElem?_toArray, List.getElem?_cons_succ, List.getElem?_cons_zero]; rfl)
      case hstep2 =>
        refine ⟨⟨⟨trivial, ?_⟩, ?_⟩, ?_⟩
        · intro γ w' he hf; clear hf; refine ⟨trivial, ?_⟩; intro R hR
          have hc := he.cells
          have cq0 := he.cell ca0
          have cq1 := he.cell ca1
          have cq2 := he.cell cb0
          have cq3 := he.cell cb1
          go_simp
          (try go_ints); (try (rw [if_neg (by omega)])); (try (rw [if_pos (by omega)])); (try go_simp); (try go_ints)
          refine hR _ _ (Ext.refl _) ?_ trivial
          rfl
        · intro γ w' he hf; clear hf; refine ⟨trivial, ?_⟩; intro R hR
          go_simp
          refine Calls.mono (show Calls _ _ _ w' (Gives w' fun r w'' => IsZ w'' (r) x) from norm_r _ x w' (HX.out.ext (hx1.trans he).a3)) ?_
          rintro e w2 ⟨v, rfl, hv, hx⟩
          exact ⟨v, rfl, hR v w2 hx rfl hv⟩
        · intro γ w' he hf; clear hf; refine ⟨trivial, ?_⟩; intro R hR
          have hc := he.cells
          have cq0 := he.cell ca0
          have cq1 := he.cell ca1
          have cq2 := he.cell cb0
          have cq3 := he.cell cb1
          go_simp
          (try go_ints); (try (rw [if_neg (by omega)])); (try (rw [if_pos (by omega)])); (try go_simp); (try go_ints)
          refine hR _ _ (Ext.refl _) ?_ trivial
          rfl
      case hloc2 =>
        exact ⟨⟨⟨trivial, (fun γ γ' h => ⟨rfl, fun _ => rfl⟩)⟩, (fun γ γ' h => ⟨h 1 rfl, fun w' => (congrArg (fun a => IsZ w' (a) x) (h 1 rfl))⟩)⟩, (fun γ γ' h => ⟨rfl, fun _ => rfl⟩)⟩
      case hmono2 =>
        exact ⟨⟨⟨trivial, (fun γ wA w' e h => h)⟩, (fun γ wA w' e h => (show IsZ wA (γ 1) x from h).ext e)⟩, (fun γ wA w' e h => h)⟩
      intro γ w9 hx9 hF
      have p1 : IsZ w9 (γ 1) x := Each.get hF 1 (by decide)
      clear hF
      simp only [fillAll, gV, kv, List.getD_cons_zero, List.getD_cons_succ, Act.put, List.setIfInBounds_toArray, List.set_cons_zero, List.set_cons_succ, List.toList_toArray, List.drop_succ_cons, List.drop_zero, List.drop_nil, Nat.zero_add, Nat.reduceAdd]
      generalize γ 1 = g1 at *
      clear γ
      clear ca0 ca1 cb0 cb1 ce50 ce51 fe5
      replace hx1 := hx1.trans hx9
      have ca0 := hx1.a1.a1.box (g := w.heap.size) (i := 0) rfl rfl
      have ca1 := hx1.a1.a1.box (g := w.heap.size) (i := 1) rfl rfl
      have cb0 := hx1.a1.box (g := w.heap.size + 1) (i := 0) (by simp) rfl
      have cb1 := hx1.a1.box (g := w.heap.size + 1) (i := 1) (by simp) rfl
      go_wp2_with fail
      refine Calls.mono (norm_r _ y _ (HY.out.ext hx1.a3)) ?_
      rintro e w10 ⟨r, rfl, h1', hx10⟩
      replace p1 := p1.ext hx10
      replace hx1 := hx1.trans hx10
      clear ca0 ca1 cb0 cb1 hx10 hx9
      obtain ⟨b5, A5, n5, c5, rfl⟩ := p1.cells
      obtain ⟨b6, A6, n6, c6, rfl⟩ := h1'.cells
      have hr := IsQ.mk_ p1 h1' (q := Rat.divInt x y) (by rw [HG.out.1, H1.out, Int.ediv_one]) (by rw [HG.out.2, H1.out, Int.ediv_one])
      clear p1 h1'
      have hc1 := hx1.cells
      have hf1 := hx1.frozens
      have Hfin := Lib.hid (fin_q hr hx1.a3 (NoDig.at_ hx1 (g := w.heap.size + 2) (by simp) (by simp [isDig])) (by omega))
      clear hr
      go_wp2
      refine bodyPost_ret (v := .agg #[.bool b5, .slice A5 n5 c5, .bool b6, .slice A6 n6 c6]) (by simp [results, Tryz.results61, go_sem, hc1]) rfl ?_
      exact Hfin.out
    · have hb : decide (gsg x y = 1) = false := decide_eq_false h1
      have Hr := Lib.hid (hr.has (show sz (gsg x y).natAbs ≤ 1099511627776 by have := Hy.out.2.2; omega)); clear h1 hr
      go_wp2_with fail
      refine wp_region_par (k := 5) (D := [26, 27, 28, 29, 30]) (T := [[], [], [0, 1], [], [], [0, 1, 2, 3, 4], [0, 1, 2, 3, 4, 5], [0, 1, 2, 3, 4, 5, 6]]) (EK := [2, 5, 3]) (EV := [?e3x0, ?e3x1, ?e3x2]) (VL := [(kv ?v3x0), (kv ?v3x1), (fun γ => γ 2), (kv ?v3x3), (kv ?v3x4)]) (FL := fun γ w' => [True, True, IsZ w' (γ 2) (x / gsg x y), True, True]) ?hE3 (by kernel_rfl) (by kernel_rfl) (by rfl) (by kernel_rfl) ?hloc3 ?hmono3 ?hstep3 ?htail3
      case hE3 => refine ⟨?_, ?_, ?_, trivial⟩ <;> (simp only [List.getElem?_toArray, List.getElem?_cons_succ, List.getElem?_cons_zero]; rfl)
      case hstep3 =>
        refine ⟨⟨⟨⟨⟨trivial, ?_⟩, ?_⟩, ?_⟩, ?_⟩, ?_⟩
        · intro γ w' he hf; clear hf; refine ⟨trivial, ?_⟩; intro R hR
          have hc := he.cells
          have cq0 := he.cell ca0
          have cq1 := he.cell ca1
          have cq2 := he.cell cb0
          have cq3 := he.cell cb1
          have cq4 := he.cell ce50
          have cq5 := he.cell ce51
          go_simp
          (try go_ints); (try (rw [if_neg (by omega)])); (try (rw [if_pos (by omega)])); (try go_simp); (try go_ints)
          refine hR _ _ (Ext.refl _) ?_ trivial
          rfl
        · intro γ w' he hf; clear hf; refine ⟨trivial, ?_⟩; intro R hR
          have hc := he.cells
          have cq0 := he.cell ca0
          have cq1 := he.cell ca1
          have cq2 := he.cell cb0
          have cq3 := he.cell cb1
          have cq4 := he.cell ce50
          have cq5 := he.cell ce51
          go_simp
          (try go_ints); (try (rw [if_neg (by omega)])); (try (rw [if_pos (by omega)])); (try go_simp); (try go_ints)
          refine hR _ _ (Ext.refl _) ?_ trivial
          rfl
        · intro γ w' he hf; clear hf; refine ⟨trivial, ?_⟩; intro R hR
          go_simp
          refine Calls.mono (show Calls _ _ _ w' (Gives w' fun r w'' => IsZ w'' (r) (x / gsg x y)) from exact_r _ _ x _ w' (HX.out.ext (hx1.trans he).a3) (Hr.out.ext he) Hy.out.2.1 HS.out.1 Hy.out.2.2) ?_
          rintro e w2 ⟨v, rfl, hv, hx⟩
          exact ⟨v, rfl, hR v w2 hx rfl hv⟩
        · intro γ w' he hf; clear hf; refine ⟨trivial, ?_⟩; intro R hR
          have hc := he.cells
          have cq0 := he.cell ca0
          have cq1 := he.cell ca1
          have cq2 := he.cell cb0
          have cq3 := he.cell cb1
          have cq4 := he.cell ce50
          have cq5 := he.cell ce51
          go_simp
          (try go_ints); (try (rw [if_neg (by omega)])); (try (rw [if_pos (by omega)])); (try go_simp); (try go_ints)
          refine hR _ _ (Ext.refl _) ?_ trivial
          rfl
        · intro γ w' he hf; clear hf; refine ⟨trivial, ?_⟩; intro R hR
          have hc := he.cells
          have cq0 := he.cell ca0
          have cq1 := he.cell ca1
          have cq2 := he.cell cb0
          have cq3 := he.cell cb1
          have cq4 := he.cell ce50
          have cq5 := he.cell ce51
          go_simp
          (try go_ints); (try (rw [if_neg (by omega)])); (try (rw [if_pos (by omega)])); (try go_simp); (try go_ints)
          refine hR _ _ (Ext.refl _) ?_ trivial
          rfl
      case hloc3 =>
        exact ⟨⟨⟨⟨⟨trivial, (fun γ γ' h => ⟨rfl, fun _ => rfl⟩)⟩, (fun γ γ' h => ⟨rfl, fun _ => rfl⟩)⟩, (fun γ γ' h => ⟨h 2 rfl, fun w' => (congrArg (fun a => IsZ w' (a) (x / gsg x y)) (h 2 rfl))⟩)⟩, (fun γ γ' h => ⟨rfl, fun _ => rfl⟩)⟩, (fun γ γ' h => ⟨rfl, fun _ => rfl⟩)⟩
      case hmono3 =>
        exact ⟨⟨⟨⟨⟨trivial, (fun γ wA w' e h => h)⟩, (fun γ wA w' e h => h)⟩, (fun γ wA w' e h => (show IsZ wA (γ 2) (x / gsg x y) from h).ext e)⟩, (fun γ wA w' e h => h)⟩, (fun γ wA w' e h => h)⟩
      intro γ w9 hx9 hF
      have p2 : IsZ w9 (γ 2) (x / gsg x y) := Each.get hF 2 (by decide)
      clear hF
      simp only [fillAll, gV, kv, List.getD_cons_zero, List.getD_cons_succ, Act.put, List.setIfInBounds_toArray, List.set_cons_zero, List.set_cons_succ, List.toList_toArray, List.drop_succ_cons, List.drop_zero, List.drop_nil, Nat.zero_add, Nat.reduceAdd]
      generalize γ 2 = g2 at *
      clear γ
      clear ca0 ca1 cb0 cb1 ce50 ce51 fe5
      replace hx1 := hx1.trans hx9
      have ca0 := hx1.a1.a1.box (g := w.heap.size) (i := 0) rfl rfl
      have ca1 := hx1.a1.a1.box (g := w.heap.size) (i := 1) rfl rfl
      have cb0 := hx1.a1.box (g := w.heap.size + 1) (i := 0) (by simp) rfl
      have cb1 := hx1.a1.box (g := w.heap.size + 1) (i := 1) (by simp) rfl
      go_wp2_with fail
      refine Calls.mono (exact_r _ _ y _ _ (HY.out.ext hx1.a3) (Hr.out.ext hx9) Hy.out.2.1 HS.out.2 Hy.out.2.2) ?_
      rintro e w10 ⟨r, rfl, h1', hx10⟩
      replace p2 := p2.ext hx10
      replace hx1 := hx1.trans hx10
      clear ca0 ca1 cb0 cb1 hx10 hx9 Hr
      obtain ⟨b5, A5, n5, c5, rfl⟩ := p2.cells
      obtain ⟨b6, A6, n6, c6, rfl⟩ := h1'.cells
      have hr := IsQ.mk_ p2 h1' (q := Rat.divInt x y) HG.out.1.symm HG.out.2.symm
      clear p2 h1'
      have hc1 := hx1.cells
      have hf1 := hx1.frozens
      have Hfin := Lib.hid (fin_q hr hx1.a3 (NoDig.at_ hx1 (g := w.heap.size + 2) (by simp) (by simp [isDig])) (by omega))
      clear hr
      go_wp2
      refine bodyPost_ret (v := .agg #[.bool b5, .slice A5 n5 c5, .bool b6, .slice A6 n6 c6]) (by simp [results, Tryz.results61, go_sem, hc1]) rfl ?_
      exact Hfin.out
  · have hb : decide (y.sign < 0) = false := by
      have := Hy.out.1
      rw [Int.sign_eq_one_of_pos (by omega)]; rfl
    obtain ⟨b3, hb3⟩ : ∃ b3, b3 = b5 := ⟨_, rfl⟩
    subst hb3
    obtain ⟨A3, hA3⟩ : ∃ A3, A3 = A5 := ⟨_, rfl⟩
    subst hA3
    obtain ⟨n3, hn3⟩ : ∃ n3, n3 = n5 := ⟨_, rfl⟩
    subst hn3
    obtain ⟨c3, hc3⟩ : ∃ c3, c3 = c5 := ⟨_, rfl⟩
    subst hc3
    replace hr : IsZ w7 (.agg #[.bool b3, .slice A3 n3 c3]) (gsg x y) := by unfold gsg; rw [if_neg hyn]; exact hr
    have ca0 := hx1.a1.a1.box (g := w.heap.size) (i := 0) rfl rfl
    have ca1 := hx1.a1.a1.box (g := w.heap.size) (i := 1) rfl rfl
    have cb0 := hx1.a1.box (g := w.heap.size + 1) (i := 0) (by simp) rfl
    have cb1 := hx1.a1.box (g := w.heap.size + 1) (i := 1) (by simp) rfl
    obtain ⟨ce50, ce51⟩ := e5.cells2
    have fe5 := e5.frozen
    go_wp2_with fail
    refine wp_region_par (k := 2) (D := [18, 19]) (T := [[], [], [0, 1]]) (EK := [5]) (EV := [?e4x0]) (VL := [(kv ?v4x0), (fun γ => γ 1)]) (FL := fun γ w' => [True, IsZ w' (γ 1) 1]) ?hE4 (by kernel_rfl) (by kernel_rfl) (by rfl) (by kernel_rfl) ?hloc4 ?hmono4 ?hstep4 ?htail4
    case hE4 => refine ⟨?_, trivial⟩ <;> (simp only [List.getElem?_toArray, List.getElem?_cons_succ, List.getElem?_cons_zero]; rfl)
    case hstep4 =>
      refine ⟨⟨trivial, ?_⟩, ?_⟩
      · intro γ w' he hf; clear hf; refine ⟨trivial, ?_⟩; intro R hR
        have hc := he.cells
        have cq0 := he.cell ce50
        have cq1 := he.cell ce51
        go_simp
        (try go_ints); (try (rw [if_neg (by omega)])); (try (rw [if_pos (by omega)])); (try go_simp); (try go_ints)
        refine hR _ _ (Ext.refl _) ?_ trivial
        rfl
      · intro γ w' he hf; clear hf; refine ⟨trivial, ?_⟩; intro R hR
        go_simp
        refine Calls.mono (show Calls _ _ _ w' (Gives w' fun r w'' => IsZ w'' (r) 1) from of_r 1 w' (by omega) (by omega)) ?_
        rintro e w2 ⟨v, rfl, hv, hx⟩
        exact ⟨v, rfl, hR v w2 hx rfl hv⟩
    case hloc4 =>
      exact ⟨⟨trivial, (fun γ γ' h => ⟨rfl, fun _ => rfl⟩)⟩, (fun γ γ' h => ⟨h 1 rfl, fun w' => (congrArg (fun a => IsZ w' (a) 1) (h 1 rfl))⟩)⟩
    case hmono4 =>
      exact ⟨⟨trivial, (fun γ wA w' e h => h)⟩, (fun γ wA w' e h => (show IsZ wA (γ 1) 1 from h).ext e)⟩
    intro γ w7 hx7 hF
    have p1 : IsZ w7 (γ 1) 1 := Each.get hF 1 (by decide)
    clear hF
    simp only [fillAll, gV, kv, List.getD_cons_zero, List.getD_cons_succ, Act.put, List.setIfInBounds_toArray, List.set_cons_zero, List.set_cons_succ, List.toList_toArray, List.drop_succ_cons, List.drop_zero, List.drop_nil, Nat.zero_add, Nat.reduceAdd]
    generalize γ 1 = g1 at *
    clear γ
    go_wp2_with fail
    refine Calls.mono (same_r _ _ _ 1 _ (hr.ext hx7) p1) ?_
    rintro e w8 ⟨r, rfl, rfl, hx8⟩
    replace hx8 := hx7.trans hx8
    replace hr := hr.ext hx8
    replace e5 := e5.ext hx8
    replace hx1 := hx1.trans hx8
    clear hx8
    clear ca0 ca1 cb0 cb1 ce50 ce51 fe5 p1 hx7
    have ca0 := hx1.a1.a1.box (g := w.heap.size) (i := 0) rfl rfl
    have ca1 := hx1.a1.a1.box (g := w.heap.size) (i := 1) rfl rfl
    have cb0 := hx1.a1.box (g := w.heap.size + 1) (i := 0) (by simp) rfl
    have cb1 := hx1.a1.box (g := w.heap.size + 1) (i := 1) (by simp) rfl
    obtain ⟨ce50, ce51⟩ := e5.cells2
    have fe5 := e5.frozen
    by_cases h1 : gsg x y = 1
    · have hb : decide (gsg x y = 1) = true := decide_eq_true h1
      have H1 := Lib.hid h1; clear h1
      go_wp2_with fail
      refine wp_region_par (k := 3) (D := [21, 22, 23]) (T := [[], [0], [], [0, 1, 2], [0, 1, 2, 3], [0, 1, 2, 3, 4]]) (EK := [2, 3]) (EV := [?e5x0, ?e5x1]) (VL := [(kv ?v5x0), (fun γ => γ 1), (kv ?v5x2)]) (FL := fun γ w' => [True, IsZ w' (γ 1) x, True]) ?hE5 (by kernel_rfl) (by kernel_rfl) (by rfl) (by kernel_rfl) ?hloc5 ?hmono5 ?hstep5 ?htail5
      case hE5 => refine ⟨?_, ?_, trivial⟩ <;> (simp only [List.getElem?_toArray, List.getElem?_cons_succ, List.getElem?_cons_zero]; rfl)
      case hstep5 =>
        refine ⟨⟨⟨trivial, ?_⟩, ?_⟩, ?_⟩
        · intro γ w' he hf; clear hf; refine ⟨trivial, ?_⟩; intro R hR
          have hc := he.cells
          have cq0 := he.cell ca0
          have cq1 := he.cell ca1
          have cq2 := he.cell cb0
          have cq3 := he.cell cb1
          go_simp
          (try go_ints); (try (rw [if_neg (by omega)])); (try (rw [if_pos (by omega)])); (try go_simp); (try go_ints)
          refine hR _ _ (Ext.refl _) ?_ trivial
          rfl
        · intro γ w' he hf; clear hf; refine ⟨trivial, ?_⟩; intro R hR
          go_simp
          refine Calls.mono (show Calls _ _ _ w' (Gives w' fun r w'' => IsZ w'' (r) x) from norm_r _ x w' (HX.out.ext (hx1.trans he).a3)) ?_
          rintro e w2 ⟨v, rfl, hv, hx⟩
          exact ⟨v, rfl, hR v w2 hx rfl hv⟩
        · intro γ w' he hf; clear hf; refine ⟨trivial, ?_⟩; intro R hR
          have hc := he.cells
          have cq0 := he.cell ca0
          have cq1 := he.cell ca1
          have cq2 := he.cell cb0
          have cq3 := he.cell cb1
          go_simp
          (try go_ints); (try (rw [if_neg (by omega)])); (try (rw [if_pos (by omega)])); (try go_simp); (try go_ints)
          refine hR _ _ (Ext.refl _) ?_ trivial
          rfl
      case hloc5 =>
        exact ⟨⟨⟨trivial, (fun γ γ' h => ⟨rfl, fun _ => rfl⟩)⟩, (fun γ γ' h => ⟨h 1 rfl, fun w' => (congrArg (fun a => IsZ w' (a) x) (h 1 rfl))⟩)⟩, (fun γ γ' h => ⟨rfl, fun _ => rfl⟩)⟩
      case hmono5 =>
        exact ⟨⟨⟨trivial, (fun γ wA w' e h => h)⟩, (fun γ wA w' e h => (show IsZ wA (γ 1) x from h).ext e)⟩, (fun γ wA w' e h => h)⟩
      intro γ w9 hx9 hF
      have p1 : IsZ w9 (γ 1) x := Each.get hF 1 (by decide)
      clear hF
      simp only [fillAll, gV, kv, List.getD_cons_zero, List.getD_cons_succ, Act.put, List.setIfInBounds_toArray, List.set_cons_zero, List.set_cons_succ, List.toList_toArray, List.drop_succ_cons, List.drop_zero, List.drop_nil, Nat.zero_add, Nat.reduceAdd]
      generalize γ 1 = g1 at *
      clear γ
      clear ca0 ca1 cb0 cb1 ce50 ce51 fe5
      replace hx1 := hx1.trans hx9
      have ca0 := hx1.a1.a1.box (g := w.heap.size) (i := 0) rfl rfl
      have ca1 := hx1.a1.a1.box (g := w.heap.size) (i := 1) rfl rfl
      have cb0 := hx1.a1.box (g := w.heap.size + 1) (i := 0) (by simp) rfl
      have cb1 := hx1.a1.box (g := w.heap.size + 1) (i := 1) (by simp) rfl
      go_wp2_with fail
      refine Calls.mono (norm_r _ y _ (HY.out.ext hx1.a3)) ?_
      rintro e w10 ⟨r, rfl, h1', hx10⟩
      replace p1 := p1.ext hx10
      replace hx1 := hx1.trans hx10
      clear ca0 ca1 cb0 cb1 hx10 hx9
      obtain ⟨b5, A5, n5, c5, rfl⟩ := p1.cells
      obtain ⟨b6, A6, n6, c6, rfl⟩ := h1'.cells
      have hr := IsQ.mk_ p1 h1' (q := Rat.divInt x y) (by rw [HG.out.1, H1.out, Int.ediv_one]) (by rw [HG.out.2, H1.out, Int.ediv_one])
      clear p1 h1'
      have hc1 := hx1.cells
      have hf1 := hx1.frozens
      have Hfin := Lib.hid (fin_q hr hx1.a3 (NoDig.at_ hx1 (g := w.heap.size + 2) (by simp) (by simp [isDig])) (by omega))
      clear hr
      go_wp2
      refine bodyPost_ret (v := .agg #[.bool b5, .slice A5 n5 c5, .bool b6, .slice A6 n6 c6]) (by simp [results, Tryz.results61, go_sem, hc1]) rfl ?_
      exact Hfin.out
    · have hb : decide (gsg x y = 1) = false := decide_eq_false h1
      have Hr := Lib.hid (hr.has (show sz (gsg x y).natAbs ≤ 1099511627776 by have := Hy.out.2.2; omega)); clear h1 hr
      go_wp2_with fail
      refine wp_region_par (k := 5) (D := [26, 27, 28, 29, 30]) (T := [[], [], [0, 1], [], [], [0, 1, 2, 3, 4], [0, 1, 2, 3, 4, 5], [0, 1, 2, 3, 4, 5, 6]]) (EK := [2, 5, 3]) (EV := [?e6x0, ?e6x1, ?e6x2]) (VL := [(kv ?v6x0), (kv ?v6x1), (fun γ => γ 2), (kv ?v6x3), (kv ?v6x4)]) (FL := fun γ w' => [True, True, IsZ w' (γ 2) (x / gsg x y), True, True]) ?hE6 (by kernel_rfl) (by kernel_rfl) (by rfl) (by kernel_rfl) ?hloc6 ?hmono6 ?hstep6 ?htail6
      case hE6 => refine ⟨?_, ?_, ?_, trivial⟩ <;> (simp only [List.getElem?_toArray, List.getElem?_cons_succ, List.getElem?_cons_zero]; rfl)
      case hstep6 =>
        refine ⟨⟨⟨⟨⟨trivial, ?_⟩, ?_⟩, ?_⟩, ?_⟩, ?_⟩
        · intro γ w' he hf; clear hf; refine ⟨trivial, ?_⟩; intro R hR
          have hc := he.cells
          have cq0 := he.cell ca0
          have cq1 := he.cell ca1
          have cq2 := he.cell cb0
          have cq3 := he.cell cb1
          have cq4 := he.cell ce50
          have cq5 := he.cell ce51
          go_simp
          (try go_ints); (try (rw [if_neg (by omega)])); (try (rw [if_pos (by omega)])); (try go_simp); (try go_ints)
          refine hR _ _ (Ext.refl _) ?_ trivial
          rfl
        · intro γ w' he hf; clear hf; refine ⟨trivial, ?_⟩; intro R hR
          have hc := he.cells
          have cq0 := he.cell ca0
          have cq1 := he.cell ca1
          have cq2 := he.cell cb0
          have cq3 := he.cell cb1
          have cq4 := he.cell ce50
          have cq5 := he.cell ce51
          go_simp
          (try go_ints); (try (rw [if_neg (by omega)])); (try (rw [if_pos (by omega)])); (try go_simp); (try go_ints)
          refine hR _ _ (Ext.refl _) ?_ trivial
          rfl
        · intro γ w' he hf; clear hf; refine ⟨trivial, ?_⟩; intro R hR
          go_simp
          refine Calls.mono (show Calls _ _ _ w' (Gives w' fun r w'' => IsZ w'' (r) (x / gsg x y)) from exact_r _ _ x _ w' (HX.out.ext (hx1.trans he).a3) (Hr.out.ext he) Hy.out.2.1 HS.out.1 Hy.out.2.2) ?_
          rintro e w2 ⟨v, rfl, hv, hx⟩
          exact ⟨v, rfl, hR v w2 hx rfl hv⟩
        · intro γ w' he hf; clear hf; refine ⟨trivial, ?_⟩; intro R hR
          have hc := he.cells
          have cq0 := he.cell ca0
          have cq1 := he.cell ca1
          have cq2 := he.cell cb0
          have cq3 := he.cell cb1
          have cq4 := he.cell ce50
          have cq5 := he.cell ce51
          go_simp
          (try go_ints); (try (rw [if_neg (by omega)])); (try (rw [if_pos (by omega)])); (try go_simp); (try go_ints)
          refine hR _ _ (Ext.refl _) ?_ trivial
          rfl
        · intro γ w' he hf; clear hf; refine ⟨trivial, ?_⟩; intro R hR
          have hc := he.cells
          have cq0 := he.cell ca0
          have cq1 := he.cell ca1
          have cq2 := he.cell cb0
          have cq3 := he.cell cb1
          have cq4 := he.cell ce50
          have cq5 := he.cell ce51
          go_simp
          (try go_ints); (try (rw [if_neg (by omega)])); (try (rw [if_pos (by omega)])); (try go_simp); (try go_ints)
          refine hR _ _ (Ext.refl _) ?_ trivial
          rfl
      case hloc6 =>
        exact ⟨⟨⟨⟨⟨trivial, (fun γ γ' h => ⟨rfl, fun _ => rfl⟩)⟩, (fun γ γ' h => ⟨rfl, fun _ => rfl⟩)⟩, (fun γ γ' h => ⟨h 2 rfl, fun w' => (congrArg (fun a => IsZ w' (a) (x / gsg x y)) (h 2 rfl))⟩)⟩, (fun γ γ' h => ⟨rfl, fun _ => rfl⟩)⟩, (fun γ γ' h => ⟨rfl, fun _ => rfl⟩)⟩
      case hmono6 =>
        exact ⟨⟨⟨⟨⟨trivial, (fun γ wA w' e h => h)⟩, (fun γ wA w' e h => h)⟩, (fun γ wA w' e h => (show IsZ wA (γ 2) (x / gsg x y) from h).ext e)⟩, (fun γ wA w' e h => h)⟩, (fun γ wA w' e h => h)⟩
      intro γ w9 hx9 hF
      have p2 : IsZ w9 (γ 2) (x / gsg x y) := Each.get hF 2 (by decide)
      clear hF
      simp only [fillAll, gV, kv, List.getD_cons_zero, List.getD_cons_succ, Act.put, List.setIfInBounds_toArray, List.set_cons_zero, List.set_cons_succ, List.toList_toArray, List.drop_succ_cons, List.drop_zero, List.drop_nil, Nat.zero_add, Nat.reduceAdd]
      generalize γ 2 = g2 at *
      clear γ
      clear ca0 ca1 cb0 cb1 ce50 ce51 fe5
      replace hx1 := hx1.trans hx9
      have ca0 := hx1.a1.a1.box (g := w.heap.size) (i := 0) rfl rfl
      have ca1 := hx1.a1.a1.box (g := w.heap.size) (i := 1) rfl rfl
      have cb0 := hx1.a1.box (g := w.heap.size + 1) (i := 0) (by simp) rfl
      have cb1 := hx1.a1.box (g := w.heap.size + 1) (i := 1) (by simp) rfl
      go_wp2_with fail
      refine Calls.mono (exact_r _ _ y _ _ (HY.out.ext hx1.a3) (Hr.out.ext hx9) Hy.out.2.1 HS.out.2 Hy.out.2.2) ?_
      rintro e w10 ⟨r, rfl, h1', hx10⟩
      replace p2 := p2.ext hx10
      replace hx1 := hx1.trans hx10
      clear ca0 ca1 cb0 cb1 hx10 hx9 Hr
      obtain ⟨b5, A5, n5, c5, rfl⟩ := p2.cells
      obtain ⟨b6, A6, n6, c6, rfl⟩ := h1'.cells
      have hr := IsQ.mk_ p2 h1' (q := Rat.divInt x y) HG.out.1.symm HG.out.2.symm
      clear p2 h1'
      have hc1 := hx1.cells
      have hf1 := hx1.frozens
      have Hfin := Lib.hid (fin_q hr hx1.a3 (NoDig.at_ hx1 (g := w.heap.size + 2) (by simp) (by simp [isDig])) (by omega))
      clear hr
      go_wp2
      refine bodyPost_ret (v := .agg #[.bool b5, .slice A5 n5 c5, .bool b6, .slice A6 n6 c6]) (by simp [results, Tryz.results61, go_sem, hc1]) rfl ?_
      exact Hfin.out
end Go.Proofs.YtedoifjbgokmcaaGreat
