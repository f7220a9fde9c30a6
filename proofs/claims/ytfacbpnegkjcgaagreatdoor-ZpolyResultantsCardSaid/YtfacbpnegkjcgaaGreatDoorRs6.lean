/- The statement ZpolyResultants holds: for every two polynomials over the integers the law returns true, and the arguments read afterwards as before. Package-level tables as the program's text lays them (the card ties them); no other condition. -/
import Derived.Test.YtfacbpnegkjcgaaGreatDoorRs1
import Derived.Test.YtfacbpnegkjcgaaGreatDoorRs2
import Derived.Test.YtfacbpnegkjcgaaGreatDoorRs3
import Derived.Test.YtfacbpnegkjcgaaGreatDoorRs4
import Derived.Test.YtfacbpnegkjcgaaGreatDoorRs5
import Derived.Test.YtfacbpnegkjcgaaGreatDoorRows
import Derived.Test.YtfacbpnegkjcgaaGreatDoorCards
import Derived.Test.YtfacbpnegkjcgaaGreatDoorTie
import Derived.WalkKit
import Derived.ProofKit
import Derived.LaidMore
import Derived.OpenShut
import Derived.ShutString
import Derived.ChangeOld
import Derived.Below
import Derived.SevenTiedAt
import Derived.Stop.Joined
set_option linter.unusedVariables false
set_option linter.unusedSimpArgs false
namespace Go.Hp
open Go.RowKit
theorem pdq {F : Nat → Rat} {s n : Nat} (hs : ∀ i, qsz (F i) ≤ s) (h : Sup n F) (hn : n ≤ 9223372036854775806) (i : Nat) : qsz (pd F i) ≤ s + 2 := by
 by_cases hi : i + 1 ≤ n
 ·have h1 := qsz_mul ((i + 1 : Nat) : Rat) (F (i + 1)); have h2 := hs (i + 1); have h3 := qsz_nat (n := i + 1) (by omega)
  show qsz (((i + 1 : Nat) : Rat) * F (i + 1)) ≤ _; omega
 ·have : pd F i = 0 := by unfold pd; rw [h (i + 1) (by omega)]; exact Rat.mul_zero _
  rw [this, qsz_zero]; omega
/-- The discriminant of a polynomial of degree 1 or more. -/
noncomputable def dsz (F : Nat → Rat) : Int := sgz ((pl F - 1) * (pl F - 1 - 1) / 2) ((res F (pd F)).num / (F (pl F - 1)).num)
theorem half_pair (p : Nat) : ∃ h : Nat, ((p : Int) * ((p : Int) - 1) = 2 * (h : Int)) ∧ h = p * (p - 1) / 2 := by
 cases p with
 | zero => exact ⟨0, by simp, by simp⟩
 | succ k =>
  have key : ∀ k : Nat, ∃ h : Nat, (k + 1) * k = 2 * h := by
   intro k
   induction k with
   | zero => exact ⟨0, rfl⟩
   | succ k ih =>
    obtain ⟨h, e⟩ := ih
    exact ⟨h + (k + 1), by rw [Nat.mul_add 2, ← e]; grind⟩
  obtain ⟨h, e⟩ := key k
  refine ⟨h, ?_, ?_⟩
  ·have e2 : ((k + 1 : Nat) : Int) - 1 = (k : Nat) := by omega
   rw [e2, ← Int.natCast_mul, e]; rfl
  ·rw [show k + 1 - 1 = k from rfl, e]; omega
theorem par_b {h : Nat} {b : Bool} (e : decide (h % 2 = 1) = b) : (((h : Nat) : Int) % 2 == 1) = b := by
 rw [← e]
 by_cases q : h % 2 = 1
 ·rw [decide_eq_true q]; exact beq_iff_eq.2 (by omega)
 ·rw [decide_eq_false q]; exact Bool.eq_false_iff.2 fun e => q (by have := beq_iff_eq.1 e; omega)
end Go.Hp
namespace Go.Proofs.YtfacbpnegkjcgaaGreatDoor
open Go.RowKit Go.Hp
set_option maxRecDepth 20000 in
set_option maxHeartbeats 8000000 in
theorem discriminant_rz (v : Value) (l : List Int) (S : Nat) (w : World) (hv : HzV 0 w v l) (hs : ∀ i, qsz (cz l i) ≤ S) (hl : l.length ≤ 100) (h1 : 1 < pl (cz l)) (hS : (S + 3) * 4 ^ (pl (cz l) + pl (cz l)) ≤ 68719476736) :
  Calls Tryz.prog 27 #[v] w (Gives w fun r w' => IsZ w' r (dsz (cz l))) := by
 have HV := Lib.hid hv
 obtain ⟨A, c, rfl⟩ := hv.len
 clear hv
 have hpl : pl (cz l) ≤ l.length := pl_le (cz_sup l)
 have hS0 : S ≤ 68719476736 := by
  have : 0 < 4 ^ (pl (cz l) + pl (cz l)) := Nat.pow_pos (by decide)
  have : (S + 3) * 1 ≤ (S + 3) * 4 ^ (pl (cz l) + pl (cz l)) := Nat.mul_le_mul_left _ this
  omega
 have hpp := pl_pd (Fin_.cz l)
 have hpq : ∀ i, qsz (pd (cz l) i) ≤ S + 2 := pdq hs (cz_sup l) (by omega)
 have hdeg := fun W (x : Ext w W) => degree_rz _ l W (HV.out.ext x) (by omega)
 have hder := fun W (x : Ext w W) => derivative_rz _ l S W (HV.out.ext x) hs (by omega) (by omega)
 have hlead := fun W (x : Ext w W) => lead_rz _ l W (HV.out.ext x) (by omega)
 have hrs : ∀ W (x : Ext w W) u, IsZP 0 W u (pd (cz l)) → Calls Tryz.prog 29 #[.slice A l.length c, u] W (Gives W fun r w' => IsZ w' r (res (cz l) (pd (cz l))).num) := fun W x u hu => by
  obtain ⟨m, g1, g2, -, g4⟩ := hu.hz (fun i => by have := hpq i; omega)
  rw [← g4]
  refine resultant_rz _ u l m (S + 2) W (HV.out.ext x) g1 (fun i => by have := hs i; omega) (by rw [g4]; exact hpq) (by rw [g4, hpp]; omega) (by omega) (by omega) ?_
  rw [g4, hpp]
  have e : 4 ^ (pl (cz l) + (pl (cz l) - 1)) ≤ 4 ^ (pl (cz l) + pl (cz l)) := Nat.pow_le_pow_right (by decide) (by omega)
  exact Nat.le_trans (Nat.mul_le_mul_left _ e) hS
 have hrz := res_sz (ZI.cz l) (zi_pd (ZI.cz l)) (S := S + 2) (fun i => by have := hs i; omega) hpq (by omega)
 have hdv := res_pd (Fin_.cz l) (ZI.cz l) h1
 have hz0 : (cz l (pl (cz l) - 1)).num ≠ 0 := fun e => hdv.2 (Rat.num_eq_zero.1 e)
 have hld : qsz (cz l (pl (cz l) - 1)) ≤ S := hs _
 have hb1 : sz (res (cz l) (pd (cz l))).num.natAbs ≤ 137438953472 := by
  have e1 : (pl (cz l) + pl (pd (cz l))) * (S + 2 + 1) ≤ 4 ^ (pl (cz l) + pl (cz l)) * (S + 3) := Nat.mul_le_mul (by
   have : pl (cz l) + pl (cz l) < 4 ^ (pl (cz l) + pl (cz l)) := Nat.lt_pow_self (by decide)
   omega) (by omega)
  rw [Nat.mul_comm] at hS
  omega
 have hdl : dsz (cz l) = sgz ((pl (cz l) - 1) * (pl (cz l) - 1 - 1) / 2) ((res (cz l) (pd (cz l))).num / (cz l (pl (cz l) - 1)).num) := rfl
 have hld2 : (ld (cz l)).num = (cz l (pl (cz l) - 1)).num := rfl
 obtain ⟨p, hp⟩ : ∃ p, pl (cz l) = p + 1 := ⟨pl (cz l) - 1, by omega⟩
 have e1 : ((pl (cz l) : Int) - 1) = (p : Nat) := by omega
 obtain ⟨h, hh1, hh2⟩ := half_pair p
 have hp1 : pl (cz l) - 1 = p := by omega
 rw [hp1] at hdl hz0 hld hld2
 rw [← hh2] at hdl
 have hpb : p ≤ 100 := by omega
 have hhb : h ≤ 10000 := by
  rw [hh2]
  have : p * (p - 1) ≤ 100 * 100 := Nat.mul_le_mul hpb (by omega)
  omega
 rw [hld2] at hlead
 rw [e1] at hdeg
 rw [hdl]
 obtain ⟨X, hX⟩ : ∃ X, X = (res (cz l) (pd (cz l))).num := ⟨_, rfl⟩
 obtain ⟨L, hL⟩ : ∃ L, L = (cz l p).num := ⟨_, rfl⟩
 simp only [← hX, ← hL] at hrs hb1 hlead hz0 ⊢
 have hLb : sz L.natAbs ≤ 137438953472 := by have := qz_num hld; rw [← hL] at this; omega
 obtain ⟨Y, hY⟩ : ∃ Y, Y = X / L := ⟨_, rfl⟩
 rw [← hY]
 have HY := Lib.hid (show sz Y.natAbs ≤ 137438953472 from by
  have : Y.natAbs ≤ X.natAbs := by rw [hY]; exact Int.natAbs_ediv_le_natAbs X L
  exact Nat.le_trans (sz_mono this) hb1)
 have HC := Lib.hid (And.intro hdeg (And.intro hder (And.intro hlead hrs)))
 have HB := Lib.hid (And.intro hb1 (And.intro hz0 (And.intro hLb hY)))
 clear hdeg hder hlead hrs hb1 hz0 hLb hY hX hL hdl hrz hdv hld hld2 hp1 hp hpq hpp hpl hS hS0 hs h1 e1 hh2 HV
 go_enter Tryz.func27, Tryz.ntmps27
 have ez := Box.new w 28 #[.bool false, .slice none 0 0] (by simp [isDig])
 have hx := (Ext.refl w).alloc (.cells #[.bool false, .slice none 0 0] 28)
 go_upto_region 1 with (fail)
 generalize w.alloc (.cells #[.bool false, .slice none 0 0] 28) = w0 at *
 go_wp2_with fail
 refine Calls.mono (HC.out.1 _ hx) ?_
 rintro e w1 ⟨r1, rfl, rfl, hx1⟩
 replace ez := ez.ext hx1
 replace hx := hx.trans hx1
 clear hx1
 go_wp2_with fail
 refine Calls.mono (HC.out.2.1 _ hx) ?_
 rintro e w2 ⟨r2, rfl, hr2, hx2⟩
 have Hr2 := Lib.hid (hr2.base_le (Nat.zero_le _))
 replace ez := ez.ext hx2
 replace hx := hx.trans hx2
 clear hx2 hr2
 go_wp2_with fail
 refine Calls.mono (HC.out.2.2.2 _ hx _ Hr2.out) ?_
 rintro e w3 ⟨r3, rfl, hr3, hx3⟩
 have Hr3 := Lib.hid hr3
 replace ez := ez.ext hx3
 replace hx := hx.trans hx3
 clear hx3 hr3
 go_wp2_with fail
 refine Calls.mono (HC.out.2.2.1 _ hx) ?_
 rintro e w4 ⟨r4, rfl, hr4, hx4⟩
 replace ez := ez.ext hx4
 replace hx := hx.trans hx4
 have Hr4 := Lib.hid (And.intro (Hr3.out.kd hx4.kd) hr4)
 clear hx4 hr4 Hr3
 go_wp2_with fail
 refine Calls.mono (exact_r _ _ X L _ (Hr4.out.1.has (by have := HB.out.1; omega)) (Hr4.out.2.has (by have := HB.out.2.2.1; omega)) HB.out.2.1 (by have := HB.out.1; omega) (by have := HB.out.2.2.1; omega)) ?_
 rintro e w5 ⟨r5, rfl, hr5, hx5⟩
 rw [← HB.out.2.2.2] at hr5
 obtain ⟨b7, A7, n7, c7, rfl⟩ := hr5.cells
 obtain ⟨W6, eW6, eQ, x6⟩ := Box.made w5 28 #[.bool b7, .slice A7 n7 c7] (by simp [isDig])
 have HQ := Lib.hid (hr5.kd x6.kd)
 replace ez := ez.ext (hx5.trans x6)
 replace hx := hx.trans (hx5.trans x6)
 clear hr5 hx5 x6 Hr4
 go_upto_region 3 with (fail)
 rw [← eW6]
 clear eW6
 generalize w5.heap.size = gQ at *
 by_cases ho : h % 2 = 1
 ·have hb := par_b (h := h) (b := true) (by simpa using ho)
  obtain ⟨ceQ0, ceQ1⟩ := eQ.cells2
  have feQ := eQ.frozen
  go_wp2_with fail
  refine Calls.mono (neg_r _ Y _ (HQ.out.has (by have := HY.out; omega))) ?_
  rintro e w8 ⟨r8, rfl, hr8, hx8⟩
  obtain ⟨b7, A7, n7, c7, rfl⟩ := hr8.cells
  clear ceQ0 ceQ1 feQ HQ
  replace eQ := eQ.ext hx8
  replace ez := ez.ext hx8
  replace hx := hx.trans hx8
  have hsg : sgz h Y = -Y := by unfold sgz; rw [if_pos ho]
  rw [← hsg] at hr8
  have Hr := Lib.hid hr8; clear hr8 hx8 hsg ho
  obtain ⟨cez0, cez1⟩ := ez.cells2
  have fez := ez.frozen
  obtain ⟨ceQ0, ceQ1⟩ := eQ.cells2
  have feQ := eQ.frozen
  go_wp2
  have hr := Hr.out
  obtain ⟨W9, eW, ez', U⟩ := ez.put2 (.bool b7) (.slice A7 n7 c7) rfl rfl
  rw [← eW]
  clear eW ez
  replace hr := hr.kd U.kd
  replace hx := U.from_ hx (by simp <;> omega)
  have ez := ez'
  clear U ez'
  clear cez0 cez1 fez ceQ0 ceQ1 feQ
  obtain ⟨cez0, cez1⟩ := ez.cells2
  have fez := ez.frozen
  refine bodyPost_ret (v := .agg #[.bool b7, .slice A7 n7 c7]) (by simp [results, Tryz.results27, go_sem, cez0, cez1]) rfl ?_
  exact Gives.mk hr hx
 ·have hb := par_b (h := h) (b := false) (by simpa using ho)
  have hsg : sgz h Y = Y := by unfold sgz; rw [if_neg ho]
  have Hr := Lib.hid (show IsZ W6 (.agg #[.bool b7, .slice A7 n7 c7]) (sgz h Y) from by rw [hsg]; exact HQ.out)
  clear hsg ho HQ
  obtain ⟨cez0, cez1⟩ := ez.cells2
  have fez := ez.frozen
  obtain ⟨ceQ0, ceQ1⟩ := eQ.cells2
  have feQ := eQ.frozen
  go_wp2
  have hr := Hr.out
  obtain ⟨W9, eW, ez', U⟩ := ez.put2 (.bool b7) (.slice A7 n7 c7) rfl rfl
  rw [← eW]
  clear eW ez
  replace hr := hr.kd U.kd
  replace hx := U.from_ hx (by simp <;> omega)
  have ez := ez'
  clear U ez'
  clear cez0 cez1 fez ceQ0 ceQ1 feQ
  obtain ⟨cez0, cez1⟩ := ez.cells2
  have fez := ez.frozen
  refine bodyPost_ret (v := .agg #[.bool b7, .slice A7 n7 c7]) (by simp [results, Tryz.results27, go_sem, cez0, cez1]) rfl ?_
  exact Gives.mk hr hx
theorem zresultant_p (v u : Value) (F G : Nat → Rat) (S : Nat) (w : World) (hv : IsZP 0 w v F) (hu : IsZP 0 w u G) (hs : ∀ i, qsz (F i) ≤ S) (ht : ∀ i, qsz (G i) ≤ S) (hn : pl F ≤ 549755813888) (hm : pl G ≤ 549755813888) (hS : S ≤ 1099511627776) (hB : 8 + 8 * ((pl F + pl G + 1) * ((pl F + pl G + 1) * ((S + 1) * 2 ^ (pl F + pl G)))) ≤ 1099511627776) :
  Calls Tryz.prog 28 #[v, u] w (Gives w fun r w' => IsZ w' r (res F G).num) := by
 obtain ⟨l, h1, h2, -, rfl⟩ := hv.hz (fun i => by have := hs i; omega)
 obtain ⟨m, k1, k2, -, rfl⟩ := hu.hz (fun i => by have := ht i; omega)
 exact resultant_z v u l m S w h1 k1 hs ht (by omega) (by omega) hB
set_option maxRecDepth 20000 in
set_option maxHeartbeats 8000000 in
theorem discriminant_zero (v : Value) (l : List Int) (w : World) (hv : HzV 0 w v l) (hl : l.length ≤ 100) (h1 : ¬ 1 < pl (cz l)) :
  Calls Tryz.prog 24 #[v] w (Gives w fun r w' => TupE w' r 0 2) := by
 have HV := Lib.hid hv
 obtain ⟨A, c, rfl⟩ := hv.len
 clear hv
 have hnm := fun W (x : Ext w W) => normal_zp _ l W (HV.out.ext x) (by omega)
 obtain ⟨p, hp⟩ : ∃ p, p = pl (cz l) := ⟨_, rfl⟩
 have hlt : ((p : Int) - 1 < 1) := by omega
 have HN := Lib.hid hnm; clear hnm HV
 go_enter Tryz.func24, Tryz.ntmps24
 have ez := Box.new w 28 #[.bool false, .slice none 0 0] (by simp [isDig])
 have hx := (Ext.refl w).alloc (.cells #[.bool false, .slice none 0 0] 28)
 go_upto_region 1 with (fail)
 generalize w.alloc (.cells #[.bool false, .slice none 0 0] 28) = w0 at *
 go_wp2_with fail
 refine Calls.mono (HN.out _ hx) ?_
 rintro e w1 ⟨r1, rfl, hr1, hx1⟩
 obtain ⟨A1, c1, rfl, -⟩ := hr1.shape
 rw [← hp]
 replace ez := ez.ext hx1
 replace hx := hx.trans hx1
 clear hx1 hr1
 obtain ⟨cez0, cez1⟩ := ez.cells2
 have fez := ez.frozen
 go_wp2
 obtain ⟨W9, eW, ez', U⟩ := ez.put2 (.bool false) (.slice none 0 0) rfl rfl
 rw [← eW]
 clear eW ez
 replace hx := U.from_ hx (by simp <;> omega)
 have ez := ez'
 clear U ez'
 clear cez0 cez1 fez
 obtain ⟨cez0, cez1⟩ := ez.cells2
 have fez := ez.frozen
 refine bodyPost_ret (v := .tuple #[.agg #[.bool false, .slice none 0 0], .int .i64 2]) (by simp [results, Tryz.results24, go_sem, cez0, cez1]) rfl ?_
 exact Gives.mk ⟨_, rfl, isZ_zero _⟩ hx
set_option maxRecDepth 20000 in
set_option maxHeartbeats 8000000 in
theorem discriminant_z (v : Value) (l : List Int) (S : Nat) (w : World) (hv : HzV 0 w v l) (hs : ∀ i, qsz (cz l i) ≤ S) (hl : l.length ≤ 100) (h1 : 1 < pl (cz l)) (hS : (S + 3) * 4 ^ (pl (cz l) + pl (cz l)) ≤ 68719476736)
  (hB : 8 + 8 * ((pl (cz l) + pl (cz l) + 1) * ((pl (cz l) + pl (cz l) + 1) * ((S + 2 + 1) * 2 ^ (pl (cz l) + pl (cz l))))) ≤ 1099511627776) :
  Calls Tryz.prog 24 #[v] w (Gives w fun r w' => TupE w' r (dsz (cz l)) 0) := by
 have HV := Lib.hid hv
 obtain ⟨A, c, rfl⟩ := hv.len
 clear hv
 have hpl : pl (cz l) ≤ l.length := pl_le (cz_sup l)
 have hS0 : S ≤ 68719476736 := by
  have : 0 < 4 ^ (pl (cz l) + pl (cz l)) := Nat.pow_pos (by decide)
  have : (S + 3) * 1 ≤ (S + 3) * 4 ^ (pl (cz l) + pl (cz l)) := Nat.mul_le_mul_left _ this
  omega
 have hpp := pl_pd (Fin_.cz l)
 have hpq : ∀ i, qsz (pd (cz l) i) ≤ S + 2 := pdq hs (cz_sup l) (by omega)
 have hnm := fun W (x : Ext w W) => normal_zp _ l W (HV.out.ext x) (by omega)
 have hder : ∀ W u, IsZP 0 W u (cz l) → Calls Tryz.prog 42 #[u] W (Gives W fun r w' => IsZP W.heap.size w' r (pd (cz l))) := fun W u hu => by
  obtain ⟨m, g1, g2, -, g4⟩ := hu.hz (fun i => by have := hs i; omega)
  rw [← g4]
  exact zderivative_p _ m W g1 (by omega)
 have h0 : cz l ≠ pz := fun e => by rw [e, pl_pz] at h1; omega
 have hlead : ∀ W u, IsZP 0 W u (cz l) → Calls Tryz.prog 76 #[u] W (Gives W fun r w' => IsZ w' r (ld (cz l)).num) := fun W u hu => lead_z u 0 (cz l) W hu h0
 have hrs : ∀ W u z, IsZP 0 W u (cz l) → IsZP 0 W z (pd (cz l)) → Calls Tryz.prog 28 #[u, z] W (Gives W fun r w' => IsZ w' r (res (cz l) (pd (cz l))).num) := fun W u z hu hz => by
  refine zresultant_p u z _ _ (S + 2) W hu hz (fun i => by have := hs i; omega) hpq (by omega) (by omega) (by omega) ?_
  rw [hpp]
  have e : 2 ^ (pl (cz l) + (pl (cz l) - 1)) ≤ 2 ^ (pl (cz l) + pl (cz l)) := Nat.pow_le_pow_right (by decide) (by omega)
  have e2 : (pl (cz l) + (pl (cz l) - 1) + 1) * ((pl (cz l) + (pl (cz l) - 1) + 1) * ((S + 2 + 1) * 2 ^ (pl (cz l) + (pl (cz l) - 1)))) ≤ (pl (cz l) + pl (cz l) + 1) * ((pl (cz l) + pl (cz l) + 1) * ((S + 2 + 1) * 2 ^ (pl (cz l) + pl (cz l)))) := Nat.mul_le_mul (by omega) (Nat.mul_le_mul (by omega) (Nat.mul_le_mul_left _ e))
  omega
 have hrz := res_sz (ZI.cz l) (zi_pd (ZI.cz l)) (S := S + 2) (fun i => by have := hs i; omega) hpq (by omega)
 have hdv := res_pd (Fin_.cz l) (ZI.cz l) h1
 have hz0 : (cz l (pl (cz l) - 1)).num ≠ 0 := fun e => hdv.2 (Rat.num_eq_zero.1 e)
 have hld : qsz (cz l (pl (cz l) - 1)) ≤ S := hs _
 have hb1 : sz (res (cz l) (pd (cz l))).num.natAbs ≤ 137438953472 := by
  have e1 : (pl (cz l) + pl (pd (cz l))) * (S + 2 + 1) ≤ 4 ^ (pl (cz l) + pl (cz l)) * (S + 3) := Nat.mul_le_mul (by
   have : pl (cz l) + pl (cz l) < 4 ^ (pl (cz l) + pl (cz l)) := Nat.lt_pow_self (by decide)
   omega) (by omega)
  rw [Nat.mul_comm] at hS
  omega
 have hdl : dsz (cz l) = sgz ((pl (cz l) - 1) * (pl (cz l) - 1 - 1) / 2) ((res (cz l) (pd (cz l))).num / (cz l (pl (cz l) - 1)).num) := rfl
 have hld2 : (ld (cz l)).num = (cz l (pl (cz l) - 1)).num := rfl
 obtain ⟨p, hp⟩ : ∃ p, pl (cz l) = p + 1 := ⟨pl (cz l) - 1, by omega⟩
 obtain ⟨h, hh1, hh2⟩ := half_pair p
 have hp1 : pl (cz l) - 1 = p := by omega
 have hdd := hdv.1
 rw [hp1] at hdl hz0 hld hld2 hdd
 rw [← hh2] at hdl
 have hpb : p ≤ 100 := by omega
 have hp0 : ¬ (p : Int) < 1 := by omega
 have hhb : h ≤ 10000 := by
  rw [hh2]
  have : p * (p - 1) ≤ 100 * 100 := Nat.mul_le_mul hpb (by omega)
  omega
 rw [hld2] at hlead
 rw [hdl]
 obtain ⟨X, hX⟩ : ∃ X, X = (res (cz l) (pd (cz l))).num := ⟨_, rfl⟩
 obtain ⟨L, hL⟩ : ∃ L, L = (cz l p).num := ⟨_, rfl⟩
 simp only [← hX, ← hL] at hrs hb1 hlead hz0 hdd ⊢
 have hLb : sz L.natAbs ≤ 137438953472 := by have := qz_num hld; rw [← hL] at this; omega
 obtain ⟨Y, hY⟩ : ∃ Y, Y = X / L := ⟨_, rfl⟩
 rw [← hY]
 have HY := Lib.hid (show sz Y.natAbs ≤ 137438953472 from by
  have : Y.natAbs ≤ X.natAbs := by rw [hY]; exact Int.natAbs_ediv_le_natAbs X L
  exact Nat.le_trans (sz_mono this) hb1)
 have HC := Lib.hid (And.intro hnm (And.intro hder (And.intro hlead hrs)))
 have HB := Lib.hid (And.intro hb1 (And.intro hz0 (And.intro hLb (And.intro hY (And.intro hdd hp)))))
 clear hnm hder hlead hrs hb1 hz0 hLb hY hX hL hdl hrz hdv hld hld2 hp1 hp hpq hpp hpl hS hS0 hs h1 hh2 HV hdd h0 hB
 go_enter Tryz.func24, Tryz.ntmps24
 have ez := Box.new w 28 #[.bool false, .slice none 0 0] (by simp [isDig])
 have hx := (Ext.refl w).alloc (.cells #[.bool false, .slice none 0 0] 28)
 go_upto_region 1 with (fail)
 generalize w.alloc (.cells #[.bool false, .slice none 0 0] 28) = w0 at *
 go_wp2_with fail
 refine Calls.mono (HC.out.1 _ hx) ?_
 rintro e w1 ⟨r1, rfl, hr1, hx1⟩
 have Hr1 := Lib.hid (hr1.base_le (Nat.zero_le _))
 obtain ⟨A1, c1, rfl, -⟩ := hr1.shape
 rw [HB.out.2.2.2.2.2] at Hr1 ⊢
 have e1 : (((p + 1 : Nat) : Int) - 1) = (p : Nat) := by omega
 replace ez := ez.ext hx1
 replace hx := hx.trans hx1
 clear hx1 hr1
 go_wp2_with fail
 refine Calls.mono (HC.out.2.1 _ _ Hr1.out) ?_
 rintro e w2 ⟨r2, rfl, hr2, hx2⟩
 have Hr2 := Lib.hid (And.intro (Hr1.out.ext hx2) (hr2.base_le (Nat.zero_le _)))
 replace ez := ez.ext hx2
 replace hx := hx.trans hx2
 clear hx2 hr2 Hr1
 go_wp2_with fail
 refine Calls.mono (HC.out.2.2.2 _ _ _ Hr2.out.1 Hr2.out.2) ?_
 rintro e w3 ⟨r3, rfl, hr3, hx3⟩
 have Hr3 := Lib.hid (And.intro (Hr2.out.1.ext hx3) hr3)
 replace ez := ez.ext hx3
 replace hx := hx.trans hx3
 clear hx3 hr3 Hr2
 go_wp2_with fail
 refine Calls.mono (HC.out.2.2.1 _ _ Hr3.out.1) ?_
 rintro e w4 ⟨r4, rfl, hr4, hx4⟩
 replace ez := ez.ext hx4
 replace hx := hx.trans hx4
 have Hr4 := Lib.hid (And.intro (Hr3.out.2.kd hx4.kd) hr4)
 clear hx4 hr4 Hr3
 go_wp2_with fail
 refine Calls.mono (exact_e _ _ X L _ (Hr4.out.1.has (by have := HB.out.1; omega)) (Hr4.out.2.has (by have := HB.out.2.2.1; omega)) HB.out.2.1 HB.out.2.2.2.2.1) ?_
 rintro e w5 ⟨r5, rfl, ⟨a5, rfl, hr5⟩, hx5⟩
 rw [← HB.out.2.2.2.1] at hr5
 obtain ⟨b7, A7, n7, c7, rfl⟩ := hr5.cells
 obtain ⟨W6, eW6, eQ, x6⟩ := Box.made w5 28 #[.bool b7, .slice A7 n7 c7] (by simp [isDig])
 have HQ := Lib.hid (hr5.kd x6.kd)
 have hgQ : w.heap.size < w5.heap.size := (ez.ext hx5).lt
 replace ez := ez.ext (hx5.trans x6)
 replace hx := hx.trans (hx5.trans x6)
 clear hr5 hx5 x6 Hr4
 go_upto_region 6 with (fail)
 rw [← eW6]
 clear eW6
 have hszQ : w.heap.size ≤ w5.heap.size := by omega
 generalize w5.heap.size = gQ at *
 by_cases ho : h % 2 = 1
 ·have hb := par_b (h := h) (b := true) (by simpa using ho)
  obtain ⟨ceQ0, ceQ1⟩ := eQ.cells2
  have feQ := eQ.frozen
  go_wp2_with fail
  refine Calls.mono (neg_z _ Y _ (HQ.out.has (by have := HY.out; omega))) ?_
  rintro e w8 ⟨r8, rfl, hr8, hx8⟩
  obtain ⟨b7, A7, n7, c7, rfl⟩ := hr8.cells
  clear ceQ0 ceQ1 feQ HQ
  replace eQ := eQ.ext hx8
  replace ez := ez.ext hx8
  replace hx := hx.trans hx8
  have hsg : sgz h Y = -Y := by unfold sgz; rw [if_pos ho]
  rw [← hsg] at hr8
  have Hr8 := Lib.hid hr8; clear hr8 hx8 hsg ho
  obtain ⟨ceQ0, ceQ1⟩ := eQ.cells2
  have feQ := eQ.frozen
  go_upto_region 8 with (fail)
  have hr := Hr8.out
  obtain ⟨W8, eW, eQ', U⟩ := eQ.put2 (.bool b7) (.slice A7 n7 c7) rfl rfl
  rw [← eW]
  clear eW eQ
  replace hr := hr.kd U.kd
  replace ez := ez.upd U (by simp <;> omega)
  replace hx := U.from_ hx (by simp <;> omega)
  have eQ := eQ'
  clear U eQ'
  have Hr := Lib.hid hr; clear hr Hr8 ceQ0 ceQ1 feQ
  obtain ⟨cez0, cez1⟩ := ez.cells2
  have fez := ez.frozen
  obtain ⟨ceQ0, ceQ1⟩ := eQ.cells2
  have feQ := eQ.frozen
  go_wp2
  have hr := Hr.out
  obtain ⟨W9, eW, ez', U⟩ := ez.put2 (.bool b7) (.slice A7 n7 c7) rfl rfl
  rw [← eW]
  clear eW ez
  replace hr := hr.kd U.kd
  replace hx := U.from_ hx (by simp <;> omega)
  have ez := ez'
  clear U ez'
  clear cez0 cez1 fez ceQ0 ceQ1 feQ
  obtain ⟨cez0, cez1⟩ := ez.cells2
  have fez := ez.frozen
  refine bodyPost_ret (v := .tuple #[.agg #[.bool b7, .slice A7 n7 c7], .int .i64 0]) (by simp [results, Tryz.results24, go_sem, cez0, cez1]) rfl ?_
  exact Gives.mk ⟨_, rfl, hr⟩ hx
 ·have hb := par_b (h := h) (b := false) (by simpa using ho)
  have hsg : sgz h Y = Y := by unfold sgz; rw [if_neg ho]
  have Hr := Lib.hid (show IsZ W6 (.agg #[.bool b7, .slice A7 n7 c7]) (sgz h Y) from by rw [hsg]; exact HQ.out)
  clear hsg ho HQ
  obtain ⟨cez0, cez1⟩ := ez.cells2
  have fez := ez.frozen
  obtain ⟨ceQ0, ceQ1⟩ := eQ.cells2
  have feQ := eQ.frozen
  go_wp2
  have hr := Hr.out
  obtain ⟨W9, eW, ez', U⟩ := ez.put2 (.bool b7) (.slice A7 n7 c7) rfl rfl
  rw [← eW]
  clear eW ez
  replace hr := hr.kd U.kd
  replace hx := U.from_ hx (by simp <;> omega)
  have ez := ez'
  clear U ez'
  clear cez0 cez1 fez ceQ0 ceQ1 feQ
  obtain ⟨cez0, cez1⟩ := ez.cells2
  have fez := ez.frozen
  refine bodyPost_ret (v := .tuple #[.agg #[.bool b7, .slice A7 n7 c7], .int .i64 0]) (by simp [results, Tryz.results24, go_sem, cez0, cez1]) rfl ?_
  exact Gives.mk ⟨_, rfl, hr⟩ hx
end Go.Proofs.YtfacbpnegkjcgaaGreatDoor
namespace Go.Proofs.YtfacbpnegkjcgaaGreatDoor
open Go.RowKit Go.Hp
set_option maxRecDepth 20000 in
set_option maxHeartbeats 16000000 in
theorem zresultants_law (v0 v1 : Value) (l0 l1 : List RawI) (w : World) (h0 : ZPolyV w v0 l0) (h1 : ZPolyV w v1 l1) :
  Calls Tryz.prog 4 #[v0, v1] w (Gives w fun r _ => r = .bool true) := by
 have H0 := Lib.hid h0; have H1 := Lib.hid h1
 obtain ⟨A0, c0, rfl, k1, k2⟩ := h0.len
 obtain ⟨A1, c1, rfl, k3, k4⟩ := h1.len
 clear h0 h1
 go_enter Tryz.func4, Tryz.ntmps4
 go_wp2_with fail
 refine Calls.mono (awake_z _) ?_
 rintro e w1 ⟨r, rfl, rfl, hx⟩
 go_wp2_with fail
 refine Calls.mono (zlong_b 8 1 w1.heap.size 2 [(_, l0), (_, l1)] _ (by decide) (by decide) (by simp) (by simp) (listsZ_two w1 _ (H0.out.ext hx) (H1.out.ext hx) rfl)) ?_
 rintro e w2 ⟨rfl, b, rfl, hb⟩
 replace hx := hx.alloc (.cells #[.slice A0 l0.length c0, .slice A1 l1.length c1] 23)
 have Hb := Lib.hid hb; clear hb
 generalize w1.alloc (.cells #[.slice A0 l0.length c0, .slice A1 l1.length c1] 23) = wb at hx ⊢
 cases b with
 | true =>
  go_wp2
  go_ret
  exact Gives.mk rfl hx
 | false =>
  obtain ⟨hl0, hs0⟩ := Hb.out (by trivial) (.slice A0 l0.length c0, l0) (by simp)
  obtain ⟨hl1, hs1⟩ := Hb.out (by trivial) (.slice A1 l1.length c1, l1) (by simp)
  simp only at hl0 hs0 hl1 hs1
  have P0 := Lib.hid (H0.out.has hs0).1; have P1 := Lib.hid (H1.out.has hs1).1
  have HC := Lib.hid (And.intro (H0.out.qsz hs0) (H1.out.qsz hs1))
  have hll0 : (l0.map zOf).length = l0.length := by simp
  have hll1 : (l1.map zOf).length = l1.length := by simp
  obtain ⟨m0, hm0⟩ : ∃ m0, m0 = l0.map zOf := ⟨_, rfl⟩
  obtain ⟨m1, hm1⟩ : ∃ m1, m1 = l1.map zOf := ⟨_, rfl⟩
  rw [← hm0] at P0 HC hll0
  rw [← hm1] at P1 HC hll1
  rw [← hll0] at hl0 k1 P0 ⊢
  rw [← hll1] at hl1 k3 P1 ⊢
  clear hs0 hs1 hm0 hm1 hll0 hll1 Hb H0 H1
  have hp0 : pl (cz m0) ≤ 8 := Nat.le_trans (pl_le (cz_sup m0)) hl0
  have hp1 : pl (cz m1) ≤ 8 := Nat.le_trans (pl_le (cz_sup m1)) hl1
  have e4 : ∀ a b : Nat, a ≤ 8 → b ≤ 8 → 4 ^ (a + b) ≤ 4 ^ 16 := fun a b ha hb => Nat.pow_le_pow_right (by decide) (by omega)
  have e2 : ∀ a b : Nat, a ≤ 8 → b ≤ 8 → 2 ^ (a + b) ≤ 2 ^ 16 := fun a b ha hb => Nat.pow_le_pow_right (by decide) (by omega)
  have b1 : ∀ a b : Nat, a ≤ 8 → b ≤ 8 → ∀ S : Nat, S ≤ 4 → 8 + 8 * ((a + b + 1) * ((a + b + 1) * (S * 2 ^ (a + b)))) ≤ 1099511627776 := fun a b ha hb S hS => by
   have e3 : (a + b + 1) * ((a + b + 1) * (S * 2 ^ (a + b))) ≤ 17 * (17 * (4 * 2 ^ 16)) := Nat.mul_le_mul (by omega) (Nat.mul_le_mul (by omega) (Nat.mul_le_mul hS (e2 a b ha hb)))
   omega
  have b2 : ∀ a b : Nat, a ≤ 8 → b ≤ 8 → ∀ S : Nat, S ≤ 4 → S * 4 ^ (a + b) ≤ 68719476736 := fun a b ha hb S hS => by
   have e3 : S * 4 ^ (a + b) ≤ 4 * 4 ^ 16 := Nat.mul_le_mul hS (e4 a b ha hb)
   omega
  have hR1 := fun W (x : Ext w W) => degree_rz _ m0 W (P0.out.ext x) (by omega)
  have hR2 := fun W (x : Ext w W) => resultant_z _ _ m0 m1 1 W (P0.out.ext x) (P1.out.ext x) HC.out.1 HC.out.2 (by omega) (by omega) (b1 _ _ hp0 hp1 2 (by omega))
  have hR3 := fun W (x : Ext w W) => resultant_rz _ _ m0 m1 1 W (P0.out.ext x) (P1.out.ext x) HC.out.1 HC.out.2 (by omega) (by omega) (by omega) (b2 _ _ hp0 hp1 2 (by omega))
  have HR := Lib.hid (And.intro hR1 (And.intro trivial (And.intro hR2 hR3)))
  clear hR1 hR2 hR3
  by_cases hd : 1 < pl (cz m0)
  ·have HZ := Lib.hid (And.intro (fun W (x : Ext w W) => discriminant_z _ m0 1 W (P0.out.ext x) HC.out.1 (by omega) hd (b2 _ _ hp0 hp0 4 (by omega)) (b1 _ _ hp0 hp0 4 (by omega))) (fun W (x : Ext w W) => discriminant_rz _ m0 1 W (P0.out.ext x) HC.out.1 (by omega) hd (b2 _ _ hp0 hp0 4 (by omega))))
   clear b1 b2 e2 e4
   obtain ⟨p, hp⟩ : ∃ p, p = pl (cz m0) := ⟨_, rfl⟩
   have hlt : ¬ ((p : Int) - 1 < 1) := by omega
   rw [← hp] at HR
   go_wp2_with fail
   refine Calls.mono (HZ.out.1 _ hx) ?_
   rintro e w3 ⟨r3, rfl, ⟨a3, rfl, hr3⟩, hx3⟩
   obtain ⟨b7, A7, n7, c7, rfl⟩ := hr3.cells
   obtain ⟨W4, eW4, eN, x4⟩ := Box.made w3 28 #[.bool b7, .slice A7 n7 c7] (by simp [isDig])
   have HN := Lib.hid (hr3.kd x4.kd)
   replace hx := hx.trans (hx3.trans x4)
   clear hr3 hx3 x4
   go_upto_region 6 with (fail)
   rw [← eW4]
   clear eW4
   generalize w3.heap.size = gN at *
   go_wp2_with fail
   refine Calls.mono (HR.out.1 _ hx) ?_
   rintro e w5 ⟨r5, rfl, rfl, hx5⟩
   replace eN := eN.ext hx5
   have HN2 := Lib.hid (HN.out.kd hx5.kd)
   replace hx := hx.trans hx5
   clear hx5 HN
   obtain ⟨ceN0, ceN1⟩ := eN.cells2
   have feN := eN.frozen
   go_wp2_with fail
   refine wp_region_par (k := 9) (D := [28, 29, 30, 31, 32, 33, 34, 35, 36]) (T := [[], [0], [0, 1], [0, 1, 2], [0, 1, 2], [0, 1, 2, 4], [0, 1, 2, 3, 4, 5], [0, 1, 2, 3, 4, 5, 6], [0, 1, 2, 3, 4, 5, 6, 7]]) (EK := [6, 5, 0]) (EV := [?e1x0, ?e1x1, ?e1x2]) (VL := [(kv ?v1x0), (kv ?v1x1), (kv ?v1x2), (kv ?v1x3), (kv ?v1x4), (fun γ => γ 5), (kv (.bool true)), (kv ?v1x7), (kv ?v1x8)]) (FL := fun γ w' => [True, True, True, True, True, IsZ w' (γ 5) (dsz (cz m0)), True, True, True]) ?hE1 (by kernel_rfl) (by kernel_rfl) (by rfl) (by kernel_rfl) ?hloc1 ?hmono1 ?hstep1 ?htail1
   case hE1 => refine ⟨?_, ?_, ?_, trivial⟩ <;> (simp only [List.getElem?_toArray, List.getElem?_cons_succ, List.getElem?_cons_zero]; rfl)
   case hstep1 =>
    refine ⟨⟨⟨⟨⟨⟨⟨⟨⟨trivial, ?_⟩, ?_⟩, ?_⟩, ?_⟩, ?_⟩, ?_⟩, ?_⟩, ?_⟩, ?_⟩
    ·intro γ w' he hf; clear hf; refine ⟨trivial, ?_⟩; intro R hR
     have hc := he.cells
     go_simp
     (try go_ints); (try (rw [if_neg (by omega)])); (try (rw [if_pos (by omega)])); (try go_simp); (try go_ints)
     refine hR _ _ (Ext.refl _) ?_ trivial
     rfl
    ·intro γ w' he hf; clear hf; refine ⟨trivial, ?_⟩; intro R hR
     have hc := he.cells
     go_simp
     (try go_ints); (try (rw [if_neg (by omega)])); (try (rw [if_pos (by omega)])); (try go_simp); (try go_ints)
     refine hR _ _ (Ext.refl _) ?_ trivial
     rfl
    ·intro γ w' he hf; clear hf; refine ⟨trivial, ?_⟩; intro R hR
     have hc := he.cells
     go_simp
     (try go_ints); (try (rw [if_neg (by omega)])); (try (rw [if_pos (by omega)])); (try go_simp); (try go_ints)
     refine hR _ _ (Ext.refl _) ?_ trivial
     rfl
    ·intro γ w' he hf; clear hf; refine ⟨rfl, ?_⟩; intro R hR
     have hc := he.cells
     have cq0 := he.cell ceN0
     have cq1 := he.cell ceN1
     go_simp
     (try go_ints); (try (rw [if_neg (by omega)])); (try (rw [if_pos (by omega)])); (try go_simp); (try go_ints)
     refine hR _ _ (Ext.refl _) ?_ trivial
     rfl
    ·intro γ w' he hf; clear hf; refine ⟨rfl, ?_⟩; intro R hR
     have hc := he.cells
     go_simp
     (try go_ints); (try (rw [if_neg (by omega)])); (try (rw [if_pos (by omega)])); (try go_simp); (try go_ints)
     refine hR _ _ (Ext.refl _) ?_ trivial
     rfl
    ·intro γ w' he hf; clear hf; refine ⟨rfl, ?_⟩; intro R hR
     go_simp
     refine Calls.mono (show Calls _ _ _ w' (Gives w' fun r w'' => IsZ w'' (r) (dsz (cz m0))) from HZ.out.2 w' (hx.trans he)) ?_
     rintro e w2 ⟨v, rfl, hv, hx⟩
     exact ⟨v, rfl, hR v w2 hx rfl hv⟩
    ·intro γ w' he hf; have f5 : IsZ w' (γ 5) (dsz (cz m0)) := hf 5 (by decide); clear hf; refine ⟨rfl, ?_⟩; intro R hR
     go_simp
     refine Calls.mono (show Calls _ _ _ w' (Gives w' fun r _ => r = .bool true) from sameint_t _ _ _ w' (HN2.out.kd he.kd) f5) ?_
     rintro e w2 ⟨v, rfl, rfl, hx⟩
     exact ⟨_, rfl, hR _ w2 hx rfl trivial⟩
    ·intro γ w' he hf; have f5 : IsZ w' (γ 5) (dsz (cz m0)) := hf 5 (by decide); clear hf; refine ⟨rfl, ?_⟩; intro R hR
     have hc := he.cells
     go_simp
     (try go_ints); (try (rw [if_neg (by omega)])); (try (rw [if_pos (by omega)])); (try go_simp); (try go_ints)
     refine hR _ _ (Ext.refl _) ?_ trivial
     rfl
    ·intro γ w' he hf; have f5 : IsZ w' (γ 5) (dsz (cz m0)) := hf 5 (by decide); clear hf; refine ⟨trivial, ?_⟩; intro R hR
     have hc := he.cells
     go_simp
     (try go_ints); (try (rw [if_neg (by omega)])); (try (rw [if_pos (by omega)])); (try go_simp); (try go_ints)
     refine hR _ _ (Ext.refl _) ?_ trivial
     rfl
   case hloc1 =>
    exact ⟨⟨⟨⟨⟨⟨⟨⟨⟨trivial, (fun γ γ' h => ⟨rfl, fun _ => rfl⟩)⟩, (fun γ γ' h => ⟨rfl, fun _ => rfl⟩)⟩, (fun γ γ' h => ⟨rfl, fun _ => rfl⟩)⟩, (fun γ γ' h => ⟨rfl, fun _ => rfl⟩)⟩, (fun γ γ' h => ⟨rfl, fun _ => rfl⟩)⟩, (fun γ γ' h => ⟨h 5 rfl, fun w' => (congrArg (fun a => IsZ w' (a) (dsz (cz m0))) (h 5 rfl))⟩)⟩, (fun γ γ' h => ⟨rfl, fun _ => rfl⟩)⟩, (fun γ γ' h => ⟨rfl, fun _ => rfl⟩)⟩, (fun γ γ' h => ⟨rfl, fun _ => rfl⟩)⟩
   case hmono1 =>
    exact ⟨⟨⟨⟨⟨⟨⟨⟨⟨trivial, (fun γ wA w' e h => h)⟩, (fun γ wA w' e h => h)⟩, (fun γ wA w' e h => h)⟩, (fun γ wA w' e h => h)⟩, (fun γ wA w' e h => h)⟩, (fun γ wA w' e h => (show IsZ wA (γ 5) (dsz (cz m0)) from h).ext e)⟩, (fun γ wA w' e h => h)⟩, (fun γ wA w' e h => h)⟩, (fun γ wA w' e h => h)⟩
   intro γ w7 hx7 hF
   have p5 : IsZ w7 (γ 5) (dsz (cz m0)) := Each.get hF 5 (by decide)
   clear hF
   simp only [fillAll, gV, kv, List.getD_cons_zero, List.getD_cons_succ, Act.put, List.setIfInBounds_toArray, List.set_cons_zero, List.set_cons_succ, List.toList_toArray, List.drop_succ_cons, List.drop_zero, List.drop_nil, Nat.zero_add, Nat.reduceAdd]
   generalize γ 5 = g5 at *
   clear γ
   replace hx := hx.trans hx7
   clear p5 hx7 ceN0 ceN1 feN HN2 eN
   go_wp2_with fail
   refine Calls.mono (HR.out.2.2.1 _ hx) ?_
   rintro e w20 ⟨r20, rfl, hr20, hx20⟩
   have H20 := Lib.hid hr20
   replace hx := hx.trans hx20
   clear hr20 hx20
   go_wp2_with fail
   refine Calls.mono (HR.out.2.2.2 _ hx) ?_
   rintro e w21 ⟨r21, rfl, hr21, hx21⟩
   have H21 := Lib.hid (And.intro (H20.out.kd hx21.kd) hr21)
   replace hx := hx.trans hx21
   clear hr21 hx21 H20
   go_wp2_with fail
   refine Calls.mono (sameint_t _ _ _ _ H21.out.1 H21.out.2) ?_
   rintro e w22 ⟨r22, rfl, rfl, hx22⟩
   replace hx := hx.trans hx22
   clear hx22 H21
   go_wp2
   go_ret
   exact Gives.mk rfl hx
  ·have HZ := Lib.hid (fun W (x : Ext w W) => discriminant_zero _ m0 W (P0.out.ext x) (by omega) hd)
   clear b1 b2 e2 e4
   obtain ⟨p, hp⟩ : ∃ p, p = pl (cz m0) := ⟨_, rfl⟩
   have hlt : ((p : Int) - 1 < 1) := by omega
   rw [← hp] at HR
   go_wp2_with fail
   refine Calls.mono (HZ.out _ hx) ?_
   rintro e w3 ⟨r3, rfl, ⟨a3, rfl, hr3⟩, hx3⟩
   obtain ⟨b7, A7, n7, c7, rfl⟩ := hr3.cells
   obtain ⟨W4, eW4, eN, x4⟩ := Box.made w3 28 #[.bool b7, .slice A7 n7 c7] (by simp [isDig])
   have HN := Lib.hid (hr3.kd x4.kd)
   replace hx := hx.trans (hx3.trans x4)
   clear hr3 hx3 x4
   go_upto_region 6 with (fail)
   rw [← eW4]
   clear eW4
   generalize w3.heap.size = gN at *
   go_wp2_with fail
   refine Calls.mono (HR.out.1 _ hx) ?_
   rintro e w5 ⟨r5, rfl, rfl, hx5⟩
   replace eN := eN.ext hx5
   have HN2 := Lib.hid (HN.out.kd hx5.kd)
   replace hx := hx.trans hx5
   clear hx5 HN
   obtain ⟨ceN0, ceN1⟩ := eN.cells2
   have feN := eN.frozen
   go_wp2_with fail
   refine Calls.mono (sign_r _ 0 _ (HN2.out.has (by decide))) ?_
   rintro e w6 ⟨r6, rfl, rfl, hx6⟩
   replace hx := hx.trans hx6
   clear hx6 HN2 ceN0 ceN1 feN eN
   go_wp2_with fail
   refine Calls.mono (HR.out.2.2.1 _ hx) ?_
   rintro e w20 ⟨r20, rfl, hr20, hx20⟩
   have H20 := Lib.hid hr20
   replace hx := hx.trans hx20
   clear hr20 hx20
   go_wp2_with fail
   refine Calls.mono (HR.out.2.2.2 _ hx) ?_
   rintro e w21 ⟨r21, rfl, hr21, hx21⟩
   have H21 := Lib.hid (And.intro (H20.out.kd hx21.kd) hr21)
   replace hx := hx.trans hx21
   clear hr21 hx21 H20
   go_wp2_with fail
   refine Calls.mono (sameint_t _ _ _ _ H21.out.1 H21.out.2) ?_
   rintro e w22 ⟨r22, rfl, rfl, hx22⟩
   replace hx := hx.trans hx22
   clear hx22 H21
   go_wp2
   go_ret
   exact Gives.mk rfl hx
end Go.Proofs.YtfacbpnegkjcgaaGreatDoor
namespace Go.Proofs.YtfacbpnegkjcgaaGreatDoor
open Go.ChangeShapes Go.WideShapes Go.ChangeAt Go.RowKit Go.Hp
open Go.ChangeMaps (open_string shut_string)
theorem own_ : ownKnob Tryz.prog.godebug = none := by kernel_rfl
theorem laidOut_ : laidOutB Tryz.prog = true := by kernel_rfl
theorem zpolyResultants_door (os : Os) (args : Array Value) : laidMetH Tryz.prog [("math/bits.deBruijn32tab", Rows.laid_math_bits_deBruijn32tab), ("math/bits.deBruijn64tab", Rows.laid_math_bits_deBruijn64tab), ("internal/strconv.uint64pow10", Rows.laid_internal_strconv_uint64pow10)] ((World.doorLaid Tryz.prog 400 os).forCall (fun _ _ => 0) ⟨#[], args, []⟩).memory :=
 laidMetH_of_parts3 (fuel := 8) (laidMet_of_run' 8 (by kernel_rfl) (by kernel_rfl)) (by kernel_rfl) (by kernel_rfl)
set_option maxRecDepth 100000 in
theorem zpolyResultants_lifted (os : Os) (started : os.Started) (H : Type) (enc : TypeId × Value → H) :
  ReturnsInHanded {} Tryz.checked os 4 .any (fun w args => (Rows.zpolyResultantsSpec.pre enc Tryz.prog Tryz.f4 [] false w args ∧ laidMetH Tryz.prog [("math/bits.deBruijn32tab", Rows.laid_math_bits_deBruijn32tab), ("math/bits.deBruijn64tab", Rows.laid_math_bits_deBruijn64tab), ("internal/strconv.uint64pow10", Rows.laid_internal_strconv_uint64pow10)] w) ∧ sizedMet enc Tryz.prog Tryz.f4 (OpenSpec.ofChange Rows.zpolyResultantsSpec) false w args)
   (Rows.zpolyResultantsSpec.post enc Tryz.prog Tryz.f4 false true false false) := by
 refine returnsInHanded_of_change_and (C := Tryz.checked) (X := fun w _ => laidMetH Tryz.prog [("math/bits.deBruijn32tab", Rows.laid_math_bits_deBruijn32tab), ("math/bits.deBruijn64tab", Rows.laid_math_bits_deBruijn64tab), ("internal/strconv.uint64pow10", Rows.laid_internal_strconv_uint64pow10)] w) (fun _ _ _ hh h => h.of_heap hh) own_ started (by kernel_rfl) Tryz.func4
  (ChangeSpec.witness_shaped (enc := enc) (C := Tryz.checked) (os := os) (X := fun w _ => laidMetH Tryz.prog [("math/bits.deBruijn32tab", Rows.laid_math_bits_deBruijn32tab), ("math/bits.deBruijn64tab", Rows.laid_math_bits_deBruijn64tab), ("internal/strconv.uint64pow10", Rows.laid_internal_strconv_uint64pow10)] w) false (World.doorLaid Tryz.prog 400 os) #[.slice none 0 0, .slice none 0 0] 8 rfl (World.shaped_of_RefB (by kernel_rfl) (by kernel_rfl)) (by kernel_rfl) (by kernel_rfl) (by kernel_rfl) (zpolyResultants_door os _)) ?_
 intro W base args ds gs before hval0 hW _ _ hL _
 clear hL
 have hval : ∀ (j : Nat) t v, Tryz.f4.params[j]? = some t → args[j]? = some v → Value.okWide Tryz.prog W .any base t v := hval0
 have hW' := hW
 obtain ⟨p, q, hA0, hV, rfl, hfz, hnd⟩ := hW
 have hA : DataW.TrodAll enc Tryz.prog W 0 (fun _ => true) true Tryz.f4.params.toList args.toList ds p := hA0
 rw [Tryz.params4] at hA hval
 obtain ⟨v0, v1, d0, d1, p0, p1, hargs, rfl, rfl, h0, h1⟩ := trodAll_two hA
 obtain rfl : args = #[v0, v1] := by cases args; simp_all
 obtain ⟨rfl, rfl⟩ := trodVars_none hV
 have lt0 : ∀ x ∈ p0, x.block < W.heap.size := by obtain ⟨m, hm⟩ := h0; exact DataW.trod_lt m _ _ _ hm
 have lt1 : ∀ x ∈ p1, x.block < W.heap.size := by obtain ⟨m, hm⟩ := h1; exact DataW.trod_lt m _ _ _ hm
 obtain ⟨l0, w0⟩ : ∃ l, ZPolyV W v0 l := by obtain ⟨m, hm⟩ := h0; exact open_zpoly Tryz.underlying23 hm (okWide_slice Tryz.underlying23 (hval 0 23 v0 rfl rfl))
 obtain ⟨l1, w1⟩ : ∃ l, ZPolyV W v1 l := by obtain ⟨m, hm⟩ := h1; exact open_zpoly Tryz.underlying23 hm (okWide_slice Tryz.underlying23 (hval 1 23 v1 rfl rfl))
 clear hA0 hval0
 refine (zresultants_law v0 v1 l0 l1 W w0 w1).mono fun e W' ⟨v, he, hv, bel⟩ => ?_
 subst he hv
 exact ⟨_, rfl, _, _, _, [], _, [], hW', trodAll_mk1 (shut_bool Tryz.underlying4 _), (trodAll_cons_mk (Below.trod laidOut_ (by kernel_rfl) (of_decide_eq_true (by kernel_rfl)) h0 bel lt0) (trodAll_cons_mk (Below.trod laidOut_ (by kernel_rfl) (of_decide_eq_true (by kernel_rfl)) h1 bel lt1) trodAll_mk0)), rfl, bel.frame _, fun h => by cases h⟩
theorem zpolyResultants_over : Rows.zpolyResultantsRow.holds Tryz.pinned (OpenSpec.ofChange Rows.zpolyResultantsSpec) :=
 OpenClaim.holds_of_wide 4 Tryz.f4 rfl rfl rfl rfl rfl rfl rfl ⟨rfl, rfl, rfl, rfl, rfl⟩ rfl rfl rfl rfl rfl (by kernel_rfl) Tryz.func4 (by kernel_rfl)
  (of_decide_eq_true (by kernel_rfl)) (by unfold Func.isWrapper; first | (rw [if_pos (by decide +kernel)]; kernel_rfl) | (rw [if_neg (by decide +kernel)]; exact ⟨rfl, rfl⟩))
  (fun os started H enc _ => zpolyResultants_lifted os started H enc)
theorem zpolyResultants_proved : Rows.ZpolyResultantsSaid := zpolyResultants_over
theorem zpolyResultants_card : Rows.ZpolyResultantsCardSaid :=
 Claim7.holds_tied_plain_at .later [] [.data, .data, .data] true _ false
  zpolyResultants_over (fun _ h => by cases h) (by kernel_rfl) (fun _ h => by cases h) zpolyResultants_row_tie rfl ⟨rfl, rfl⟩ (by kernel_rfl) rfl
  (fun f fn hf hfn => by
   obtain rfl : f = 4 := Option.some.inj ((show Tryz.prog.funcNamed "halfplane/halfplanelaw05.ZpolyResultants" = some 4 by kernel_rfl).symm.trans hf) |>.symm
   obtain rfl : fn = Tryz.f4 := (Option.some.inj (Tryz.func4.symm.trans hfn)).symm
   exact ⟨by kernel_rfl, fun j t ht => by
    rw [Tryz.params4] at ht
    have hm : t ∈ [23] := by simpa using Array.mem_of_getElem? ht
    have hall : ([23].all fun u => !Tryz.prog.wantsStandIn u) = true := by kernel_rfl
    exact (show Tryz.prog.wantsStandIn t = false by simpa using List.all_eq_true.1 hall t hm)⟩)
  (by kernel_rfl)
end Go.Proofs.YtfacbpnegkjcgaaGreatDoor
