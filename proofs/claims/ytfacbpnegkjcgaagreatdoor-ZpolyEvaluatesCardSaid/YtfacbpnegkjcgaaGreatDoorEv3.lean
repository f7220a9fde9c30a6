/- Lemmas: The walks of zpoly: Add, Sub, Scale. Clearing denominators; primitive polynomials are their own primitive part. Plain. Gauss: the content of a product. Plain. Determinants by expansion along the first column. Plain. Resultants: Sylvester's determinant with formal degrees. Plain. The resultant by pseudo-division: the state of the rounds. Plain. The walks of the reference's integers: trim, Norm, signed, Neg, Abs, Sign. The contracts of the reference's integers: Norm, signed, Of, Sign, Neg, Abs, Same. The walks of the reference's integers: Same, SameInt. The walks of the reference's integers: below, plus, minus. The walks of the reference's integers: minus, Add, Sub, Mul. The contracts of the reference's integers: Add, Sub, Mul. The walks of the reference's integers: Mul. The walks of the reference's integers: Bits, shifted. The walk of the reference's long division. The contracts of the reference's integers: Euclid, Divided, Gcd. The contracts of the reference's integers: Divided, Gcd. -/
import Derived.Test.YtfacbpnegkjcgaaGreatDoorEv1
import Derived.Test.YtfacbpnegkjcgaaGreatDoorEv2
set_option linter.unusedVariables false
set_option linter.unusedSimpArgs false
namespace Go.Hp
theorem HasZ.zero (w : World) : HasZ w (.agg #[.bool false, .slice none 0 0]) 0 := (isZ_zero w).has (by decide)
end Go.Hp
namespace Go.Proofs.YtfacbpnegkjcgaaGreatDoor
open Go.RowKit Go.Hp
set_option maxRecDepth 20000 in
set_option maxHeartbeats 4000000 in
theorem zmerge_add (v u : Value) (l m : List Int) (w : World) (hv : HzV 0 w v l) (hu : HzV 0 w u m) (hn : l.length ≤ 1099511627776) (hm : m.length ≤ 1099511627776) :
  Calls Tryz.prog 68 #[v, u, .func (.func 72) #[] #[]] w (Gives w fun r w' => IsZP w.heap.size w' r (pad (cz l) (cz m))) := by
 obtain ⟨A, c, rfl, hl, hc, hA⟩ := hv
 obtain ⟨E, d, rfl, hl', hd, hE⟩ := hu
 obtain ⟨N, hN⟩ : ∃ N, N = max l.length m.length := ⟨_, rfl⟩
 obtain ⟨W0, hmk, ea, hx⟩ := make_zs N (max (l.length : Int) m.length) (by omega) (by omega) w
 have hlN : l.length ≤ N := by omega
 have hmN : m.length ≤ N := by omega
 have hN40 : N ≤ 1099511627776 := by omega
 have HN := Lib.hid hN; clear hN
 have HA : Hid (HzAt 0 w A l) := Lib.hid hA; clear hA
 have HE : Hid (HzAt 0 w E m) := Lib.hid hE; clear hE
 obtain ⟨F, hF⟩ : ∃ F : Nat → Rat, F = pad (cz l) (cz m) := ⟨_, rfl⟩
 rw [← hF]
 have HZ := Lib.hid (show ZI F ∧ Sup N F from ⟨by rw [hF]; exact (ZI.cz l).pad (ZI.cz m), by rw [hF]; exact ((cz_sup l).mono hlN).pad ((cz_sup m).mono hmN)⟩)
 have HF := Lib.hid hF; clear hF
 have HL := Lib.hid (lzf_len N F)
 go_enter Tryz.func68, Tryz.ntmps68
 go_wp2
 go_loopw [19] (fun iv wr => ∃ (k : Nat) (la : List Int), k ≤ N ∧ iv = .int .i64 k ∧ ZArr wr w.heap.size 28 la ∧ la.length = N ∧ la = (lzf N F).take k ++ List.replicate (N - k) 0 ∧ Ext w wr) (fun iv _ => N - (intOf iv).toNat)
 case atStart => exact ⟨0, _, Nat.zero_le _, rfl, ea, by simp, by simp, hx⟩
 case round =>
  obtain ⟨k, la, hk, rfl, ea, hlen, hla, hx⟩ := hrel
  have Hla := Lib.hid hla; clear hla
  have Hlen := Lib.hid hlen; clear hlen
  have hbk : k < N ∨ k = N := by omega
  rcases hbk with hkl | hkl
  ·skip
   by_cases hk1 : k < l.length
   ·obtain ⟨g, o, b, A1, n, c1, rfl, _, q0, q1, hq⟩ := HA.out.at_ (j := k) hk1
    replace q0 := fun o o' => (((Ext.refl wr).alloc o).alloc o').cell (hx.cell q0)
    replace q1 := fun o o' => (((Ext.refl wr).alloc o).alloc o').cell (hx.cell q1)
    have Hq := Lib.hid hq; clear hq
    by_cases hk2 : k < m.length
    ·obtain ⟨g', o', bb, B1, nn, cc1, rfl, _, r0, r1, hq'⟩ := HE.out.at_ (j := k) hk2
     replace r0 := fun o o' => (((Ext.refl wr).alloc o).alloc o').cell (hx.cell r0)
     replace r1 := fun o o' => (((Ext.refl wr).alloc o).alloc o').cell (hx.cell r1)
     have Hq' := Lib.hid hq'; clear hq'
     go_wp2_with fail
     refine Calls.mono (add_z _ _ l[k] m[k] _ (Hq.out.kd ((hx.alloc _).alloc _).kd) (Hq'.out.kd ((hx.alloc _).alloc _).kd)) ?_
     rintro e w2 ⟨r, rfl, hr, hx2⟩
     replace ea := ea.ext hx2.a2
     replace hx := hx.trans hx2.a2
     clear hx2
     obtain ⟨b5, A5, n5, c5, rfl⟩ := hr.cells
     have hkla : k < la.length := by have := Hlen.out; omega
     obtain ⟨_, _, _, _, ca0, ca1, -⟩ := ea.at_ (j := k) (by first | omega | (simp; omega))
     have fa0 := ea.frozen (k * 2)
     have fa1 := ea.frozen (k * 2 + 1)
     go_wp2
     obtain ⟨W3, eW, ea', U⟩ := ea.put (k := k) (by first | omega | (simp; omega)) hr
     rw [← eW]
     clear eW ea
     replace hx := U.from_ hx (by simp <;> omega)
     have ea := ea'
     clear U ea'
     go_roundw
     case rel => exact ⟨k + 1, _, by omega, by go_num, ea, by simpa using Hlen.out, set_z Hla.out hkl HL.out (by rw [lzf_get, HF.out]; exact (by show _ = (cz l k + cz m k).num; rw [cz_lt hk1, cz_lt hk2]; exact (num_add _ _).symm)), hx⟩
     case measure => simp [intOf]; omega
    ·have hk2' : ¬ (k : Int) < m.length := by omega
     go_wp2_with fail
     refine Calls.mono (add_z _ _ l[k] 0 _ (Hq.out.kd ((hx.alloc _).alloc _).kd) (HasZ.zero _)) ?_
     rintro e w2 ⟨r, rfl, hr, hx2⟩
     replace ea := ea.ext hx2.a2
     replace hx := hx.trans hx2.a2
     clear hx2
     obtain ⟨b5, A5, n5, c5, rfl⟩ := hr.cells
     have hkla : k < la.length := by have := Hlen.out; omega
     obtain ⟨_, _, _, _, ca0, ca1, -⟩ := ea.at_ (j := k) (by first | omega | (simp; omega))
     have fa0 := ea.frozen (k * 2)
     have fa1 := ea.frozen (k * 2 + 1)
     go_wp2
     obtain ⟨W3, eW, ea', U⟩ := ea.put (k := k) (by first | omega | (simp; omega)) hr
     rw [← eW]
     clear eW ea
     replace hx := U.from_ hx (by simp <;> omega)
     have ea := ea'
     clear U ea'
     go_roundw
     case rel => exact ⟨k + 1, _, by omega, by go_num, ea, by simpa using Hlen.out, set_z Hla.out hkl HL.out (by rw [lzf_get, HF.out]; exact (by show _ = (cz l k + cz m k).num; rw [cz_lt hk1, cz_ge (Nat.le_of_not_lt hk2)]; exact (num_add _ 0).symm)), hx⟩
     case measure => simp [intOf]; omega
   ·have hk1' : ¬ (k : Int) < l.length := by omega
    have hk2 : k < m.length := by have := HN.out; omega
    obtain ⟨g', o', bb, B1, nn, cc1, rfl, _, r0, r1, hq'⟩ := HE.out.at_ (j := k) hk2
    replace r0 := fun o o' => (((Ext.refl wr).alloc o).alloc o').cell (hx.cell r0)
    replace r1 := fun o o' => (((Ext.refl wr).alloc o).alloc o').cell (hx.cell r1)
    have Hq' := Lib.hid hq'; clear hq'
    go_wp2_with fail
    refine Calls.mono (add_z _ _ 0 m[k] _ (HasZ.zero _) (Hq'.out.kd ((hx.alloc _).alloc _).kd)) ?_
    rintro e w2 ⟨r, rfl, hr, hx2⟩
    replace ea := ea.ext hx2.a2
    replace hx := hx.trans hx2.a2
    clear hx2
    obtain ⟨b5, A5, n5, c5, rfl⟩ := hr.cells
    have hkla : k < la.length := by have := Hlen.out; omega
    obtain ⟨_, _, _, _, ca0, ca1, -⟩ := ea.at_ (j := k) (by first | omega | (simp; omega))
    have fa0 := ea.frozen (k * 2)
    have fa1 := ea.frozen (k * 2 + 1)
    go_wp2
    obtain ⟨W3, eW, ea', U⟩ := ea.put (k := k) (by first | omega | (simp; omega)) hr
    rw [← eW]
    clear eW ea
    replace hx := U.from_ hx (by simp <;> omega)
    have ea := ea'
    clear U ea'
    go_roundw
    case rel => exact ⟨k + 1, _, by omega, by go_num, ea, by simpa using Hlen.out, set_z Hla.out hkl HL.out (by rw [lzf_get, HF.out]; exact (by show _ = (cz l k + cz m k).num; rw [cz_lt hk2, cz_ge (Nat.le_of_not_lt hk1)]; exact (num_add 0 _).symm)), hx⟩
    case measure => simp [intOf]; omega
  ·obtain rfl : N = k := hkl.symm
   replace ea : ZArr wr w.heap.size 28 (lzf N F) := by
    have := Hla.out
    rw [Nat.sub_self, List.replicate_zero, List.append_nil, List.take_of_length_le (by rw [HL.out]; omega)] at this
    rw [← this]; exact ea
   have hrow := ea.row (Nat.le_refl _)
   have hT := trimmed_zs w.heap.size (some ⟨w.heap.size, 0, none⟩) N (lzf N F) wr (by rw [HL.out]; omega) (by omega) hrow
   rw [HL.out] at hT
   have Hrow := Lib.hid hrow; clear hrow
   go_wp2_with fail
   refine Calls.mono hT ?_
   rintro e w2 ⟨rfl, rfl⟩
   go_wp2
   go_ret
   exact Gives.mk (IsZP.of_trim (ZsV.trim Hrow.out (by rw [HL.out]; omega)) (cz_lzf HZ.out.1 HZ.out.2)) hx
theorem zadd_p (v u : Value) (l m : List Int) (w : World) (hv : HzV 0 w v l) (hu : HzV 0 w u m) (hn : l.length ≤ 1099511627776) (hm : m.length ≤ 1099511627776) :
  Calls Tryz.prog 36 #[v, u] w (Gives w fun r w' => IsZP w.heap.size w' r (pad (cz l) (cz m))) := by
 have HV := Lib.hid hv; have HU := Lib.hid hu
 obtain ⟨A, c, rfl⟩ := hv.len
 obtain ⟨E, d, rfl⟩ := hu.len
 clear hv hu
 go_enter Tryz.func36, Tryz.ntmps36
 go_wp2_with fail
 refine Calls.mono (zmerge_add _ _ l m w HV.out HU.out hn hm) ?_
 rintro e w1 ⟨r, rfl, hr, hx1⟩
 go_wp2
 go_ret
 exact Gives.mk hr hx1
end Go.Proofs.YtfacbpnegkjcgaaGreatDoor
namespace Go.Hp
/-- The least common multiple of the first n denominators. -/
def dl : Nat → (Nat → Rat) → Nat
 | 0, _ => 1
 | n + 1, F => Nat.lcm (dl n F) (F n).den
theorem dl_succ (n : Nat) (F : Nat → Rat) : dl (n + 1) F = Nat.lcm (dl n F) (F n).den := rfl
theorem dl_pos (F : Nat → Rat) : ∀ n, 0 < dl n F
 | 0 => by show 0 < 1; omega
 | n + 1 => Nat.lcm_pos (dl_pos F n) (F n).den_pos
theorem dl_dvd (F : Nat → Rat) : ∀ n i, i < n → (F i).den ∣ dl n F
 | n + 1, i, h => by
  rw [dl_succ]
  rcases Nat.lt_or_ge i n with l | l
  ·exact Nat.dvd_trans (dl_dvd F n i l) (Nat.dvd_lcm_left _ _)
  ·obtain rfl : i = n := by omega
   exact Nat.dvd_lcm_right _ _
/-- The polynomial without denominators. -/
def clr (n : Nat) (F : Nat → Rat) : Nat → Rat := psc ((dl n F : Nat) : Rat) F
theorem clr_at {n : Nat} {F : Nat → Rat} (h : Sup n F) (i : Nat) : clr n F i = (((F i).num * ((dl n F : Int) / ((F i).den : Int)) : Int) : Rat) := by
 rcases Nat.lt_or_ge i n with hi | hi
 ·obtain ⟨k, hk⟩ := dl_dvd F n i hi
  have hd : ((F i).den : Int) ≠ 0 := by have := (F i).den_pos; omega
  have e : (dl n F : Int) / ((F i).den : Int) = k := by rw [hk, Int.natCast_mul, Int.mul_ediv_cancel_left _ hd]
  rw [e]
  show ((dl n F : Nat) : Rat) * F i = _
  rw [hk]
  have h1 : F i = ((F i).num : Rat) / ((F i).den : Rat) := rat_eq _
  have hd' : ((F i).den : Rat) ≠ 0 := natq (F i).den_pos
  have h2 : (((F i).num * (k : Int) : Int) : Rat) = ((F i).num : Rat) * (k : Rat) := by rw [Rat.intCast_mul]; rfl
  have h3 : (((F i).den * k : Nat) : Rat) = ((F i).den : Rat) * (k : Rat) := by rw [Rat.natCast_mul]
  rw [h2, h3]
  generalize ((F i).num : Rat) = a at *
  generalize ((F i).den : Rat) = d at *
  rw [h1]
  grind
 ·show ((dl n F : Nat) : Rat) * F i = _
  rw [h i hi]; simp
theorem clr_zi {n : Nat} {F : Nat → Rat} (h : Sup n F) : ZI (clr n F) := fun i => ⟨_, clr_at h i⟩
theorem clr_fin {n : Nat} {F : Nat → Rat} (h : Fin_ F) : Fin_ (clr n F) := h.psc _
theorem dl_ne (n : Nat) (F : Nat → Rat) : ((dl n F : Nat) : Rat) ≠ 0 := natq (dl_pos F n)
theorem ld_psc {a : Rat} (ha : a ≠ 0) {F : Nat → Rat} (h : Fin_ F) : ld (psc a F) = a * ld F := by unfold ld; rw [pl_psc ha h]; rfl
theorem ld_pp {F : Nat → Rat} (hz : ZI F) (h : Fin_ F) (h0 : F ≠ pz) : ld (pp F) = ld F / (pcn F : Rat) := by
 have hp' : (pcn F : Rat) ≠ 0 := fun e => pcn_ne hz h h0 (by exact_mod_cast e)
 unfold pp
 rw [ld_psc (inv_ne hp') h]; grind
theorem cn_pp {F : Nat → Rat} (hz : ZI F) (h : Fin_ F) (h0 : F ≠ pz) : cn (pp F) = 1 := by
 have hpf := pp_fin h
 have hp := pcn_ne hz h h0
 have hc := cn_ne hz h h0
 have key : (pcn F * (cn (pp F) : Int)) ∣ (cn F : Int) := dvd_cn fun i => by
  obtain ⟨k, hk⟩ := cn_dvd hpf i
  obtain ⟨j, hj⟩ := pcn_dvd h i
  have e := pp_at hz h h0 i
  rw [hj, Int.mul_ediv_cancel_left _ hp] at e
  have e2 : (pp F i).num = j := by rw [e]; rfl
  rw [hj, ← e2, hk]
  exact ⟨k, by rw [Int.mul_assoc]⟩
 have h1 := Int.natAbs_dvd_natAbs.2 key
 rw [Int.natAbs_mul, pcn_abs] at h1
 have h2 : cn F * cn (pp F) ∣ cn F * 1 := by simpa using h1
 exact Nat.eq_one_of_dvd_one (Nat.dvd_of_mul_dvd_mul_left (Nat.pos_of_ne_zero hc) h2)
theorem pp_lead {F : Nat → Rat} (hz : ZI F) (h : Fin_ F) (h0 : F ≠ pz) : 0 < ld (pp F) := by
 rw [ld_pp hz h h0]
 have hl := ld_ne h h0
 have hc := cn_ne hz h h0
 have hc' : (0 : Rat) < (cn F : Rat) := by exact_mod_cast Nat.pos_of_ne_zero hc
 by_cases hn : ld F < 0
 ·have e : pcn F = -(cn F : Int) := by unfold pcn; rw [if_pos hn]
  rw [e]
  have e2 : ((-(cn F : Int) : Int) : Rat) = -(cn F : Rat) := by rw [Rat.intCast_neg]; rfl
  rw [e2]
  have : ld F / -(cn F : Rat) = (-ld F) / (cn F : Rat) := by grind
  rw [this, Rat.div_def]
  exact Rat.mul_pos (by grind) (Rat.inv_pos.2 hc')
 ·have e : pcn F = (cn F : Int) := by unfold pcn; rw [if_neg hn]
  rw [e]
  have e2 : (((cn F : Nat) : Int) : Rat) = (cn F : Rat) := rfl
  rw [e2, Rat.div_def]
  exact Rat.mul_pos (by grind) (Rat.inv_pos.2 hc')
theorem pp_pp {F : Nat → Rat} (hz : ZI F) (h : Fin_ F) : pp (pp F) = pp F := by
 by_cases h0 : F = pz
 ·rw [h0, pp_pz, pp_pz]
 ·have h1 : pcn (pp F) = 1 := by
   unfold pcn
   rw [if_neg (by have := pp_lead hz h h0; grind), cn_pp hz h h0]; rfl
  show psc (1 / ((pcn (pp F) : Int) : Rat)) (pp F) = pp F
  rw [h1]
  have : 1 / ((1 : Int) : Rat) = 1 := by decide +kernel
  rw [this, psc_one]
end Go.Hp
namespace Go.Hp
theorem first_of {P : Nat → Prop} (h : ∃ i, P i) : ∃ i, P i ∧ ∀ j, j < i → ¬ P j := least h
def Prm (p : Nat) : Prop := 1 < p ∧ ∀ k, k ∣ p → k = 1 ∨ k = p
theorem prm_of {d : Nat} (h : 1 < d) : ∃ p, Prm p ∧ p ∣ d := by
 obtain ⟨p, ⟨h1, h2⟩, h3⟩ := first_of (P := fun p => 1 < p ∧ p ∣ d) ⟨d, h, Nat.dvd_refl d⟩
 refine ⟨p, ⟨h1, fun k hk => ?_⟩, h2⟩
 have hkp := Nat.le_of_dvd (by omega) hk
 have hk0 : k ≠ 0 := fun e => by subst e; have := Nat.eq_zero_of_zero_dvd hk; omega
 by_cases e : k = p
 ·exact .inr e
 ·exact .inl (by
   by_cases e1 : 1 < k
   ·exact absurd ⟨e1, Nat.dvd_trans hk h2⟩ (h3 k (by omega))
   ·omega)
theorem Prm.mul {p : Nat} (h : Prm p) {a b : Int} (k : (p : Int) ∣ a * b) : (p : Int) ∣ a ∨ (p : Int) ∣ b := by
 rw [Int.ofNat_dvd_left, Int.natAbs_mul] at k
 rw [Int.ofNat_dvd_left, Int.ofNat_dvd_left]
 rcases h.2 _ (Nat.gcd_dvd_left p a.natAbs) with e | e
 ·exact .inr (Nat.Coprime.dvd_of_dvd_mul_left e k)
 ·exact .inl (by rw [← e]; exact Nat.gcd_dvd_right _ _)
/-- Multiples of p. -/
def Dz (p : Nat) (x : Rat) : Prop := ∃ z : Int, x = (p : Rat) * (z : Rat)
theorem Dz.add {p : Nat} {x y : Rat} (h : Dz p x) (k : Dz p y) : Dz p (x + y) := by
 obtain ⟨a, rfl⟩ := h; obtain ⟨b, rfl⟩ := k; exact ⟨a + b, by rw [Rat.intCast_add]; grind⟩
theorem Dz.sub {p : Nat} {x y : Rat} (h : Dz p x) (k : Dz p y) : Dz p (x - y) := by
 obtain ⟨a, rfl⟩ := h; obtain ⟨b, rfl⟩ := k; exact ⟨a - b, by rw [Rat.intCast_sub]; grind⟩
theorem Dz.zero (p : Nat) : Dz p 0 := ⟨0, by simp⟩
theorem Dz.mul {p : Nat} {x : Rat} (h : Dz p x) (y : Int) : Dz p (x * (y : Rat)) := by
 obtain ⟨a, rfl⟩ := h; exact ⟨a * y, by rw [Rat.intCast_mul]; grind⟩
theorem dz_int {p : Nat} {n : Int} : Dz p (n : Rat) ↔ (p : Int) ∣ n := by
 constructor
 ·rintro ⟨z, h⟩
  refine ⟨z, ?_⟩
  rw [show ((p : Nat) : Rat) = (((p : Nat) : Int) : Rat) from rfl, ← Rat.intCast_mul] at h
  exact int_cast_inj h
 ·rintro ⟨z, rfl⟩
  exact ⟨z, by rw [Rat.intCast_mul]; rfl⟩
theorem sm_dz {p n i : Nat} {f : Nat → Rat} (hi : i < n) (h : ∀ k, k < n → k ≠ i → Dz p (f k)) : Dz p (sm n f - f i) := by
 induction n with
 | zero => omega
 | succ n ih =>
  rw [sm_succ]
  by_cases e : i = n
  ·subst e
   rw [show sm i f + f i - f i = sm i f from by grind]
   clear ih hi
   have : ∀ m, m ≤ i → Dz p (sm m f) := fun m => by
    induction m with
    | zero => intro _; exact Dz.zero p
    | succ m ih => intro hm; rw [sm_succ]; exact (ih (by omega)).add (h m (by omega) (by omega))
   exact this i (Nat.le_refl _)
  ·have h1 := ih (by omega) fun k hk => h k (by omega)
   rw [show sm n f + f n - f i = (sm n f - f i) + f n from by grind]
   exact h1.add (h n (by omega) fun q => e q.symm)
theorem ZI.cv {F G : Nat → Rat} (h : ZI F) (k : ZI G) : ZI (cv F G) := fun i => by
 rw [cv_sm]
 have : ∀ n (f : Nat → Rat), (∀ j, ∃ z : Int, f j = (z : Rat)) → ∃ z : Int, sm n f = (z : Rat) := fun n f hf => by
  induction n with
  | zero => exact ⟨0, rfl⟩
  | succ n ih =>
   obtain ⟨a, ha⟩ := ih; obtain ⟨b, hb⟩ := hf n
   exact ⟨a + b, by rw [sm_succ, ha, hb, Rat.intCast_add]⟩
 refine this _ _ fun j => ?_
 obtain ⟨a, ha⟩ := h j; obtain ⟨b, hb⟩ := k (i - j)
 exact ⟨a * b, by rw [ha, hb, Rat.intCast_mul]⟩
theorem cn_dvd_all {F : Nat → Rat} (h : Fin_ F) {d : Nat} : d ∣ cn F ↔ ∀ i, (d : Int) ∣ (F i).num :=
 ⟨fun k i => Int.dvd_trans (Int.natCast_dvd_natCast.2 k) (cn_dvd h i), fun k => Int.natCast_dvd_natCast.1 (dvd_cn k)⟩
theorem gauss1 {F G : Nat → Rat} (zF : ZI F) (zG : ZI G) (fF : Fin_ F) (fG : Fin_ G) (hF : cn F = 1) (hG : cn G = 1) : cn (cv F G) = 1 := by
 have nF : F ≠ pz := fun e => by rw [e, cn_pz] at hF; omega
 have nG : G ≠ pz := fun e => by rw [e, cn_pz] at hG; omega
 have h0 : cn (cv F G) ≠ 0 := cn_ne (zF.cv zG) (fF.cv fG) fun e => by
  have := pl_cv fF fG nF nG; have a := pl_pos fF nF; have b := pl_pos fG nG
  rw [e, pl_pz] at this; omega
 by_cases h1 : cn (cv F G) = 1
 ·exact h1
 ·obtain ⟨p, hp, hd⟩ := prm_of (d := cn (cv F G)) (by omega)
  have hall := (cn_dvd_all (fF.cv fG)).1 hd
  have ex : ∀ {H : Nat → Rat}, Fin_ H → cn H = 1 → ∃ i, ¬ (p : Int) ∣ (H i).num := fun {H} fH hH => by
   by_cases k : ∃ i, ¬ (p : Int) ∣ (H i).num
   ·exact k
   ·have := (cn_dvd_all fH (d := p)).2 fun i => by
     by_cases q : (p : Int) ∣ (H i).num
     ·exact q
     ·exact absurd ⟨i, q⟩ k
    rw [hH] at this; have := Nat.le_of_dvd (by omega) this; have := hp.1; omega
  obtain ⟨i, hi, hi'⟩ := first_of (ex fF hF)
  obtain ⟨j, hj, hj'⟩ := first_of (ex fG hG)
  have hs := sm_dz (p := p) (n := i + j + 1) (i := i) (f := fun k => F k * G (i + j - k)) (by omega) fun k hk hne => by
   rcases Nat.lt_or_ge k i with a | a
   ·have : Dz p (F k) := by
     rw [zF.num k]; refine dz_int.2 ?_
     by_cases q : (p : Int) ∣ (F k).num
     ·exact q
     ·exact absurd q (hi' k a)
    show Dz p (F k * G (i + j - k))
    rw [zG.num (i + j - k)]; exact this.mul _
   ·have : Dz p (G (i + j - k)) := by
     rw [zG.num]; refine dz_int.2 ?_
     by_cases q : (p : Int) ∣ (G (i + j - k)).num
     ·exact q
     ·exact absurd q (hj' _ (by omega))
    show Dz p (F k * G (i + j - k))
    rw [Rat.mul_comm, zF.num k]; exact this.mul _
  rw [← cv_sm] at hs
  simp only [show i + j - i = j from by omega] at hs
  have ht : Dz p (cv F G (i + j)) := by rw [(zF.cv zG).num]; exact dz_int.2 (hall _)
  have hu := ht.sub hs
  rw [show cv F G (i + j) - (cv F G (i + j) - F i * G j) = F i * G j from by grind, zF.num i, zG.num j, ← Rat.intCast_mul] at hu
  rcases hp.mul (dz_int.1 hu) with q | q
  ·exact absurd q hi
  ·exact absurd q hj
theorem ct_psc (a : Int) {F : Nat → Rat} (z : ZI F) : ∀ n, ct n (psc (a : Rat) F) = a.natAbs * ct n F
 | 0 => by show 0 = _ * 0; omega
 | n + 1 => by
  rw [ct_succ, ct_succ, ct_psc a z n]
  have : (psc (a : Rat) F n).num = a * (F n).num := by show ((a : Rat) * F n).num = _; rw [z.num n, num_mul]; rfl
  rw [this]
  show Nat.gcd _ _ = _ * Nat.gcd _ _
  rw [Int.natAbs_mul, Int.natAbs_natCast, Int.natAbs_natCast, Nat.gcd_mul_left]
theorem cn_psc {a : Int} (h : a ≠ 0) {F : Nat → Rat} (z : ZI F) (f : Fin_ F) : cn (psc (a : Rat) F) = a.natAbs * cn F := by
 unfold cn
 rw [pl_psc (fun e => h (by exact_mod_cast e)) f, ct_psc a z]
theorem gauss {F G : Nat → Rat} (zF : ZI F) (zG : ZI G) (fF : Fin_ F) (fG : Fin_ G) : cn (cv F G) = cn F * cn G := by
 by_cases hF : F = pz
 ·rw [hF, pz_cv, cn_pz]; omega
 by_cases hG : G = pz
 ·rw [hG, cv_pz, cn_pz]; omega
 have nF := pcn_ne zF fF hF
 have nG := pcn_ne zG fG hG
 have e : cv F G = psc ((pcn F * pcn G : Int) : Rat) (cv (pp F) (pp G)) := by
  have e1 := pp_eq zF fF hF
  have e2 := pp_eq zG fG hG
  have : cv F G = cv (psc (pcn F : Rat) (pp F)) (psc (pcn G : Rat) (pp G)) := by rw [← e1, ← e2]
  rw [this, psc_cv, cv_psc, psc_psc, Rat.intCast_mul]
 rw [e, cn_psc (Int.mul_ne_zero nF nG) ((pp_zi zF fF).cv (pp_zi zG fG)) ((pp_fin fF).cv (pp_fin fG)), gauss1 (pp_zi zF fF) (pp_zi zG fG) (pp_fin fF) (pp_fin fG) (cn_pp zF fF hF) (cn_pp zG fG hG), Int.natAbs_mul, pcn_abs, pcn_abs]; omega
end Go.Hp
namespace Go.Hp
/-- The sign of an index. -/
def sg (i : Nat) : Rat := if i % 2 = 0 then 1 else -1
theorem sg_zero : sg 0 = 1 := rfl
theorem sg_succ (i : Nat) : sg (i + 1) = - sg i := by
 unfold sg
 rcases Nat.mod_two_eq_zero_or_one i with h | h
 ·rw [if_neg (by omega), if_pos h]
 ·rw [if_pos (by omega), if_neg (by omega)]; rfl
theorem sg_add (i j : Nat) : sg (i + j) = sg i * sg j := by
 induction j with
 | zero => rw [Nat.add_zero, sg_zero]; grind
 | succ j ih => rw [← Nat.add_assoc, sg_succ, sg_succ, ih]; grind
theorem sg_sq (i : Nat) : sg i * sg i = 1 := by
 induction i with
 | zero => rw [sg_zero]; grind
 | succ i ih => rw [sg_succ]; grind
/-- The indices without i. -/
def sk (i k : Nat) : Nat := if k < i then k else k + 1
theorem sk_ne (i k : Nat) : sk i k ≠ i := by unfold sk; split <;> omega
theorem sk_lt {i k n : Nat} (h : k < n) : sk i k < n + 1 := by unfold sk; split <;> omega
def minor (i : Nat) (A : Nat → Nat → Rat) : Nat → Nat → Rat := fun r c => A (sk i r) (c + 1)
def det : Nat → (Nat → Nat → Rat) → Rat
 | 0, _ => 1
 | n + 1, A => sm (n + 1) fun i => sg i * A i 0 * det n (minor i A)
theorem det_succ (n : Nat) (A : Nat → Nat → Rat) : det (n + 1) A = sm (n + 1) fun i => sg i * A i 0 * det n (minor i A) := by rw [det]
theorem det_congr : ∀ {n : Nat} {A B : Nat → Nat → Rat}, (∀ i j, i < n → j < n → A i j = B i j) → det n A = det n B
 | 0, _, _, _ => rfl
 | n + 1, A, B, h => by
  rw [det_succ, det_succ]
  refine sm_congr fun i hi => ?_
  rw [h i 0 hi (by omega), det_congr (n := n) (A := minor i A) (B := minor i B) fun r c hr hc => h _ _ (sk_lt hr) (by omega)]
/-- A with another row i. -/
def rw_ (A : Nat → Nat → Rat) (i : Nat) (v : Nat → Rat) : Nat → Nat → Rat := fun r c => if r = i then v c else A r c
theorem rw_self (A : Nat → Nat → Rat) (i : Nat) : rw_ A i (A i) = A := by
 funext r c; unfold rw_; split
 ·rename_i h; rw [h]
 ·rfl
theorem minor_rw_same (A : Nat → Nat → Rat) (i : Nat) (v : Nat → Rat) : minor i (rw_ A i v) = minor i A := by
 funext r c; unfold minor rw_; rw [if_neg (sk_ne i r)]
theorem minor_rw_other (A : Nat → Nat → Rat) {i k : Nat} (h : i ≠ k) (v : Nat → Rat) : minor k (rw_ A i v) = rw_ (minor k A) (if i < k then i else i - 1) (fun c => v (c + 1)) := by
 funext r c
 unfold minor rw_
 have : sk k r = i ↔ r = (if i < k then i else i - 1) := by unfold sk; split <;> split <;> omega
 by_cases e : sk k r = i
 ·rw [if_pos e, if_pos (this.1 e)]
 ·rw [if_neg e, if_neg (fun q => e (this.2 q))]
theorem det_lin : ∀ {n : Nat} (A : Nat → Nat → Rat) {i : Nat}, i < n → ∀ (a b : Rat) (u v : Nat → Rat), det n (rw_ A i fun c => a * u c + b * v c) = a * det n (rw_ A i u) + b * det n (rw_ A i v)
 | 0, _, _, h, _, _, _, _ => absurd h (by omega)
 | n + 1, A, i, h, a, b, u, v => by
  rw [det_succ, det_succ, det_succ, ← sm_mul, ← sm_mul, ← sm_add]
  refine sm_congr fun k hk => ?_
  by_cases e : i = k
  ·subst e
   rw [minor_rw_same, minor_rw_same, minor_rw_same]
   simp only [rw_, if_pos]
   grind
  ·rw [minor_rw_other A e, minor_rw_other A e, minor_rw_other A e]
   have := det_lin (n := n) (minor k A) (i := if i < k then i else i - 1) (by split <;> omega) a b (fun c => u (c + 1)) (fun c => v (c + 1))
   rw [this]
   simp only [rw_, if_neg (Ne.symm e)]
   grind
/-- A with the rows i and i + 1 exchanged. -/
def sw (i : Nat) (A : Nat → Nat → Rat) : Nat → Nat → Rat := fun r => A (if r = i then i + 1 else if r = i + 1 then i else r)
theorem sm_swap {f g : Nat → Rat} {i : Nat} (h1 : f i = - g (i + 1)) (h2 : f (i + 1) = - g i) : ∀ {n : Nat}, i + 1 < n → (∀ k, k < n → k ≠ i → k ≠ i + 1 → f k = - g k) → sm n f = - sm n g
 | 0, h, _ => absurd h (by omega)
 | n + 1, h, k => by
  by_cases e : i + 1 = n
  ·subst e
   have : sm i f = sm i (fun k => (-1) * g k) := sm_congr fun j hj => by rw [k j (by omega) (by omega) (by omega)]; grind
   rw [sm_succ, sm_succ, sm_succ, sm_succ, this, sm_mul, h1, h2]; grind
  ·rw [sm_succ, sm_succ, sm_swap h1 h2 (n := n) (by omega) fun j hj => k j (by omega), k n (by omega) (by omega) (by omega)]; grind
theorem det_sw : ∀ {n : Nat} (A : Nat → Nat → Rat) {i : Nat}, i + 1 < n → det n (sw i A) = - det n A
 | 0, _, _, h => absurd h (by omega)
 | n + 1, A, i, h => by
  rw [det_succ, det_succ]
  refine sm_swap (i := i) ?_ ?_ h fun k hk h1 h2 => ?_
  ·have : minor i (sw i A) = minor (i + 1) A := by
    funext r c; unfold minor sw sk
    refine congrArg (fun x => A x (c + 1)) ?_
    repeat' split
    all_goals omega
   rw [this, sg_succ]
   have : sw i A i 0 = A (i + 1) 0 := by unfold sw; rw [if_pos rfl]
   rw [this]; grind
  ·have : minor (i + 1) (sw i A) = minor i A := by
    funext r c; unfold minor sw sk
    refine congrArg (fun x => A x (c + 1)) ?_
    repeat' split
    all_goals omega
   rw [this, sg_succ]
   have : sw i A (i + 1) 0 = A i 0 := by unfold sw; rw [if_neg (by omega), if_pos rfl]
   rw [this]; grind
  ·have e : minor k (sw i A) = sw (if i < k then i else i - 1) (minor k A) := by
    funext r c; unfold minor sw sk
    refine congrArg (fun x => A x (c + 1)) ?_
    repeat' split
    all_goals omega
   rw [e, det_sw (n := n) (minor k A) (i := if i < k then i else i - 1) (by split <;> omega)]
   have : sw i A k 0 = A k 0 := by unfold sw; rw [if_neg h1, if_neg h2]
   rw [this]; grind
theorem det_same : ∀ (d : Nat) {n : Nat} (A : Nat → Nat → Rat) {i : Nat}, i + d + 1 < n → A i = A (i + d + 1) → det n A = 0
 | 0, n, A, i, h, e => by
  have : sw i A = A := by
   funext r; unfold sw
   by_cases a : r = i
   ·subst a; rw [if_pos rfl]; exact e.symm
   ·rw [if_neg a]
    by_cases b : r = i + 1
    ·subst b; rw [if_pos rfl]; exact e
    ·rw [if_neg b]
  have h2 := det_sw A (i := i) (by omega : i + 1 < n)
  rw [this] at h2; grind
 | d + 1, n, A, i, h, e => by
  have h2 := det_sw A (i := i + d + 1) (by omega : i + d + 1 + 1 < n)
  have h3 := det_same d (n := n) (sw (i + d + 1) A) (i := i) (by omega) (by
   unfold sw; rw [if_neg (by omega), if_neg (by omega), if_pos rfl]; exact e)
  grind
theorem det_equal {n i j : Nat} {A : Nat → Nat → Rat} (hi : i < n) (hj : j < n) (h : i ≠ j) (e : A i = A j) : det n A = 0 := by
 rcases Nat.lt_or_gt_of_ne h with h | h
 ·exact det_same (j - i - 1) A (i := i) (by omega) (by rw [show i + (j - i - 1) + 1 = j from by omega]; exact e)
 ·exact det_same (i - j - 1) A (i := j) (by omega) (by rw [show j + (i - j - 1) + 1 = i from by omega]; exact e.symm)
theorem det_add {n i j : Nat} (A : Nat → Nat → Rat) (hi : i < n) (hj : j < n) (h : i ≠ j) (t : Rat) : det n (rw_ A i fun c => A i c + t * A j c) = det n A := by
 have h1 := det_lin A hi 1 t (A i) (A j)
 rw [rw_self, det_equal (A := rw_ A i (A j)) hi hj h (by funext c; simp only [rw_, if_pos]; rw [if_neg (Ne.symm h)])] at h1
 rw [show (fun c => A i c + t * A j c) = fun c => 1 * A i c + t * A j c from by funext c; grind, h1]; grind
theorem rw_rw (A : Nat → Nat → Rat) (i : Nat) (u v : Nat → Rat) : rw_ (rw_ A i u) i v = rw_ A i v := by funext r c; unfold rw_; split <;> rfl
theorem det_adds {n i : Nat} (A : Nat → Nat → Rat) (hi : i < n) (t : Nat → Rat) (p : Nat → Nat) : ∀ k, (∀ j, j < k → p j < n ∧ p j ≠ i) → det n (rw_ A i fun c => A i c + sm k fun j => t j * A (p j) c) = det n A
 | 0, _ => by
  rw [show (fun c => A i c + sm 0 fun j => t j * A (p j) c) = A i from by funext c; rw [sm_zero]; grind, rw_self]
 | k + 1, h => by
  have h1 := det_adds A hi t p k fun j hj => h j (by omega)
  obtain ⟨h2, h3⟩ := h k (by omega)
  have h4 := det_add (rw_ A i fun c => A i c + sm k fun j => t j * A (p j) c) hi h2 (Ne.symm h3) (t k)
  rw [h1, rw_rw] at h4
  rw [← h4]
  congr 2; funext c
  simp only [rw_, if_pos, if_neg h3, sm_succ]; grind
/-- Multiples of rows outside P added to the rows in P. -/
theorem det_rows {n : Nat} (A : Nat → Nat → Rat) (P : Nat → Bool) (k : Nat → Nat) (t : Nat → Nat → Rat) (p : Nat → Nat → Nat) (h : ∀ i j, i < n → P i = true → j < k i → p i j < n ∧ P (p i j) = false) :
  det n (fun r c => if P r then A r c + sm (k r) (fun j => t r j * A (p r j) c) else A r c) = det n A := by
 have key : ∀ s, s ≤ n → det n (fun r c => if P r && decide (r < s) then A r c + sm (k r) (fun j => t r j * A (p r j) c) else A r c) = det n A := by
  intro s
  induction s with
  | zero => intro _; refine det_congr fun i j _ _ => ?_; rw [if_neg (by simp)]
  | succ s ih =>
   intro hs
   have h1 := ih (by omega)
   cases hP : P s with
   | false =>
    rw [← h1]
    refine det_congr fun i j _ _ => ?_
    by_cases e : i = s
    ·subst e; rw [if_neg (by simp [hP]), if_neg (by simp [hP])]
    ·have : decide (i < s + 1) = decide (i < s) := by simp; omega
     rw [this]
   | true =>
    obtain ⟨B, hB⟩ : ∃ B : Nat → Nat → Rat, B = fun r c => if P r && decide (r < s) then A r c + sm (k r) (fun j => t r j * A (p r j) c) else A r c := ⟨_, rfl⟩
    rw [← hB] at h1
    have hs0 : B s = A s := by funext c; rw [hB]; show (if _ then _ else _) = _; rw [if_neg (by simp)]
    have hp : ∀ j, j < k s → B (p s j) = A (p s j) := fun j hj => by
     obtain ⟨_, h3⟩ := h s j (by omega) hP hj
     funext c; rw [hB]; show (if _ then _ else _) = _; rw [if_neg (by simp [h3])]
    have h2 := det_adds B (i := s) (by omega : s < n) (t s) (p s) (k s) fun j hj => by
     obtain ⟨h2, h3⟩ := h s j (by omega) hP hj
     exact ⟨h2, fun e => by rw [e, hP] at h3; cases h3⟩
    rw [← h1, ← h2]
    refine det_congr fun i c _ _ => ?_
    unfold rw_
    by_cases e : i = s
    ·subst e
     rw [if_pos (by simp [hP]), if_pos rfl, hs0]
     congr 1
     exact sm_congr fun j hj => by rw [hp j hj]
    ·have : decide (i < s + 1) = decide (i < s) := by simp; omega
     rw [this, if_neg e, hB]
 rw [← key n (Nat.le_refl n)]
 refine det_congr fun i j hi _ => ?_
 rw [show decide (i < n) = true from by simpa using hi, Bool.and_true]
/-- The first s rows scaled. -/
theorem det_scale {n : Nat} (A : Nat → Nat → Rat) (a : Rat) : ∀ s, s ≤ n → det n (fun r c => if r < s then a * A r c else A r c) = a ^ s * det n A
 | 0, _ => by
  rw [show (fun r c => if r < 0 then a * A r c else A r c) = A from by funext r c; rw [if_neg (by omega)]]
  rw [Rat.pow_zero]; grind
 | s + 1, h => by
  obtain ⟨B, hB⟩ : ∃ B : Nat → Nat → Rat, B = fun r c => if r < s then a * A r c else A r c := ⟨_, rfl⟩
  have h1 := det_scale (n := n) A a s (by omega)
  rw [← hB] at h1
  have h2 := det_lin B (i := s) (by omega : s < n) a 0 (B s) (B s)
  rw [rw_self, h1] at h2
  rw [Rat.pow_succ]
  rw [show det n (fun r c => if r < s + 1 then a * A r c else A r c) = det n (rw_ B s fun c => a * B s c + 0 * B s c) from ?_, h2]
  ·grind
  ·refine det_congr fun i c _ _ => ?_
   unfold rw_
   by_cases e : i = s
   ·subst e; rw [if_pos (by omega), if_pos rfl, hB]; simp only; rw [if_neg (by omega)]; grind
   ·rw [if_neg e, hB]; simp only
    by_cases e2 : i < s
    ·rw [if_pos e2, if_pos (by omega)]
    ·rw [if_neg e2, if_neg (by omega)]
theorem sm_one {n k : Nat} {f : Nat → Rat} (hk : k < n) (h : ∀ i, i < n → i ≠ k → f i = 0) : sm n f = f k := by
 induction n with
 | zero => omega
 | succ n ih =>
  rw [sm_succ]
  by_cases e : k = n
  ·subst e
   have : sm k f = sm k (fun _ => 0) := sm_congr fun j hj => h j (by omega) (by omega)
   rw [this, sm_nil]; grind
  ·rw [ih (by omega) fun i hi => h i (by omega), h n (by omega) (fun q => e q.symm)]; grind
/-- Only one entry of the first column is not 0. -/
theorem det_col {n k : Nat} {A : Nat → Nat → Rat} (hk : k < n + 1) (h : ∀ i, i < n + 1 → i ≠ k → A i 0 = 0) : det (n + 1) A = sg k * A k 0 * det n (minor k A) := by
 rw [det_succ, sm_one (f := fun i => sg i * A i 0 * det n (minor i A)) hk fun i hi e => by rw [h i hi e]; grind]
end Go.Hp
namespace Go.Hp
/-- Sylvester's matrix with formal degrees. -/
def syl (m : Nat) (F : Nat → Rat) (n : Nat) (G : Nat → Rat) : Nat → Nat → Rat := fun r c => if r < n then (if c ≤ m + r then F (m + r - c) else 0) else (if c ≤ r then G (r - c) else 0)
def rsf (m : Nat) (F : Nat → Rat) (n : Nat) (G : Nat → Rat) : Rat := det (m + n) (syl m F n G)
theorem sk_0 (r : Nat) : sk 0 r = r + 1 := by unfold sk; rw [if_neg (by omega)]
/-- The first polynomial is shorter than its formal degree says. -/
theorem rsf_f0 {m n : Nat} {F G : Nat → Rat} (hF : Sup (m + 1) F) (hG : Sup (n + 1) G) : rsf (m + 1) F n G = sg n * G n * rsf m F n G := by
 unfold rsf
 rw [show m + 1 + n = m + n + 1 from by omega, det_col (k := n) (by omega)]
 ·congr 1
  ·congr 1
   show (if n < n then _ else _) = _
   rw [if_neg (by omega), if_pos (by omega)]; rfl
  ·refine det_congr fun r c hr hc => ?_
   unfold minor syl sk
   by_cases h : r < n
   ·rw [if_pos h, if_pos h, if_pos h]
    by_cases h2 : c ≤ m + r
    ·rw [if_pos h2, if_pos (by omega)]; congr 1; omega
    ·rw [if_neg h2, if_neg (by omega)]
   ·rw [if_neg h, if_neg (by omega), if_neg h]
    by_cases h2 : c ≤ r
    ·rw [if_pos h2, if_pos (by omega)]; congr 1; omega
    ·rw [if_neg h2, if_neg (by omega)]
 ·intro i hi hne
  unfold syl
  by_cases h : i < n
  ·rw [if_pos h, if_pos (by omega)]; exact hF _ (by omega)
  ·rw [if_neg h, if_pos (by omega)]; exact hG _ (by omega)
theorem rsf_g0 {m n : Nat} {F G : Nat → Rat} (hF : Sup (m + 1) F) (hG : m = 0 ∨ Sup (n + 1) G) : rsf m F (n + 1) G = F m * rsf m F n G := by
 unfold rsf
 rw [show m + (n + 1) = m + n + 1 from by omega, det_col (k := 0) (by omega)]
 ·rw [sg_zero, show syl m F (n + 1) G 0 0 = F m from by unfold syl; rw [if_pos (by omega), if_pos (by omega)]; rfl]
  rw [show (1 : Rat) * F m = F m from by grind]
  congr 1
  refine det_congr fun r c hr hc => ?_
  unfold minor
  rw [sk_0]
  unfold syl
  by_cases h : r < n
  ·rw [if_pos (by omega), if_pos h]
   by_cases h2 : c ≤ m + r
   ·rw [if_pos h2, if_pos (by omega)]; congr 1; omega
   ·rw [if_neg h2, if_neg (by omega)]
  ·rw [if_neg (by omega), if_neg h]
   by_cases h2 : c ≤ r
   ·rw [if_pos h2, if_pos (by omega)]; congr 1; omega
   ·rw [if_neg h2, if_neg (by omega)]
 ·intro i hi hne
  unfold syl
  by_cases h : i < n + 1
  ·rw [if_pos h, if_pos (by omega)]; exact hF _ (by omega)
  ·rw [if_neg h, if_pos (by omega)]
   rcases hG with rfl | hG
   ·omega
   ·exact hG _ (by omega)
theorem sm_tail {f : Nat → Rat} {a : Nat} (h : ∀ i, a ≤ i → f i = 0) : ∀ {b}, a ≤ b → sm b f = sm a f := by
 intro b hb
 obtain ⟨k, rfl⟩ : ∃ k, b = a + k := ⟨b - a, by omega⟩
 clear hb
 induction k with
 | zero => rfl
 | succ k ih => rw [← Nat.add_assoc, sm_succ, ih, h _ (by omega)]; grind
theorem cv_at {Q G : Nat → Rat} {k : Nat} (h : Sup k Q) (d : Nat) : cv Q G d = sm k fun j => Q j * if j ≤ d then G (d - j) else 0 := by
 obtain ⟨f, hf⟩ : ∃ f : Nat → Rat, f = fun j => Q j * if j ≤ d then G (d - j) else 0 := ⟨_, rfl⟩
 rw [← hf]
 have h1 : cv Q G d = sm (d + 1) f := by
  rw [cv_sm]
  refine sm_congr fun i hi => ?_
  rw [hf]; simp only; rw [if_pos (by omega)]
 have h2 : sm (max k (d + 1)) f = sm k f := sm_tail (fun i hi => by rw [hf]; simp only; rw [h i hi]; grind) (by omega)
 have h3 : sm (max k (d + 1)) f = sm (d + 1) f := sm_tail (fun i hi => by rw [hf]; simp only; rw [if_neg (by omega)]; grind) (by omega)
 rw [h1, ← h3, h2]
theorem rsf_red {m n : Nat} {F G Q : Nat → Rat} (h : n ≤ m) (hQ : Sup (m - n + 1) Q) : rsf m (pad F (cv Q G)) n G = rsf m F n G := by
 unfold rsf
 rw [← det_rows (syl m F n G) (fun r => decide (r < n)) (fun _ => m - n + 1) (fun _ j => Q j) (fun r j => m + r - j) fun i j hi hp hj => by
  simp only [decide_eq_true_eq] at hp
  exact ⟨by omega, by simp; omega⟩]
 refine det_congr fun r c hr hc => ?_
 by_cases h1 : r < n
 ·rw [if_pos (by simpa using h1)]
  unfold syl
  rw [if_pos h1, if_pos h1]
  by_cases h2 : c ≤ m + r
  ·rw [if_pos h2, if_pos h2]
   show F _ + cv Q G _ = _
   rw [cv_at hQ]
   congr 1
   refine sm_congr fun j hj => ?_
   rw [if_neg (show ¬ m + r - j < n by omega)]
   by_cases h3 : j ≤ m + r - c
   ·rw [if_pos h3, if_pos (by omega)]; congr 2; omega
   ·rw [if_neg h3, if_neg (by omega)]
  ·rw [if_neg h2, if_neg h2]
   have : sm (m - n + 1) (fun j => Q j * if m + r - j < n then (if c ≤ m + (m + r - j) then F (m + (m + r - j) - c) else 0) else if c ≤ m + r - j then G (m + r - j - c) else 0) = sm (m - n + 1) (fun _ => 0) := sm_congr fun j hj => by
    rw [if_neg (by omega), if_neg (by omega)]; grind
   rw [this, sm_nil]; grind
 ·rw [if_neg (by simpa using h1)]
  unfold syl
  rw [if_neg h1, if_neg h1]
theorem rsf_red' {m n : Nat} {F G Q : Nat → Rat} (h : m ≤ n) (hQ : Sup (n - m + 1) Q) : rsf m F n (pad G (cv Q F)) = rsf m F n G := by
 unfold rsf
 rw [← det_rows (syl m F n G) (fun r => decide (n ≤ r)) (fun _ => n - m + 1) (fun _ j => Q j) (fun r j => r - j - m) fun i j hi hp hj => by
  simp only [decide_eq_true_eq] at hp
  exact ⟨by omega, by simp; omega⟩]
 refine det_congr fun r c hr hc => ?_
 by_cases h1 : r < n
 ·rw [if_neg (by simp; omega)]
  unfold syl
  rw [if_pos h1, if_pos h1]
 ·rw [if_pos (by simp; omega)]
  unfold syl
  rw [if_neg h1, if_neg h1]
  by_cases h2 : c ≤ r
  ·rw [if_pos h2, if_pos h2]
   show G _ + cv Q F _ = _
   rw [cv_at hQ]
   congr 1
   refine sm_congr fun j hj => ?_
   rw [if_pos (show r - j - m < n by omega)]
   by_cases h3 : j ≤ r - c
   ·rw [if_pos h3, if_pos (by omega)]; congr 2; omega
   ·rw [if_neg h3, if_neg (by omega)]
  ·rw [if_neg h2, if_neg h2]
   have : sm (n - m + 1) (fun j => Q j * if r - j - m < n then (if c ≤ m + (r - j - m) then F (m + (r - j - m) - c) else 0) else if c ≤ r - j - m then G (r - j - m - c) else 0) = sm (n - m + 1) (fun _ => 0) := sm_congr fun j hj => by
    rw [if_pos (by omega), if_neg (by omega)]; grind
   rw [this, sm_nil]; grind
theorem rsf_fc {F : Nat → Rat} (hF : Sup 1 F) (G : Nat → Rat) : ∀ n, rsf 0 F n G = F 0 ^ n
 | 0 => by rw [Rat.pow_zero]; rfl
 | n + 1 => by rw [rsf_g0 hF (.inl rfl), rsf_fc hF G n, Rat.pow_succ]; grind
theorem rsf_gc (F : Nat → Rat) {G : Nat → Rat} (hG : Sup 1 G) : ∀ m, rsf m F 0 G = G 0 ^ m
 | 0 => by rw [Rat.pow_zero]; rfl
 | m + 1 => by
  have : rsf (m + 1) F 0 G = sg 0 * G 0 * rsf m F 0 G := by
   unfold rsf
   rw [show m + 1 + 0 = m + 0 + 1 from by omega, det_col (k := 0) (by omega)]
   ·rw [show syl (m + 1) F 0 G 0 0 = G 0 from by unfold syl; rw [if_neg (by omega), if_pos (by omega)]]
    congr 1
    refine det_congr fun r c hr hc => ?_
    unfold minor
    rw [sk_0]
    unfold syl
    rw [if_neg (show ¬ r + 1 < 0 by omega), if_neg (show ¬ r < 0 by omega)]
    by_cases h2 : c ≤ r
    ·rw [if_pos h2, if_pos (show c + 1 ≤ r + 1 by omega)]; congr 1; omega
    ·rw [if_neg h2, if_neg (show ¬ c + 1 ≤ r + 1 by omega)]
   ·intro i hi hne
    unfold syl
    rw [if_neg (by omega), if_pos (by omega)]; exact hG _ (by omega)
  rw [this, rsf_gc F hG m, Rat.pow_succ, sg_zero]; grind
theorem sg_mul_succ (m n : Nat) : sg ((m + 1) * n) = sg (m * n) * sg n := by rw [Nat.succ_mul, sg_add]
theorem red_top {m n : Nat} {F G : Nat → Rat} (h : n ≤ m) (hF : Sup (m + 1) F) (hG : Sup (n + 1) G) (h0 : G n ≠ 0) : ∃ Q, Sup (m - n + 1) Q ∧ Sup m (pad F (cv Q G)) := by
 refine ⟨mono (m - n) (-(F m / G n)), mono_sup _ _, fun i hi => ?_⟩
 rw [mono_cv]
 show F i + _ * sh (m - n) G i = 0
 rcases Nat.eq_or_lt_of_le hi with e | e
 ·subst e; unfold sh; rw [if_neg (by omega), show m - (m - n) = n from by omega]; grind
 ·unfold sh; rw [hF i (by omega), if_neg (by omega), hG (i - (m - n)) (by omega)]; grind
theorem rsf_symm : ∀ (s : Nat) {m n : Nat} {F G : Nat → Rat}, m + n ≤ s → Sup (m + 1) F → Sup (n + 1) G → rsf n G m F = sg (m * n) * rsf m F n G
 | s, 0, n, F, G, _, hF, _ => by rw [rsf_gc G hF, rsf_fc hF G, Nat.zero_mul, sg_zero]; grind
 | s, m + 1, 0, F, G, _, _, hG => by rw [rsf_fc hG F, rsf_gc F hG, Nat.mul_zero, sg_zero]; grind
 | 0, m + 1, n + 1, _, _, h, _, _ => absurd h (by omega)
 | s + 1, m + 1, n + 1, F, G, hs, hF, hG => by
  have hf : ∀ {F : Nat → Rat}, Sup (m + 1) F → rsf (n + 1) G (m + 1) F = sg ((m + 1) * (n + 1)) * rsf (m + 1) F (n + 1) G := fun {F} h => by
   rw [rsf_g0 hG (.inr h), rsf_f0 h hG, rsf_symm s (m := m) (n := n + 1) (by omega) h hG, sg_mul_succ]
   have := sg_sq (n + 1)
   grind
  have hg : ∀ {G : Nat → Rat}, Sup (n + 1) G → rsf (n + 1) G (m + 1) F = sg ((m + 1) * (n + 1)) * rsf (m + 1) F (n + 1) G := fun {G} h => by
   rw [rsf_f0 h hF, rsf_g0 hF (.inr h), rsf_symm s (m := m + 1) (n := n) (by omega) hF h, Nat.mul_comm (m + 1) (n + 1), sg_mul_succ n (m + 1), Nat.mul_comm n (m + 1)]
   have := sg_sq (m + 1)
   grind
  by_cases h1 : F (m + 1) = 0
  ·exact hf fun i hi => by
    rcases Nat.eq_or_lt_of_le hi with e | e
    ·rw [← e]; exact h1
    ·exact hF i (by omega)
  ·by_cases h2 : G (n + 1) = 0
   ·exact hg fun i hi => by
     rcases Nat.eq_or_lt_of_le hi with e | e
     ·rw [← e]; exact h2
     ·exact hG i (by omega)
   ·rcases Nat.le_total (n + 1) (m + 1) with h3 | h3
    ·obtain ⟨Q, hQ, hR⟩ := red_top h3 hF hG h2
     rw [← rsf_red h3 hQ, ← rsf_red' h3 hQ]
     exact hf hR
    ·obtain ⟨Q, hQ, hR⟩ := red_top h3 hG hF h1
     rw [← rsf_red h3 hQ, ← rsf_red' h3 hQ]
     exact hg hR
theorem rsf_sym {m n : Nat} {F G : Nat → Rat} (hF : Sup (m + 1) F) (hG : Sup (n + 1) G) : rsf n G m F = sg (m * n) * rsf m F n G := rsf_symm (m + n) (Nat.le_refl _) hF hG
theorem rsf_down {r n : Nat} {R G : Nat → Rat} (hR : Sup (r + 1) R) (hG : Sup (n + 1) G) : ∀ k, rsf (r + k) R n G = sg (n * k) * G n ^ k * rsf r R n G
 | 0 => by rw [Nat.mul_zero, sg_zero, Rat.pow_zero]; show rsf r R n G = _; grind
 | k + 1 => by
  rw [← Nat.add_assoc, rsf_f0 (hR.mono (by omega)) hG, rsf_down hR hG k, Nat.mul_succ, sg_add, Rat.pow_succ]; grind
/-- A round of Euclid. -/
theorem rsf_step {m n r : Nat} {F G Q R : Nat → Rat} (h : n ≤ m) (hr : r ≤ m) (hG : Sup (n + 1) G) (hQ : Sup (m - n + 1) Q) (hR : Sup (r + 1) R) (e : F = pad (cv Q G) R) : rsf m F n G = sg (m * n) * G n ^ (m - r) * rsf n G r R := by
 rw [show F = pad R (cv Q G) from by rw [e]; funext i; simp only [pad]; grind, rsf_red h hQ]
 have h1 := rsf_down hR hG (m - r)
 rw [show r + (m - r) = m from by omega] at h1
 rw [h1, rsf_sym hR hG, show m * n = n * (m - r) + r * n from by rw [Nat.mul_sub, Nat.mul_comm n m, Nat.mul_comm n r]; have := Nat.mul_le_mul_right n hr; omega, sg_add]
 have := sg_sq (r * n)
 grind
theorem rsf_pz {m n : Nat} (G : Nat → Rat) (h : 0 < n) : rsf m pz n G = 0 := by
 unfold rsf
 have h1 := det_lin (n := m + n) (syl m pz n G) (i := 0) (by omega) 0 0 (syl m pz n G 0) (syl m pz n G 0)
 rw [show rw_ (syl m pz n G) 0 (fun c => 0 * syl m pz n G 0 c + 0 * syl m pz n G 0 c) = syl m pz n G from ?_] at h1
 ·rw [h1]; grind
 ·funext r c
  unfold rw_
  by_cases e : r = 0
  ·subst e; rw [if_pos rfl]; unfold syl; rw [if_pos h]
   have : (if c ≤ m + 0 then pz (m + 0 - c) else 0) = 0 := by split <;> rfl
   rw [this]; grind
  ·rw [if_neg e]
theorem rsf_psc {m n : Nat} (a : Rat) (F G : Nat → Rat) : rsf m (psc a F) n G = a ^ n * rsf m F n G := by
 unfold rsf
 rw [← det_scale (syl m F n G) a n (by omega)]
 refine det_congr fun r c _ _ => ?_
 unfold syl
 by_cases h : r < n
 ·rw [if_pos h, if_pos h, if_pos h]
  split
  ·rfl
  ·grind
 ·rw [if_neg h, if_neg h, if_neg h]
theorem rsf_psc' {m n : Nat} (a : Rat) {F G : Nat → Rat} (hF : Sup (m + 1) F) (hG : Sup (n + 1) G) : rsf m F n (psc a G) = a ^ m * rsf m F n G := by
 have h1 := rsf_sym (hG.psc a) hF
 have h2 := rsf_sym hG hF
 rw [h1, h2, rsf_psc]; grind
/-- The resultant. -/
noncomputable def res (F G : Nat → Rat) : Rat := if pl F = 0 ∨ pl G = 0 then 0 else rsf (pl F - 1) F (pl G - 1) G
/-- Integers. -/
theorem sm_int {f : Nat → Rat} : ∀ {n : Nat}, (∀ i, i < n → ∃ z : Int, f i = (z : Rat)) → ∃ z : Int, sm n f = (z : Rat)
 | 0, _ => ⟨0, rfl⟩
 | n + 1, h => by
  obtain ⟨a, ha⟩ := sm_int (n := n) fun i hi => h i (by omega)
  obtain ⟨b, hb⟩ := h n (by omega)
  exact ⟨a + b, by rw [sm_succ, ha, hb, Rat.intCast_add]⟩
theorem sg_int (i : Nat) : ∃ z : Int, sg i = (z : Rat) := by
 unfold sg; split
 ·exact ⟨1, rfl⟩
 ·exact ⟨-1, rfl⟩
theorem det_int : ∀ {n : Nat} {A : Nat → Nat → Rat}, (∀ i j, ∃ z : Int, A i j = (z : Rat)) → ∃ z : Int, det n A = (z : Rat)
 | 0, _, _ => ⟨1, rfl⟩
 | n + 1, A, h => by
  rw [det_succ]
  refine sm_int fun i hi => ?_
  obtain ⟨a, ha⟩ := sg_int i
  obtain ⟨b, hb⟩ := h i 0
  obtain ⟨c, hc⟩ := det_int (n := n) (A := minor i A) fun r c => h _ _
  exact ⟨a * b * c, by rw [ha, hb, hc, Rat.intCast_mul, Rat.intCast_mul]⟩
theorem res_int {F G : Nat → Rat} (hF : ∀ i, ∃ z : Int, F i = (z : Rat)) (hG : ∀ i, ∃ z : Int, G i = (z : Rat)) : ∃ z : Int, res F G = (z : Rat) := by
 unfold res
 split
 ·exact ⟨0, rfl⟩
 ·refine det_int fun i j => ?_
  unfold syl
  split
  ·split
   ·exact hF _
   ·exact ⟨0, rfl⟩
  ·split
   ·exact hG _
   ·exact ⟨0, rfl⟩
end Go.Hp
namespace Go.Hp
theorem res_eq {F G : Nat → Rat} (hF : Fin_ F) (hG : Fin_ G) (h : F ≠ pz) (k : G ≠ pz) : res F G = rsf (pl F - 1) F (pl G - 1) G := by
 have := pl_pos hF h; have := pl_pos hG k
 unfold res; rw [if_neg (by omega)]
theorem sup_top {F : Nat → Rat} (h : Fin_ F) : Sup (pl F - 1 + 1) F := (pl_sup h).mono (by omega)
theorem qsz_nm (q : Rat) : sz q.num.natAbs ≤ qsz q := by unfold qsz; omega
theorem pow_int (a : Int) : ∀ n : Nat, ((a : Rat)) ^ n = ((a ^ n : Int) : Rat)
 | 0 => by rw [Rat.pow_zero, Int.pow_zero]; rfl
 | n + 1 => by rw [Rat.pow_succ, pow_int a n, Int.pow_succ, Rat.intCast_mul]
theorem pow_ne {a : Rat} (h : a ≠ 0) : ∀ n : Nat, a ^ n ≠ 0
 | 0 => by rw [Rat.pow_zero]; decide
 | n + 1 => by
  rw [Rat.pow_succ]; intro e
  rcases Rat.mul_eq_zero.1 e with e | e
  ·exact pow_ne h n e
  ·exact h e
theorem pow_mul_ (a : Rat) (m : Nat) : ∀ n : Nat, (a ^ m) ^ n = a ^ (m * n)
 | 0 => by rw [Rat.pow_zero, Nat.mul_zero, Rat.pow_zero]
 | n + 1 => by
  rw [Rat.pow_succ, pow_mul_ a m n, Nat.mul_succ]
  generalize m * n = k
  induction m with
  | zero => rw [Rat.pow_zero]; grind
  | succ m ih => rw [Rat.pow_succ, ← Nat.add_assoc, Rat.pow_succ, ← ih]; grind
theorem sz_powz (x : Int) (s : Nat) (h : sz x.natAbs ≤ s) : ∀ n : Nat, sz (x ^ n).natAbs ≤ 1 + n * s
  | 0 => by rw [Int.pow_zero]; have : sz (1 : Int).natAbs ≤ 1 := by decide
            omega
  | n + 1 => by
    rw [Int.pow_succ, Int.natAbs_mul, Nat.succ_mul]
    have h1 := sz_mul (x ^ n).natAbs x.natAbs; have h2 := sz_powz x s h n
    omega
theorem sz_powz' (x : Int) (s : Nat) (h : sz x.natAbs ≤ s) {n : Nat} (hn : 0 < n) : sz (x ^ n).natAbs ≤ n * s := by
 obtain ⟨n, rfl⟩ : ∃ k, n = k + 1 := ⟨n - 1, by omega⟩
 clear hn
 induction n with
 | zero => rw [Int.pow_succ, Int.pow_zero, Int.one_mul]; omega
 | succ n ih =>
  rw [Int.pow_succ, Int.natAbs_mul, Nat.succ_mul]
  have h1 := sz_mul (x ^ (n + 1)).natAbs x.natAbs
  omega
/-- A round: what it does to the resultant. -/
theorem res_round {F G : Nat → Rat} (hF : Fin_ F) (hG : Fin_ G) (hf : F ≠ pz) (hg : G ≠ pz) (h : pl G ≤ pl F) (hzF : ZI F) (hzG : ZI G) {R : Nat → Rat} (hR : R = psR F G (pl F + 1 - pl G)) (h0 : R ≠ pz) :
  res F G * ld G ^ ((pl F + 1 - pl G) * (pl G - 1)) = sg ((pl F - 1) * (pl G - 1)) * ((pcn R : Int) : Rat) ^ (pl G - 1) * ld G ^ (pl F - 1 - (pl R - 1)) * res G (pp R) := by
 have hp := pl_pos hG hg
 have hRz : ZI R := hR ▸ psR_zi hzF hzG _
 have hRs : Sup (pl G - 1) R := by
  rw [hR]; exact (psR_sup hF hG hg _ (Nat.le_refl _)).mono (by omega)
 have hRf : Fin_ R := ⟨_, hRs⟩
 have hrl := pl_le hRs
 have hrp := pl_pos hRf h0
 have hP := pp_ne hRz hRf h0
 have hPf := pp_fin hRf
 have hPl := pp_pl hRz hRf
 rw [res_eq hF hG hf hg, res_eq hG hPf hg hP, hPl, ← pow_mul_, Rat.mul_comm, ← rsf_psc]
 have e := psQR_eq (F := F) (G := G) (pl F + 1 - pl G)
 rw [← hR] at e
 rw [rsf_step (r := pl R - 1) (by omega) (by omega) (sup_top hG) ((psQ_sup h _ (Nat.le_refl _)).1.mono (by omega)) (sup_top hRf) e]
 have e2 : rsf (pl G - 1) G (pl R - 1) R = ((pcn R : Int) : Rat) ^ (pl G - 1) * rsf (pl G - 1) G (pl R - 1) (pp R) := by
  have := rsf_psc' ((pcn R : Int) : Rat) (m := pl G - 1) (n := pl R - 1) (sup_top hG) (G := pp R) (by have := sup_top hPf; rw [hPl] at this; exact this)
  rw [← pp_eq hRz hRf h0] at this
  exact this
 rw [e2]
 show _ * G (pl G - 1) ^ _ * _ = _ * _ * G (pl G - 1) ^ _ * _
 grind
theorem res_swap {F G : Nat → Rat} (hF : Fin_ F) (hG : Fin_ G) (hf : F ≠ pz) (hg : G ≠ pz) : res F G = sg ((pl F - 1) * (pl G - 1)) * res G F := by
 rw [res_eq hF hG hf hg, res_eq hG hF hg hf, rsf_sym (sup_top hF) (sup_top hG)]
 have := sg_sq ((pl F - 1) * (pl G - 1))
 grind
theorem res_zero {F G : Nat → Rat} (hF : Fin_ F) (hG : Fin_ G) (hf : F ≠ pz) (h : pl G ≤ pl F) (h1 : 1 < pl G) (hR : psR F G (pl F + 1 - pl G) = pz) : res F G = 0 := by
 have hg : G ≠ pz := fun e => by rw [e, pl_pz] at h1; omega
 have e := psQR_eq (F := F) (G := G) (pl F + 1 - pl G)
 rw [hR] at e
 have e2 : psc (ld G ^ (pl F + 1 - pl G)) F = pad pz (cv (psQ F G (pl F + 1 - pl G)) G) := by rw [e]; funext i; simp only [pad, pz]; grind
 have h3 := rsf_psc (m := pl F - 1) (n := pl G - 1) (ld G ^ (pl F + 1 - pl G)) F G
 rw [e2, rsf_red (by omega) ((psQ_sup h _ (Nat.le_refl _)).1.mono (by omega)), rsf_pz G (by omega)] at h3
 rw [res_eq hF hG hf hg]
 rcases Rat.mul_eq_zero.1 h3.symm with h4 | h4
 ·exact absurd h4 (pow_ne (pow_ne (ld_ne hG hg) _) _)
 ·exact h4
theorem res_const {F G : Nat → Rat} (hF : Fin_ F) (hG : Fin_ G) (hf : F ≠ pz) (h : pl G = 1) : res F G = G 0 ^ (pl F - 1) := by
 have hg : G ≠ pz := fun e => by rw [e, pl_pz] at h; omega
 rw [res_eq hF hG hf hg, h]
 exact rsf_gc F (h ▸ pl_sup hG) _
/-- The state: what has been gone through stands in x over y. D bounds the lengths, S the digits. -/
structure RsSt (F0 G0 : Nat → Rat) (D S : Nat) (F G : Nat → Rat) (x y : Int) : Prop where
 fF : Fin_ F
 fG : Fin_ G
 nF : F ≠ pz
 nG : G ≠ pz
 zF : ZI F
 zG : ZI G
 eq : res F0 G0 * (y : Rat) = (x : Rat) * res F G
 ny : y ≠ 0
 len : pl F + pl G ≤ D
 qF : ∀ i, qsz (F i) + 1 ≤ (S + 1) * 2 ^ (D - (pl F + pl G))
 qG : ∀ i, qsz (G i) + 1 ≤ (S + 1) * 2 ^ (D - (pl F + pl G))
 sx : sz x.natAbs ≤ 1 + (D - (pl F + pl G)) * (D * ((S + 1) * 2 ^ D))
 sy : sz y.natAbs ≤ 1 + (D - (pl F + pl G)) * (D * ((S + 1) * 2 ^ D))
theorem RsSt.start {F G : Nat → Rat} {S : Nat} (hF : Fin_ F) (hG : Fin_ G) (hf : F ≠ pz) (hg : G ≠ pz) (zF : ZI F) (zG : ZI G) (qF : ∀ i, qsz (F i) ≤ S) (qG : ∀ i, qsz (G i) ≤ S) : RsSt F G (pl F + pl G) S F G 1 1 :=
  ⟨hF, hG, hf, hg, zF, zG, by grind, by decide, Nat.le_refl _, fun i => by have := qF i; rw [Nat.sub_self, Nat.pow_zero]; omega, fun i => by have := qG i; rw [Nat.sub_self, Nat.pow_zero]; omega,
    by have : sz (1 : Int).natAbs ≤ 1 := by decide
       omega, by have : sz (1 : Int).natAbs ≤ 1 := by decide
                 omega⟩
/-- A number with the sign of an index. -/
def sgz (k : Nat) (x : Int) : Int := if k % 2 = 1 then -x else x
theorem sgz_q (k : Nat) (x : Int) : ((sgz k x : Int) : Rat) = sg k * (x : Rat) := by
 unfold sgz sg
 rcases Nat.mod_two_eq_zero_or_one k with h | h
 ·rw [if_neg (by omega), if_pos h]; grind
 ·rw [if_pos h, if_neg (by omega), Rat.intCast_neg]; grind
theorem sgz_abs (k : Nat) (x : Int) : (sgz k x).natAbs = x.natAbs := by unfold sgz; split <;> simp
theorem RsSt.swap {F0 G0 F G : Nat → Rat} {D S : Nat} {x y : Int} (h : RsSt F0 G0 D S F G x y) : RsSt F0 G0 D S G F (sgz ((pl F - 1) * (pl G - 1)) x) y :=
 ⟨h.fG, h.fF, h.nG, h.nF, h.zG, h.zF, by rw [h.eq, res_swap h.fF h.fG h.nF h.nG, sgz_q]; grind, h.ny, by have := h.len; omega, by rw [Nat.add_comm (pl G)]; exact h.qG, by rw [Nat.add_comm (pl G)]; exact h.qF,
  by rw [sgz_abs, Nat.add_comm (pl G)]; exact h.sx, by rw [Nat.add_comm (pl G)]; exact h.sy⟩
theorem two_le_pow (d : Nat) : d + 1 ≤ 2 ^ d := by
 induction d with
 | zero => decide
 | succ d ih => rw [Nat.pow_succ]; omega
/-- The bounds of a round. -/
theorem RsSt.room {F0 G0 F G : Nat → Rat} {D S : Nat} {x y : Int} (h : RsSt F0 G0 D S F G x y) (hl : pl G ≤ pl F) {R : Nat → Rat} (hR : R = psR F G (pl F + 1 - pl G)) :
  (∀ i, qsz (F i) ≤ (S + 1) * 2 ^ D) ∧ (∀ i, qsz (G i) ≤ (S + 1) * 2 ^ D) ∧ (∀ i, qsz (R i) + 1 ≤ (S + 1) * 2 ^ (D - (pl F + pl G) + (pl F + 1 - pl G))) := by
 have up : ∀ a : Nat, a ≤ D → (S + 1) * 2 ^ a ≤ (S + 1) * 2 ^ D := fun a ha => Nat.mul_le_mul_left _ (Nat.pow_le_pow_right (by decide) ha)
 have h1 := up (D - (pl F + pl G)) (by omega)
 refine ⟨fun i => by have := h.qF i; omega, fun i => by have := h.qG i; omega, fun i => ?_⟩
 obtain ⟨M, hM⟩ : ∃ M, M = (S + 1) * 2 ^ (D - (pl F + pl G)) := ⟨_, rfl⟩
 have hp : 0 < M := by rw [hM]; exact Nat.mul_pos (by omega) (Nat.pow_pos (by decide))
 have h2 := psR_qsz (s := M - 1) (t := M - 1) h.zF h.zG (fun i => by have := h.qF i; omega) (fun i => by have := h.qG i; omega) (pl F + 1 - pl G) i
 rw [← hR] at h2
 rw [Nat.pow_add, ← Nat.mul_assoc, ← hM]
 have h3 := two_le_pow (pl F + 1 - pl G)
 have h4 : M * (pl F + 1 - pl G + 1) ≤ M * 2 ^ (pl F + 1 - pl G) := Nat.mul_le_mul_left _ h3
 rw [Nat.mul_succ, Nat.mul_comm M] at h4
 rw [show M - 1 + 1 = M from by omega] at h2
 omega
theorem RsSt.step {F0 G0 F G : Nat → Rat} {D S : Nat} {x y : Int} (h : RsSt F0 G0 D S F G x y) (h1 : 1 < pl G) (hl : pl G ≤ pl F) {R : Nat → Rat} (hR : R = psR F G (pl F + 1 - pl G)) (h0 : R ≠ pz) :
  RsSt F0 G0 D S G (pp R) (sgz ((pl F - 1) * (pl G - 1)) x * pcn R ^ (pl G - 1) * (ld G).num ^ (pl F - 1 - (pl R - 1))) (y * (ld G).num ^ ((pl F + 1 - pl G) * (pl G - 1))) := by
 have hRz : ZI R := hR ▸ psR_zi h.zF h.zG _
 have hRs : Sup (pl G - 1) R := by rw [hR]; exact (psR_sup h.fF h.fG h.nG _ (Nat.le_refl _)).mono (by omega)
 have hRf : Fin_ R := ⟨_, hRs⟩
 have hrl := pl_le hRs
 have hrp := pl_pos hRf h0
 have hPl := pp_pl hRz hRf
 have hld : ld G = ((ld G).num : Rat) := h.zG.num _
 have hldn : (ld G).num ≠ 0 := fun e => ld_ne h.fG h.nG (by rw [hld, e]; rfl)
 obtain ⟨b1, b2, b3⟩ := h.room hl hR
 have hlen := h.len
 obtain ⟨M, hM⟩ : ∃ M, M = (S + 1) * 2 ^ D := ⟨_, rfl⟩
 have hup : ∀ a : Nat, a ≤ D → (S + 1) * 2 ^ a ≤ M := fun a ha => by rw [hM]; exact Nat.mul_le_mul_left _ (Nat.pow_le_pow_right (by decide) ha)
 have hRq : ∀ i, qsz (R i) ≤ M := fun i => by
  have a := b3 i; have b := hup (D - (pl F + pl G) + (pl F + 1 - pl G)) (by omega); omega
 have hmono : ∀ a b : Nat, a ≤ b → (S + 1) * 2 ^ a ≤ (S + 1) * 2 ^ b := fun a b hab => Nat.mul_le_mul_left _ (Nat.pow_le_pow_right (by decide) hab)
 have hsld : sz (ld G).num.natAbs ≤ M := by
  have a := qsz_nm (G (pl G - 1)); have b := b2 (pl G - 1); show sz (G (pl G - 1)).num.natAbs ≤ M; omega
 have hspc : sz (pcn R).natAbs ≤ M := by rw [pcn_abs]; exact cn_sz hRq _
 obtain ⟨d, hd⟩ : ∃ d, d = pl F - pl R := ⟨_, rfl⟩
 have hD : D - (pl G + pl R) = D - (pl F + pl G) + d := by omega
 refine ⟨h.fG, pp_fin hRf, h.nG, pp_ne hRz hRf h0, h.zG, pp_zi hRz hRf, ?_, ?_, by rw [hPl]; omega, fun i => ?_, fun i => ?_, ?_, ?_⟩
 ·have e := res_round h.fF h.fG h.nF h.nG hl h.zF h.zG hR h0
  have e2 := h.eq
  rw [Rat.intCast_mul, Rat.intCast_mul, Rat.intCast_mul, ← pow_int, ← pow_int, ← pow_int, ← hld, sgz_q]
  grind
 ·exact Int.mul_ne_zero h.ny (Int.pow_ne_zero hldn)
 ·rw [hPl, hD]; exact Nat.le_trans (h.qG i) (hmono _ _ (by omega))
 ·have a := pp_qsz hRz hRf (s := (S + 1) * 2 ^ (D - (pl F + pl G) + (pl F + 1 - pl G)) - 1) (fun i => by have := b3 i; omega) i
  have b := hmono (D - (pl F + pl G) + (pl F + 1 - pl G)) (D - (pl F + pl G) + d) (by omega)
  have c := qsz_pos (pp R i)
  have p : 0 < (S + 1) * 2 ^ (D - (pl F + pl G) + (pl F + 1 - pl G)) := Nat.mul_pos (by omega) (Nat.pow_pos (by decide))
  rw [hPl, hD]; omega
 ·rw [hPl, hD, Nat.add_mul, ← hM, Int.natAbs_mul, Int.natAbs_mul, sgz_abs]
  have a1 := h.sx
  rw [← hM] at a1
  have a2 := sz_mul (x.natAbs * (pcn R ^ (pl G - 1)).natAbs) ((ld G).num ^ (pl F - 1 - (pl R - 1))).natAbs
  have a3 := sz_mul x.natAbs (pcn R ^ (pl G - 1)).natAbs
  have a4 := sz_powz' _ _ hspc (n := pl G - 1) (by omega)
  have a5 := sz_powz' _ _ hsld (n := pl F - 1 - (pl R - 1)) (by omega)
  rw [show pl F - 1 - (pl R - 1) = d from by omega] at a2 a5 ⊢
  have a6 : (pl G - 1) * M + d * M ≤ d * (D * M) := by
   have c1 : (pl G - 1 + d) * M ≤ (d * D) * M := Nat.mul_le_mul_right _ (by
    have c2 : d * (pl G) ≤ d * D := Nat.mul_le_mul_left _ (by omega)
    have c3 : 1 * (pl G - 1) ≤ d * (pl G - 1) := Nat.mul_le_mul_right _ (by omega)
    have c4 : d * (pl G) = d * (pl G - 1) + d := by rw [← Nat.mul_succ]; congr 1; omega
    omega)
   rw [Nat.add_mul, Nat.mul_assoc] at c1; exact c1
  omega
 ·rw [hPl, hD, Nat.add_mul, ← hM, Int.natAbs_mul]
  have a1 := h.sy
  rw [← hM] at a1
  have a2 := sz_mul y.natAbs ((ld G).num ^ ((pl F + 1 - pl G) * (pl G - 1))).natAbs
  have a4 := sz_powz' _ _ hsld (n := (pl F + 1 - pl G) * (pl G - 1)) (Nat.mul_pos (by omega) (by omega))
  have a6 : (pl F + 1 - pl G) * (pl G - 1) * M ≤ d * (D * M) := by
   rw [Nat.mul_assoc]
   exact Nat.mul_le_mul (by omega) (Nat.mul_le_mul_right _ (by omega))
  omega
theorem RsSt.end_ {F0 G0 F G : Nat → Rat} {D S : Nat} {x y : Int} (h : RsSt F0 G0 D S F G x y) (h1 : pl G = 1) (hz : ∃ z : Int, res F0 G0 = (z : Rat)) :
  y ∣ x * (G 0).num ^ (pl F - 1) ∧ x * (G 0).num ^ (pl F - 1) / y = (res F0 G0).num := by
 obtain ⟨z, hz⟩ := hz
 have e := h.eq
 rw [res_const h.fF h.fG h.nF h1, h.zG.num 0, pow_int, ← Rat.intCast_mul, hz, ← Rat.intCast_mul] at e
 have e2 := int_cast_inj e
 rw [← e2, hz]
 exact ⟨⟨z, Int.mul_comm _ _⟩, by rw [Int.mul_ediv_cancel _ h.ny]; rfl⟩
end Go.Hp
namespace Go.Hp
theorem take_of_trim {ds : List Nat} {m : Nat} (h : ds.take m = trim ds) (hm : m ≤ ds.length) : (trim ds).length = m := by rw [← h, List.length_take]; omega
end Go.Hp
namespace Go.Proofs.YtfacbpnegkjcgaaGreatDoor
open Go.RowKit Go.Hp
/-- Digits in a block from base on. -/
def DigO (base : Nat) (w : World) (v : Value) (ds : List Nat) : Prop := DigV w v ds ∧ (0 < ds.length → ∀ a n c, v = .slice (some a) n c → base ≤ a.block)
theorem DigO.of_own {w : World} {base e n : Nat} {v : Value} {ds : List Nat} (h : w.ownsRow base e 1 v n (ds.map fun d => Value.int .u32 (d : Nat))) (hd : ∀ d ∈ ds, d < 4294967296) : DigO base w v ds :=
 ⟨DigV.of_own h hd, fun _ a n c e => by
  obtain ⟨_, h | ⟨g, cap, cur, h1, h2, _⟩⟩ := h
  ·rw [h.1] at e; cases e
  ·rw [h1] at e; cases e; exact h2⟩
theorem append_nothing {P : Program} (w : World) (t ty e : TypeId) (i : TypeInfo) (ht : P.underlying t = some (.slice e)) (hi : P.info? e = some i) (g c : Nat) :
  (Builtin.append_ #[t, t] ty #[.slice (some ⟨g, 0, none⟩) 0 0, .slice none 0 c]).run P w = .ok (.slice (some ⟨g, 0, none⟩) 0 0) w := by
 simp [Builtin.append_, run_underlying ht, sizeOf, typeInfo, hi, Builtin.lenOf, run_firstCells_none, storeCells]
set_option maxHeartbeats 1000000 in
theorem trim_own (v : Value) (ds : List Nat) (w : World) (h : DigV w v ds) (hn : ds.length ≤ 8796093022208) : Calls Tryz.prog 74 #[v] w (Gives w fun r w' => DigO w.heap.size w' r (trim ds)) := by
 obtain ⟨A, c, rfl, hl, hc, hd, hA⟩ := h
 have HA := Lib.hid hA; have HD := Lib.hid hd; clear hA hd
 obtain ⟨i0, hi, hz0, hz1, hz2⟩ := info_parts info_u32
 have HI := Lib.hid (And.intro hi (And.intro hz0 (And.intro hz1 hz2))); clear hi hz0 hz1 hz2
 go_enter Tryz.func74, Tryz.ntmps74
 go_wp2
 go_loop [3] (fun v => ∃ m : Nat, m ≤ ds.length ∧ v = .int .i64 m ∧ ∀ j, m ≤ j → (h : j < ds.length) → ds[j] = 0) (fun v => (intOf v).toNat)
 case atStart => exact ⟨ds.length, Nat.le_refl _, rfl, fun j h1 h2 => by omega⟩
 case round =>
  obtain ⟨m, hm, rfl, hz⟩ := hrel
  have Hz := Lib.hid hz; clear hz
  by_cases hgo : ∃ h : 0 < m, ds[m - 1]'(by omega) = 0
  ·obtain ⟨h0, hd0⟩ := hgo
   obtain ⟨m, rfl⟩ : ∃ k, m = k + 1 := ⟨m - 1, by omega⟩
   obtain ⟨a, rfl, hcell⟩ := HA.out (by omega)
   have hcm := hcell m (by omega)
   have hb : (((ds[m]'(by omega) : Nat) : Int) == 0) = true := by simpa using hd0
   clear hcell
   have Hd0 := Lib.hid hd0; clear hd0
   go_wp2
   go_round
   case rel => exact ⟨m, by omega, by go_num, fun j h1 h2 => by
    rcases Nat.eq_or_lt_of_le h1 with e | e
    ·subst e; exact Hd0.out
    ·exact Hz.out j (by omega) h2⟩
   case measure => simp [intOf] <;> omega
  ·have ht := trim_take hm Hz.out (fun h hh e => hgo ⟨hh, e⟩)
   have hlen := take_of_trim ht hm
   have HT := Lib.hid (And.intro ht hlen); clear ht hlen
   have hcase : m = 0 ∨ ∃ k, m = k + 1 ∧ ∃ h : k < ds.length, ds[k] ≠ 0 := by
    rcases Nat.eq_zero_or_pos m with h | h
    ·exact .inl h
    ·exact .inr ⟨m - 1, by omega, by omega, fun e => hgo ⟨h, e⟩⟩
   clear hgo
   obtain ⟨news, hnw⟩ : ∃ news : List Value, news = (trim ds).map fun d => Value.int .u32 (d : Nat) := ⟨_, rfl⟩
   have fin : ∀ (v' : Value) (w' : World), w'.ownsRow w.heap.size 87 1 v' m news → DigO w.heap.size w' v' (trim ds) := by
    intro v' w' h
    rw [hnw] at h
    exact DigO.of_own h (trim_digs HD.out)
   have Hfin := Lib.hid fin; clear fin
   have hnews : ∀ a, A = some a → ∀ (j : Nat) (u : Value), news[j]? = some u → w.cell? (a.add j) = some u := by
    intro a ha j u hu
    rw [hnw, ← HT.out.1, List.getElem?_map] at hu
    rcases Nat.lt_or_ge j (ds.take m).length with h | h
    ·rw [List.getElem?_eq_getElem h] at hu
     have hj : j < ds.length := by have := List.length_take_le' m ds; omega
     obtain ⟨a', ha', hc⟩ := HA.out (by omega)
     rw [ha] at ha'; cases ha'
     rw [hc j hj]; simpa using hu
    ·rw [List.getElem?_eq_none h] at hu; cases hu
   have Hn := Lib.hid hnews; clear hnews
   have hone : news.length = m * 1 ∧ ∀ u ∈ news, u.oneCell' = true := by
    rw [hnw]
    refine ⟨by simp [HT.out.2], fun u hu => ?_⟩
    simp at hu; obtain ⟨d, _, rfl⟩ := hu; rfl
   have Ho := Lib.hid hone; clear hone hnw
   rcases hcase with h0 | ⟨k, h0, hk, hd0⟩
   ·obtain rfl : m = 0 := h0
    cases A with
    | none =>
     have hds : ds = [] := by
      rcases Nat.eq_zero_or_pos ds.length with h | h
      ·exact List.eq_nil_of_length_eq_zero h
      ·obtain ⟨a, ha, _⟩ := HA.out h; cases ha
     clear Hfin Hn HT HA Hz HD hl hm hn Ho
     subst hds
     have hap := fun W ty g c' => append_nothing (P := Tryz.prog) W 26 ty 87 i0 Tryz.underlying26 HI.out.1 g c'
     go_wp2
     go_ret
     exact Gives.mk ⟨⟨_, 0, rfl, Nat.le_refl _, by omega, Digs.nil, fun h => absurd h (by simp [trim_nil])⟩, fun h => absurd h (by simp [trim_nil])⟩ ((Ext.refl _).alloc _)
    | some a =>
     clear Hz hm
     go_wp2_with (at_builtin; refine wpList_append_own _ rfl _ _ 26 rfl w.heap.size 87 i0 (.int .u32 0) 1 4 Tryz.underlying26 HI.out.1 HI.out.2.1 HI.out.2.2.1 HI.out.2.2.2 rfl (by decide) _ _ _ rfl (World.ownsRow_made w #[] 0 (Nat.le_refl _) (by simp [maxLen]) rfl) a (0) c news rfl Ho.out.1 ?c1 ?c2 ?c3 ?c4 ?c5 ?_)
     case c1 => intro j u hu; exact ((Ext.refl w).alloc _).cell (Hn.out a rfl j u hu)
     case c2 => exact Ho.out.2
     try (case c3 => simp only [maxLen]; omega)
     try (case c4 => omega)
     try (case c5 => simp)
     intro v' w' hown hg _
     have Hown := Lib.hid hown; clear hown
     go_wp2
     go_ret
     refine Gives.mk (Hfin.out _ _ Hown.out) (((Ext.refl w).alloc _).grown hg ?_)
     intro k hk
     simp [Value.ownBlock] at hk
     omega
   ·obtain rfl : m = k + 1 := h0
    obtain ⟨a, rfl, hcell⟩ := HA.out (by omega)
    have hcm := hcell k (by omega)
    have hb : (((ds[k]'(by omega) : Nat) : Int) == 0) = false := by simpa using hd0
    clear hcell hd0 Hz
    go_wp2_with (at_builtin; refine wpList_append_own _ rfl _ _ 26 rfl w.heap.size 87 i0 (.int .u32 0) 1 4 Tryz.underlying26 HI.out.1 HI.out.2.1 HI.out.2.2.1 HI.out.2.2.2 rfl (by decide) _ _ _ rfl (World.ownsRow_made w #[] 0 (Nat.le_refl _) (by simp [maxLen]) rfl) a (k + 1) c news rfl Ho.out.1 ?d1 ?d2 ?d3 ?d4 ?d5 ?_)
    case d1 => intro j u hu; exact ((Ext.refl w).alloc _).cell (Hn.out a rfl j u hu)
    case d2 => exact Ho.out.2
    try (case d3 => simp only [maxLen]; omega)
    try (case d4 => omega)
    try (case d5 => simp)
    intro v' w' hown hg _
    have Hown := Lib.hid hown; clear hown
    go_wp2
    go_ret
    refine Gives.mk (Hfin.out _ _ Hown.out) (((Ext.refl w).alloc _).grown hg ?_)
    intro k hk
    simp [Value.ownBlock] at hk
    omega
theorem trim_ref (v : Value) (ds : List Nat) (w : World) (h : DigV w v ds) (hn : ds.length ≤ 8796093022208) : Calls Tryz.prog 74 #[v] w (Gives w fun r w' => DigV w' r (trim ds)) :=
 Gives.imp (trim_own v ds w h hn) fun _ _ h => h.1
end Go.Proofs.YtfacbpnegkjcgaaGreatDoor
namespace Go.Proofs.YtfacbpnegkjcgaaGreatDoor
open Go.RowKit Go.Hp
theorem trim_num (v : Value) (N l : Nat) (w : World) (h : NumV w v N l) (hl : l ≤ 8796093022208) : Calls Tryz.prog 74 #[v] w (Gives w fun r w' => NatV w' r N) := by
 obtain ⟨ds, h1, rfl, h3⟩ := h
 exact Gives.imp (trim_ref v ds w h1 (by omega)) fun _ _ h => ⟨trim ds, h, trim_nv ds, trim_top ds⟩
set_option maxHeartbeats 1000000 in
theorem norm_r (v : Value) (x : Int) (w : World) (hv : HasZ w v x) : Calls Tryz.prog 71 #[v] w (Gives w fun r w' => IsZ w' r x) := by
 obtain ⟨neg, A, n, c, N, rfl, h1, h2, h3, hN, hx⟩ := hv.form
 have HN := Lib.hid hN; clear hN hv
 have Hx := Lib.hid hx; clear hx
 go_enter Tryz.func71, Tryz.ntmps71
 go_wp2_with fail
 refine Calls.mono (trim_num _ N n _ (HN.out.ext (((Ext.refl w).alloc _).alloc _)) (by omega)) ?_
 rintro e w1 ⟨r, rfl, hr, hx1⟩
 obtain ⟨A', c', rfl, q1, q2⟩ := hr.form
 have hc1 := hx1.cells
 have hf1 := hx1.frozens
 cases neg
 ·skip
  have hz := IsZ.mk (neg := false) hr (fun h => by cases h)
  have ez : (if false = true then -(N : Int) else (N : Int)) = x := (by rw [Hx.out])
  rw [ez] at hz
  have Hfin := Lib.hid (fin_z hz hx1.a2 (NoDig.at_ hx1 (g := w.heap.size + 1) (by simp) (by simp [isDig])) (by omega))
  clear hr hz ez
  go_wp2
  refine bodyPost_ret (v := .agg #[.bool false, .slice A' (sz N) c']) (by simp [results, Tryz.results71, go_sem, hc1]) rfl ?_
  exact Hfin.out
 ·by_cases h0 : N = 0
  ·have hb : decide (0 < sz N) = false := by subst h0; rfl
   have H0 := Lib.hid h0; clear h0
   have hz := IsZ.mk (neg := false) hr (fun h => by cases h)
   have ez : (if false = true then -(N : Int) else (N : Int)) = x := (by rw [Hx.out, H0.out]; simp)
   rw [ez] at hz
   have Hfin := Lib.hid (fin_z hz hx1.a2 (NoDig.at_ hx1 (g := w.heap.size + 1) (by simp) (by simp [isDig])) (by omega))
   clear hr hz ez
   go_wp2
   refine bodyPost_ret (v := .agg #[.bool false, .slice A' (sz N) c']) (by simp [results, Tryz.results71, go_sem, hc1]) rfl ?_
   exact Hfin.out
  ·have hb : decide (0 < sz N) = true := by have := sz_pos h0; simpa using this
   have H0 := Lib.hid h0; clear h0
   have hz := IsZ.mk (neg := true) hr (fun _ => H0.out)
   have ez : (if true = true then -(N : Int) else (N : Int)) = x := (by rw [Hx.out])
   rw [ez] at hz
   have Hfin := Lib.hid (fin_z hz hx1.a2 (NoDig.at_ hx1 (g := w.heap.size + 1) (by simp) (by simp [isDig])) (by omega))
   clear hr hz ez
   go_wp2
   refine bodyPost_ret (v := .agg #[.bool true, .slice A' (sz N) c']) (by simp [results, Tryz.results71, go_sem, hc1]) rfl ?_
   exact Hfin.out
theorem signed_r (x : Int) (neg : Bool) (v : Value) (N l : Nat) (w : World) (hx : x = if neg then -(N : Int) else N) (hv : NumV w v N l) (hl : l ≤ 1099511627776) : Calls Tryz.prog 75 #[.bool neg, v] w (Gives w fun r w' => IsZ w' r x) := by
 obtain ⟨ds, h1, hnv, h3⟩ := hv
 have hz : HasZ w (.agg #[.bool neg, v]) x := ⟨neg, ds, ⟨v, rfl, h1⟩, by unfold iv; rw [hnv, hx], by omega⟩
 have Hz := Lib.hid hz; clear hz
 obtain ⟨A, c, rfl, hl', hc, hA⟩ := h1
 clear hx hnv hA
 go_enter Tryz.func75, Tryz.ntmps75
 go_wp2_with fail
 refine Calls.mono (norm_r _ x _ (Hz.out.ext ((Ext.refl w).alloc _))) ?_
 rintro e w1 ⟨r, rfl, hr, hx1⟩
 obtain ⟨b5, A5, n5, c5, rfl⟩ := hr.cells
 have hc1 := hx1.cells
 have hf1 := hx1.frozens
 have Hfin := Lib.hid (fin_z hr hx1.a1 (NoDig.at_ hx1 (g := w.heap.size + 0) (by simp) (by simp [isDig])) (by omega))
 clear hr
 go_wp2
 refine bodyPost_ret (v := .agg #[.bool b5, .slice A5 n5 c5]) (by simp [results, Tryz.results75, go_sem, hc1]) rfl ?_
 exact Hfin.out
theorem sign_r (v : Value) (x : Int) (w : World) (hv : HasZ w v x) : Calls Tryz.prog 26 #[v] w (Gives w fun r _ => r = .int .i64 x.sign) := by
 have HV := Lib.hid hv
 obtain ⟨neg, A, n, c, N, rfl, h1, h2, h3, hN, hx⟩ := hv.form
 clear hN hv hx
 go_enter Tryz.func26, Tryz.ntmps26
 go_wp2_with fail
 refine Calls.mono (norm_r _ x _ (HV.out.ext ((Ext.refl w).alloc _))) ?_
 rintro e w1 ⟨r, rfl, hr, hx1⟩
 obtain ⟨A5, c5, rfl, q1, q2, hr2⟩ := hr.form
 clear hr hr2
 rcases Int.lt_trichotomy x 0 with h | h | h
 ·have hb : (((sz x.natAbs : Nat) : Int) == 0) = false := by have := sz_pos (n := x.natAbs) (by omega); simp; omega
  have hb2 : decide (x < 0) = true := by simpa using h
  have Hs := Lib.hid (Int.sign_eq_neg_one_of_neg h); clear h
  go_wp2
  go_ret
  exact Gives.mk (by rw [Hs.out]; rfl) (hx1.a1.alloc _)
 ·have hb : (((sz x.natAbs : Nat) : Int) == 0) = true := by subst h; rfl
  have Hs := Lib.hid (show x.sign = 0 by rw [h]; rfl); clear h
  go_wp2
  go_ret
  exact Gives.mk (by rw [Hs.out]; rfl) (hx1.a1.alloc _)
 ·have hb : (((sz x.natAbs : Nat) : Int) == 0) = false := by have := sz_pos (n := x.natAbs) (by omega); simp; omega
  have hb2 : decide (x < 0) = false := by simp; omega
  have Hs := Lib.hid (Int.sign_eq_one_of_pos h); clear h
  go_wp2
  go_ret
  exact Gives.mk (by rw [Hs.out]; rfl) (hx1.a1.alloc _)
theorem neg_r (v : Value) (x : Int) (w : World) (hv : HasZ w v x) : Calls Tryz.prog 66 #[v] w (Gives w fun r w' => IsZ w' r (-x)) := by
 obtain ⟨neg, A, n, c, N, rfl, h1, h2, h3, hN, hx⟩ := hv.form
 have HN := Lib.hid hN; clear hN hv
 have Hx := Lib.hid (show -x = if (!neg) = true then -(N : Int) else N by rw [hx]; cases neg <;> simp); clear hx
 go_enter Tryz.func66, Tryz.ntmps66
 go_wp2_with fail
 refine Calls.mono (signed_r (-x) (!neg) _ N n _ Hx.out (HN.out.ext (((Ext.refl w).alloc _).alloc _)) h3) ?_
 rintro e w1 ⟨r, rfl, hr, hx1⟩
 obtain ⟨b5, A5, n5, c5, rfl⟩ := hr.cells
 have hc1 := hx1.cells
 have hf1 := hx1.frozens
 have Hfin := Lib.hid (fin_z hr hx1.a2 (NoDig.at_ hx1 (g := w.heap.size + 1) (by simp) (by simp [isDig])) (by omega))
 clear hr
 go_wp2
 refine bodyPost_ret (v := .agg #[.bool b5, .slice A5 n5 c5]) (by simp [results, Tryz.results66, go_sem, hc1]) rfl ?_
 exact Hfin.out
theorem abs_r (v : Value) (x : Int) (w : World) (hv : HasZ w v x) : Calls Tryz.prog 109 #[v] w (Gives w fun r w' => IsZ w' r (x.natAbs : Nat)) := by
 obtain ⟨neg, A, n, c, N, rfl, h1, h2, h3, hN, hx⟩ := hv.form
 have HN := Lib.hid hN; clear hN hv
 have Hx := Lib.hid (show ((x.natAbs : Nat) : Int) = if false = true then -(N : Int) else N by rw [hx]; cases neg <;> simp); clear hx
 go_enter Tryz.func109, Tryz.ntmps109
 go_wp2_with fail
 refine Calls.mono (signed_r _ false _ N n _ Hx.out (HN.out.ext (((Ext.refl w).alloc _).alloc _)) h3) ?_
 rintro e w1 ⟨r, rfl, hr, hx1⟩
 obtain ⟨b5, A5, n5, c5, rfl⟩ := hr.cells
 have hc1 := hx1.cells
 have hf1 := hx1.frozens
 have Hfin := Lib.hid (fin_z hr hx1.a2 (NoDig.at_ hx1 (g := w.heap.size + 1) (by simp) (by simp [isDig])) (by omega))
 clear hr
 go_wp2
 refine bodyPost_ret (v := .agg #[.bool b5, .slice A5 n5 c5]) (by simp [results, Tryz.results109, go_sem, hc1]) rfl ?_
 exact Hfin.out
theorem of_r (x : Int) (w : World) (h1 : -9223372036854775808 ≤ x) (h2 : x < 9223372036854775808) : Calls Tryz.prog 63 #[.int .i64 x] w (Gives w fun r w' => IsZ w' r x) := by
 have key : ∀ (n g : Nat) (W : World) (t : TypeId) (a b : Int), a = (n % 4294967296 : Nat) → b = (n / 4294967296 : Nat) → g = W.heap.size → n < 18446744073709551616 → NumV (W.alloc (.cells #[.int .u32 a, .int .u32 b] t)) (.slice (some ⟨g, 0, none⟩) 2 2) n 2 := by
  intro n g W t a b ha hb hg hn
  subst ha hb hg
  have hb : DBlk (W.alloc (.cells #[.int .u32 (n % 4294967296 : Nat), .int .u32 (n / 4294967296 : Nat)] t)) W.heap.size t [n % 4294967296, n / 4294967296] := dblk_lit2 (heap_alloc_new W _)
  exact ⟨_, hb.digv (Digs.cons (by omega) (Digs.cons (by omega) Digs.nil)) (c := 2) (by simp) (by omega), by simp [nv_cons, nv_nil]; omega, by simp⟩
 have Hk := Lib.hid key; clear key
 go_enter Tryz.func63, Tryz.ntmps63
 by_cases hneg : x < 0
 ·have hb : decide (x < 0) = true := by simpa using hneg
  have hw := wrap_neg h1 hneg
  have Hw := Lib.hid hw; clear hw
  go_wp2_with fail
  refine Calls.mono (signed_r x true _ x.natAbs 2 _ (by rw [if_pos rfl]; omega) (Hk.out x.natAbs _ _ _ _ _ (by rw [Hw.out]; omega) (by rw [Hw.out]; omega) (by simp) (by omega)) (by omega)) ?_
  rintro e w1 ⟨r, rfl, hr, hx1⟩
  replace hx1 := hx1.a1
  obtain ⟨b5, A5, n5, c5, rfl⟩ := hr.cells
  have hc1 := hx1.cells
  have hf1 := hx1.frozens
  have Hfin := Lib.hid (fin_z hr hx1.a1 (NoDig.at_ hx1 (g := w.heap.size + 0) (by simp) (by simp [isDig])) (by omega))
  clear hr
  go_wp2
  refine bodyPost_ret (v := .agg #[.bool b5, .slice A5 n5 c5]) (by simp [results, Tryz.results63, go_sem, hc1]) rfl ?_
  exact Hfin.out
 ·have hb : decide (x < 0) = false := by simpa using hneg
  go_wp2_with fail
  refine Calls.mono (signed_r x false _ x.natAbs 2 _ (by rw [if_neg (by decide)]; omega) (Hk.out x.natAbs _ _ _ _ _ (by omega) (by omega) (by simp) (by omega)) (by omega)) ?_
  rintro e w1 ⟨r, rfl, hr, hx1⟩
  replace hx1 := hx1.a1
  obtain ⟨b5, A5, n5, c5, rfl⟩ := hr.cells
  have hc1 := hx1.cells
  have hf1 := hx1.frozens
  have Hfin := Lib.hid (fin_z hr hx1.a1 (NoDig.at_ hx1 (g := w.heap.size + 0) (by simp) (by simp [isDig])) (by omega))
  clear hr
  go_wp2
  refine bodyPost_ret (v := .agg #[.bool b5, .slice A5 n5 c5]) (by simp [results, Tryz.results63, go_sem, hc1]) rfl ?_
  exact Hfin.out
end Go.Proofs.YtfacbpnegkjcgaaGreatDoor
namespace Go.Hp
open Go.RowKit
/-- The form of a normal integer, with its digits. -/
theorem IsZ.digs {w : World} {v : Value} {x : Int} (h : IsZ w v x) : ∃ A c ds, v = .agg #[.bool (decide (x < 0)), .slice A (sz x.natAbs) c] ∧ DigAt w A ds ∧ ds.length = sz x.natAbs ∧ nv ds = x.natAbs ∧ Digs ds ∧ sz x.natAbs ≤ c ∧ c ≤ 9223372036854775807 := by
 obtain ⟨A, c, e, h1, h2, hN⟩ := h.form
 obtain ⟨ds, hD, hn, ht, hl⟩ := hN.len
 obtain ⟨A', c', he, q1, q2, q3⟩ := hD
 simp only [Value.slice.injEq] at he
 obtain ⟨rfl, _, _⟩ := he
 exact ⟨A, c, ds, e, q3, hl, hn, q3.1, h1, h2⟩
theorem same_abs {x y : Int} (h : x.natAbs = y.natAbs) (hs : decide (x < 0) = decide (y < 0)) : x = y := by
 by_cases hx : x < 0 <;> by_cases hy : y < 0 <;> simp [hx, hy] at hs <;> omega
theorem digs_eq {ds es : List Nat} (hl : ds.length = es.length) (h : ∀ j, j < ds.length → dg ds j = dg es j) : ds = es := by
 apply List.ext_getElem hl
 intro i h1 h2
 have := h i h1
 rwa [dg_lt h1, dg_lt h2] at this
end Go.Hp
namespace Go.Proofs.YtfacbpnegkjcgaaGreatDoor
open Go.RowKit Go.Hp
set_option maxHeartbeats 1000000 in
theorem same_r (v u : Value) (x y : Int) (w : World) (hv : IsZ w v x) (hu : IsZ w u y) : Calls Tryz.prog 94 #[v, u] w (Gives w fun r _ => r = .bool (decide (x = y))) := by
 obtain ⟨A, c, ds, rfl, hA, hl, hn, hd, hc, hm⟩ := hv.digs
 obtain ⟨E, d, es, rfl, hE, kl, kn, he, kc, km⟩ := hu.digs
 have HA := Lib.hid hA; have HE := Lib.hid hE
 have HL := Lib.hid (And.intro hl (And.intro hn (And.intro kl (And.intro kn (And.intro hd he)))))
 clear hA hE hl hn kl kn hd he hv hu
 obtain ⟨sx, hsx⟩ : ∃ sx, sx = decide (x < 0) := ⟨_, rfl⟩
 obtain ⟨sy, hsy⟩ : ∃ sy, sy = decide (y < 0) := ⟨_, rfl⟩
 rw [← hsx, ← hsy]
 have Hs := Lib.hid (And.intro hsx hsy); clear hsx hsy
 obtain ⟨bx, hbx⟩ : ∃ bx, bx = decide (x = y) := ⟨_, rfl⟩
 rw [← hbx]
 have Hb := Lib.hid hbx; clear hbx
 by_cases hs : sx = sy
 ·obtain rfl : sx = sy := hs
  by_cases hsz : sz x.natAbs = sz y.natAbs
  ·have Hz := Lib.hid hsz
   generalize hny : sz y.natAbs = ny at *
   subst hsz
   generalize hnx : sz x.natAbs = nx at *
   have Hnn := Lib.hid (And.intro hnx hny); clear hnx hny
   go_enter Tryz.func94, Tryz.ntmps94
   go_wp2
   go_loopw [5] (fun iv wr => ∃ k : Nat, k ≤ nx ∧ iv = .int .i64 k ∧ (∀ j, j < k → dg ds j = dg es j) ∧ Ext ((w.alloc (.cells #[.bool sx, .slice A nx c] 28)).alloc (.cells #[.bool sx, .slice E nx d] 28)) wr) (fun iv _ => nx - (intOf iv).toNat)
   case atStart => exact ⟨0, Nat.zero_le _, rfl, fun j h => by omega, Ext.refl _⟩
   case round =>
    obtain ⟨k, hk, rfl, heq, hx⟩ := hrel
    have Heq := Lib.hid heq; clear heq
    have ca0 := hx.a1.box (g := w.heap.size) (i := 0) rfl rfl
    have ca1 := hx.a1.box (g := w.heap.size) (i := 1) rfl rfl
    have cb0 := hx.box (g := w.heap.size + 1) (i := 0) (by simp) rfl
    have cb1 := hx.box (g := w.heap.size + 1) (i := 1) (by simp) rfl
    by_cases hkn : k < nx
    ·obtain ⟨a, rfl, q0⟩ := dig_at HA.out (k := k) (by have := HL.out.1; omega)
     obtain ⟨b, rfl, q1⟩ := dig_at HE.out (k := k) (by have := HL.out.2.2.1; omega)
     replace q0 := hx.a2.cell q0
     replace q1 := hx.a2.cell q1
     generalize hxx : dg ds k = p at *
     generalize hyy : dg es k = q at *
     have Hx := Lib.hid hxx; have Hy := Lib.hid hyy; clear hxx hyy
     by_cases hpq : p = q
     ·have hb3 : (((p : Nat) : Int) != (q : Nat)) = false := by simp [hpq]
      have Hpq := Lib.hid hpq; clear hpq
      go_wp2_with fail
      refine wp_region_par (k := 10) (D := [27, 28, 29, 30, 31, 32, 33, 34, 35, 36]) (T := [[], [0], [], [0, 1, 2], [0, 1, 2, 3], [], [5], [], [5, 6, 7], [5, 6, 7, 8], [0, 1, 2, 3, 4, 5, 6, 7, 8, 9]]) (EK := [2, 5, 3]) (EV := [?e1x0, ?e1x1, ?e1x2]) (VL := [(kv ?v1x0), (kv ?v1x1), (kv ?v1x2), (kv ?v1x3), (kv ?v1x4), (kv ?v1x5), (kv ?v1x6), (kv ?v1x7), (kv ?v1x8), (kv ?v1x9)]) (FL := fun γ w' => [True, True, True, True, True, True, True, True, True, True]) ?hE1 (by kernel_rfl) (by kernel_rfl) (by rfl) (by kernel_rfl) ?hloc1 ?hmono1 ?hstep1 ?htail1
      case hE1 => refine ⟨?_, ?_, ?_, trivial⟩ <;> (simp only [List.getElem?_toArray, List.getElem?_cons_succ, List.getElem?_cons_zero]; rfl)
      case hstep1 =>
       refine ⟨⟨⟨⟨⟨⟨⟨⟨⟨⟨trivial, ?_⟩, ?_⟩, ?_⟩, ?_⟩, ?_⟩, ?_⟩, ?_⟩, ?_⟩, ?_⟩, ?_⟩
       ·intro γ w' he hf; clear hf; refine ⟨trivial, ?_⟩; intro R hR
        have hc := he.cells
        go_simp
        (try go_ints); (try (rw [if_neg (by omega)])); (try (rw [if_pos (by omega)])); (try go_simp); (try go_ints)
        refine hR _ _ (Ext.refl _) ?_ trivial
        rfl
       ·intro γ w' he hf; clear hf; refine ⟨trivial, ?_⟩; intro R hR
        have hc := he.cells
        have cq0 := he.cell ca0
        have cq1 := he.cell ca1
        have cq2 := he.cell cb0
        have cq3 := he.cell cb1
        have cq4 := he.cell q0
        have cq5 := he.cell q1
        go_simp
        (try go_ints); (try (rw [if_neg (by omega)])); (try (rw [if_pos (by omega)])); (try go_simp); (try go_ints)
        refine hR _ _ (Ext.refl _) ?_ trivial
        rfl
       ·intro γ w' he hf; clear hf; refine ⟨trivial, ?_⟩; intro R hR
        have hc := he.cells
        go_simp
        (try go_ints); (try (rw [if_neg (by omega)])); (try (rw [if_pos (by omega)])); (try go_simp); (try go_ints)
        refine hR _ _ (Ext.refl _) ?_ trivial
        rfl
       ·intro γ w' he hf; clear hf; refine ⟨trivial, ?_⟩; intro R hR
        have hc := he.cells
        go_simp
        (try go_ints); (try (rw [if_neg (by omega)])); (try (rw [if_pos (by omega)])); (try go_simp); (try go_ints)
        refine hR _ _ (Ext.refl _) ?_ trivial
        rfl
       ·intro γ w' he hf; clear hf; refine ⟨trivial, ?_⟩; intro R hR
        have hc := he.cells
        have cq0 := he.cell ca0
        have cq1 := he.cell ca1
        have cq2 := he.cell cb0
        have cq3 := he.cell cb1
        have cq4 := he.cell q0
        have cq5 := he.cell q1
        go_simp
        (try go_ints); (try (rw [if_neg (by omega)])); (try (rw [if_pos (by omega)])); (try go_simp); (try go_ints)
        refine hR _ _ (Ext.refl _) ?_ trivial
        rfl
       ·intro γ w' he hf; clear hf; refine ⟨trivial, ?_⟩; intro R hR
        have hc := he.cells
        go_simp
        (try go_ints); (try (rw [if_neg (by omega)])); (try (rw [if_pos (by omega)])); (try go_simp); (try go_ints)
        refine hR _ _ (Ext.refl _) ?_ trivial
        rfl
       ·intro γ w' he hf; clear hf; refine ⟨trivial, ?_⟩; intro R hR
        have hc := he.cells
        have cq0 := he.cell ca0
        have cq1 := he.cell ca1
        have cq2 := he.cell cb0
        have cq3 := he.cell cb1
        have cq4 := he.cell q0
        have cq5 := he.cell q1
        go_simp
        (try go_ints); (try (rw [if_neg (by omega)])); (try (rw [if_pos (by omega)])); (try go_simp); (try go_ints)
        refine hR _ _ (Ext.refl _) ?_ trivial
        rfl
       ·intro γ w' he hf; clear hf; refine ⟨trivial, ?_⟩; intro R hR
        have hc := he.cells
        go_simp
        (try go_ints); (try (rw [if_neg (by omega)])); (try (rw [if_pos (by omega)])); (try go_simp); (try go_ints)
        refine hR _ _ (Ext.refl _) ?_ trivial
        rfl
       ·intro γ w' he hf; clear hf; refine ⟨trivial, ?_⟩; intro R hR
        have hc := he.cells
        go_simp
        (try go_ints); (try (rw [if_neg (by omega)])); (try (rw [if_pos (by omega)])); (try go_simp); (try go_ints)
        refine hR _ _ (Ext.refl _) ?_ trivial
        rfl
       ·intro γ w' he hf; clear hf; refine ⟨trivial, ?_⟩; intro R hR
        have hc := he.cells
        have cq0 := he.cell ca0
        have cq1 := he.cell ca1
        have cq2 := he.cell cb0
        have cq3 := he.cell cb1
        have cq4 := he.cell q0
        have cq5 := he.cell q1
        go_simp
        (try go_ints); (try (rw [if_neg (by omega)])); (try (rw [if_pos (by omega)])); (try go_simp); (try go_ints)
        refine hR _ _ (Ext.refl _) ?_ trivial
        rfl
      case hloc1 =>
       exact ⟨⟨⟨⟨⟨⟨⟨⟨⟨⟨trivial, (fun γ γ' h => ⟨rfl, fun _ => rfl⟩)⟩, (fun γ γ' h => ⟨rfl, fun _ => rfl⟩)⟩, (fun γ γ' h => ⟨rfl, fun _ => rfl⟩)⟩, (fun γ γ' h => ⟨rfl, fun _ => rfl⟩)⟩, (fun γ γ' h => ⟨rfl, fun _ => rfl⟩)⟩, (fun γ γ' h => ⟨rfl, fun _ => rfl⟩)⟩, (fun γ γ' h => ⟨rfl, fun _ => rfl⟩)⟩, (fun γ γ' h => ⟨rfl, fun _ => rfl⟩)⟩, (fun γ γ' h => ⟨rfl, fun _ => rfl⟩)⟩, (fun γ γ' h => ⟨rfl, fun _ => rfl⟩)⟩
      case hmono1 =>
       exact ⟨⟨⟨⟨⟨⟨⟨⟨⟨⟨trivial, (fun γ wA w' e h => h)⟩, (fun γ wA w' e h => h)⟩, (fun γ wA w' e h => h)⟩, (fun γ wA w' e h => h)⟩, (fun γ wA w' e h => h)⟩, (fun γ wA w' e h => h)⟩, (fun γ wA w' e h => h)⟩, (fun γ wA w' e h => h)⟩, (fun γ wA w' e h => h)⟩, (fun γ wA w' e h => h)⟩
      intro γ w1 hx1 hF
      clear hF
      simp only [fillAll, gV, kv, List.getD_cons_zero, List.getD_cons_succ, Act.put, List.setIfInBounds_toArray, List.set_cons_zero, List.set_cons_succ, List.toList_toArray, List.drop_succ_cons, List.drop_zero, List.drop_nil, Nat.zero_add, Nat.reduceAdd]
      clear γ
      go_wp2
      go_roundw
      case rel => exact ⟨k + 1, by omega, by go_num, fun j h => by
       rcases Nat.eq_or_lt_of_le (Nat.le_of_lt_succ h) with e | e
       ·rw [e, Hx.out, Hy.out]; exact Hpq.out
       ·exact Heq.out j e, hx.trans hx1⟩
      case measure => simp [intOf]; omega
     ·have hb3 : (((p : Nat) : Int) != (q : Nat)) = true := by simp; omega
      have Hpq := Lib.hid hpq; clear hpq
      go_wp2_with fail
      refine wp_region_par (k := 10) (D := [27, 28, 29, 30, 31, 32, 33, 34, 35, 36]) (T := [[], [0], [], [0, 1, 2], [0, 1, 2, 3], [], [5], [], [5, 6, 7], [5, 6, 7, 8], [0, 1, 2, 3, 4, 5, 6, 7, 8, 9]]) (EK := [2, 5, 3]) (EV := [?e2x0, ?e2x1, ?e2x2]) (VL := [(kv ?v2x0), (kv ?v2x1), (kv ?v2x2), (kv ?v2x3), (kv ?v2x4), (kv ?v2x5), (kv ?v2x6), (kv ?v2x7), (kv ?v2x8), (kv ?v2x9)]) (FL := fun γ w' => [True, True, True, True, True, True, True, True, True, True]) ?hE2 (by kernel_rfl) (by kernel_rfl) (by rfl) (by kernel_rfl) ?hloc2 ?hmono2 ?hstep2 ?htail2
      case hE2 => refine ⟨?_, ?_, ?_, trivial⟩ <;> (simp only [List.getElem?_toArray, List.getElem?_cons_succ, List.getElem?_cons_zero]; rfl)
      case hstep2 =>
       refine ⟨⟨⟨⟨⟨⟨⟨⟨⟨⟨trivial, ?_⟩, ?_⟩, ?_⟩, ?_⟩, ?_⟩, ?_⟩, ?_⟩, ?_⟩, ?_⟩, ?_⟩
       ·intro γ w' he hf; clear hf; refine ⟨trivial, ?_⟩; intro R hR
        have hc := he.cells
        go_simp
        (try go_ints); (try (rw [if_neg (by omega)])); (try (rw [if_pos (by omega)])); (try go_simp); (try go_ints)
        refine hR _ _ (Ext.refl _) ?_ trivial
        rfl
       ·intro γ w' he hf; clear hf; refine ⟨trivial, ?_⟩; intro R hR
        have hc := he.cells
        have cq0 := he.cell ca0
        have cq1 := he.cell ca1
        have cq2 := he.cell cb0
        have cq3 := he.cell cb1
        have cq4 := he.cell q0
        have cq5 := he.cell q1
        go_simp
        (try go_ints); (try (rw [if_neg (by omega)])); (try (rw [if_pos (by omega)])); (try go_simp); (try go_ints)
        refine hR _ _ (Ext.refl _) ?_ trivial
        rfl
       ·intro γ w' he hf; clear hf; refine ⟨trivial, ?_⟩; intro R hR
        have hc := he.cells
        go_simp
        (try go_ints); (try (rw [if_neg (by omega)])); (try (rw [if_pos (by omega)])); (try go_simp); (try go_ints)
        refine hR _ _ (Ext.refl _) ?_ trivial
        rfl
       ·intro γ w' he hf; clear hf; refine ⟨trivial, ?_⟩; intro R hR
        have hc := he.cells
        go_simp
        (try go_ints); (try (rw [if_neg (by omega)])); (try (rw [if_pos (by omega)])); (try go_simp); (try go_ints)
        refine hR _ _ (Ext.refl _) ?_ trivial
        rfl
       ·intro γ w' he hf; clear hf; refine ⟨trivial, ?_⟩; intro R hR
        have hc := he.cells
        have cq0 := he.cell ca0
        have cq1 := he.cell ca1
        have cq2 := he.cell cb0
        have cq3 := he.cell cb1
        have cq4 := he.cell q0
        have cq5 := he.cell q1
        go_simp
        (try go_ints); (try (rw [if_neg (by omega)])); (try (rw [if_pos (by omega)])); (try go_simp); (try go_ints)
        refine hR _ _ (Ext.refl _) ?_ trivial
        rfl
       ·intro γ w' he hf; clear hf; refine ⟨trivial, ?_⟩; intro R hR
        have hc := he.cells
        go_simp
        (try go_ints); (try (rw [if_neg (by omega)])); (try (rw [if_pos (by omega)])); (try go_simp); (try go_ints)
        refine hR _ _ (Ext.refl _) ?_ trivial
        rfl
       ·intro γ w' he hf; clear hf; refine ⟨trivial, ?_⟩; intro R hR
        have hc := he.cells
        have cq0 := he.cell ca0
        have cq1 := he.cell ca1
        have cq2 := he.cell cb0
        have cq3 := he.cell cb1
        have cq4 := he.cell q0
        have cq5 := he.cell q1
        go_simp
        (try go_ints); (try (rw [if_neg (by omega)])); (try (rw [if_pos (by omega)])); (try go_simp); (try go_ints)
        refine hR _ _ (Ext.refl _) ?_ trivial
        rfl
       ·intro γ w' he hf; clear hf; refine ⟨trivial, ?_⟩; intro R hR
        have hc := he.cells
        go_simp
        (try go_ints); (try (rw [if_neg (by omega)])); (try (rw [if_pos (by omega)])); (try go_simp); (try go_ints)
        refine hR _ _ (Ext.refl _) ?_ trivial
        rfl
       ·intro γ w' he hf; clear hf; refine ⟨trivial, ?_⟩; intro R hR
        have hc := he.cells
        go_simp
        (try go_ints); (try (rw [if_neg (by omega)])); (try (rw [if_pos (by omega)])); (try go_simp); (try go_ints)
        refine hR _ _ (Ext.refl _) ?_ trivial
        rfl
       ·intro γ w' he hf; clear hf; refine ⟨trivial, ?_⟩; intro R hR
        have hc := he.cells
        have cq0 := he.cell ca0
        have cq1 := he.cell ca1
        have cq2 := he.cell cb0
        have cq3 := he.cell cb1
        have cq4 := he.cell q0
        have cq5 := he.cell q1
        go_simp
        (try go_ints); (try (rw [if_neg (by omega)])); (try (rw [if_pos (by omega)])); (try go_simp); (try go_ints)
        refine hR _ _ (Ext.refl _) ?_ trivial
        rfl
      case hloc2 =>
       exact ⟨⟨⟨⟨⟨⟨⟨⟨⟨⟨trivial, (fun γ γ' h => ⟨rfl, fun _ => rfl⟩)⟩, (fun γ γ' h => ⟨rfl, fun _ => rfl⟩)⟩, (fun γ γ' h => ⟨rfl, fun _ => rfl⟩)⟩, (fun γ γ' h => ⟨rfl, fun _ => rfl⟩)⟩, (fun γ γ' h => ⟨rfl, fun _ => rfl⟩)⟩, (fun γ γ' h => ⟨rfl, fun _ => rfl⟩)⟩, (fun γ γ' h => ⟨rfl, fun _ => rfl⟩)⟩, (fun γ γ' h => ⟨rfl, fun _ => rfl⟩)⟩, (fun γ γ' h => ⟨rfl, fun _ => rfl⟩)⟩, (fun γ γ' h => ⟨rfl, fun _ => rfl⟩)⟩
      case hmono2 =>
       exact ⟨⟨⟨⟨⟨⟨⟨⟨⟨⟨trivial, (fun γ wA w' e h => h)⟩, (fun γ wA w' e h => h)⟩, (fun γ wA w' e h => h)⟩, (fun γ wA w' e h => h)⟩, (fun γ wA w' e h => h)⟩, (fun γ wA w' e h => h)⟩, (fun γ wA w' e h => h)⟩, (fun γ wA w' e h => h)⟩, (fun γ wA w' e h => h)⟩, (fun γ wA w' e h => h)⟩
      intro γ w1 hx1 hF
      clear hF
      simp only [fillAll, gV, kv, List.getD_cons_zero, List.getD_cons_succ, Act.put, List.setIfInBounds_toArray, List.set_cons_zero, List.set_cons_succ, List.toList_toArray, List.drop_succ_cons, List.drop_zero, List.drop_nil, Nat.zero_add, Nat.reduceAdd]
      clear γ
      go_wp2
      go_ret
      refine Gives.mk ?_ (hx.a2.trans hx1)
      rw [Hb.out]
      have : ¬ x = y := by
       rintro rfl
       have e : ds = es := digs_inj HL.out.2.2.2.2.1 HL.out.2.2.2.2.2 (by have := HL.out.1; have := HL.out.2.2.1; have := Hz.out; omega) (by rw [HL.out.2.1, HL.out.2.2.2.1])
       exact Hpq.out (by rw [← Hx.out, ← Hy.out, e])
      simp [this]
    ·obtain rfl : k = nx := by omega
     have hdone : x = y := by
      have e := digs_eq (ds := ds) (es := es) (by have := HL.out.1; have := HL.out.2.2.1; have := Hz.out; omega) (fun j hj => Heq.out j (by have := HL.out.1; omega))
      exact same_abs (by rw [← HL.out.2.1, ← HL.out.2.2.2.1, e]) (Hs.out.1 ▸ Hs.out.2)
     have Hd := Lib.hid hdone; clear hdone
     go_wp2
     go_ret
     exact Gives.mk (by rw [Hb.out, decide_eq_true Hd.out]; rfl) hx.a2
  ·have hb2 : (((sz x.natAbs : Nat) : Int) != (sz y.natAbs : Nat)) = true := by simp; omega
   have hne : bx = false := by rw [Hb.out]; simp; rintro rfl; exact hsz rfl
   subst hne
   clear hsz
   go_enter Tryz.func94, Tryz.ntmps94
   go_wp2
   go_ret
   exact Gives.mk rfl (((Ext.refl w).alloc _).alloc _)
 ·have hne : bx = false := by rw [Hb.out]; simp; rintro rfl; exact hs (Hs.out.1.trans Hs.out.2.symm)
  subst hne
  obtain rfl : sy = !sx := by cases sx <;> cases sy <;> simp_all
  clear hs
  cases sx
  all_goals
   go_enter Tryz.func94, Tryz.ntmps94
   go_wp2
   go_ret
   exact Gives.mk rfl (((Ext.refl w).alloc _).alloc _)
set_option maxHeartbeats 1000000 in
theorem sameint_b (v u : Value) (x y : Int) (w : World) (hv : IsZ w v x) (hu : IsZ w u y) : Calls Tryz.prog 15 #[v, u] w (Gives w fun r _ => r = .bool (decide (x = y))) := by
 obtain ⟨A, c, ds, rfl, hA, hl, hn, hd, hc, hm⟩ := hv.digs
 obtain ⟨E, d, es, rfl, hE, kl, kn, he, kc, km⟩ := hu.digs
 have HA := Lib.hid hA; have HE := Lib.hid hE
 have HL := Lib.hid (And.intro hl (And.intro hn (And.intro kl (And.intro kn (And.intro hd he)))))
 clear hA hE hl hn kl kn hd he hv hu
 obtain ⟨sx, hsx⟩ : ∃ sx, sx = decide (x < 0) := ⟨_, rfl⟩
 obtain ⟨sy, hsy⟩ : ∃ sy, sy = decide (y < 0) := ⟨_, rfl⟩
 rw [← hsx, ← hsy]
 have Hs := Lib.hid (And.intro hsx hsy); clear hsx hsy
 obtain ⟨bx, hbx⟩ : ∃ bx, bx = decide (x = y) := ⟨_, rfl⟩
 rw [← hbx]
 have Hb := Lib.hid hbx; clear hbx
 by_cases hs : sx = sy
 ·obtain rfl : sx = sy := hs
  by_cases hsz : sz x.natAbs = sz y.natAbs
  ·have Hz := Lib.hid hsz
   generalize hny : sz y.natAbs = ny at *
   subst hsz
   generalize hnx : sz x.natAbs = nx at *
   have Hnn := Lib.hid (And.intro hnx hny); clear hnx hny
   go_enter Tryz.func15, Tryz.ntmps15
   go_wp2
   go_loopw [5] (fun iv wr => ∃ k : Nat, k ≤ nx ∧ iv = .int .i64 k ∧ (∀ j, j < k → dg ds j = dg es j) ∧ Ext ((w.alloc (.cells #[.bool sx, .slice A nx c] 28)).alloc (.cells #[.bool sx, .slice E nx d] 28)) wr) (fun iv _ => nx - (intOf iv).toNat)
   case atStart => exact ⟨0, Nat.zero_le _, rfl, fun j h => by omega, Ext.refl _⟩
   case round =>
    obtain ⟨k, hk, rfl, heq, hx⟩ := hrel
    have Heq := Lib.hid heq; clear heq
    have ca0 := hx.a1.box (g := w.heap.size) (i := 0) rfl rfl
    have ca1 := hx.a1.box (g := w.heap.size) (i := 1) rfl rfl
    have cb0 := hx.box (g := w.heap.size + 1) (i := 0) (by simp) rfl
    have cb1 := hx.box (g := w.heap.size + 1) (i := 1) (by simp) rfl
    by_cases hkn : k < nx
    ·obtain ⟨a, rfl, q0⟩ := dig_at HA.out (k := k) (by have := HL.out.1; omega)
     obtain ⟨b, rfl, q1⟩ := dig_at HE.out (k := k) (by have := HL.out.2.2.1; omega)
     replace q0 := hx.a2.cell q0
     replace q1 := hx.a2.cell q1
     generalize hxx : dg ds k = p at *
     generalize hyy : dg es k = q at *
     have Hx := Lib.hid hxx; have Hy := Lib.hid hyy; clear hxx hyy
     by_cases hpq : p = q
     ·have hb3 : (((p : Nat) : Int) != (q : Nat)) = false := by simp [hpq]
      have Hpq := Lib.hid hpq; clear hpq
      go_wp2_with fail
      refine wp_region_par (k := 10) (D := [27, 28, 29, 30, 31, 32, 33, 34, 35, 36]) (T := [[], [0], [], [0, 1, 2], [0, 1, 2, 3], [], [5], [], [5, 6, 7], [5, 6, 7, 8], [0, 1, 2, 3, 4, 5, 6, 7, 8, 9]]) (EK := [2, 5, 3]) (EV := [?e3x0, ?e3x1, ?e3x2]) (VL := [(kv ?v3x0), (kv ?v3x1), (kv ?v3x2), (kv ?v3x3), (kv ?v3x4), (kv ?v3x5), (kv ?v3x6), (kv ?v3x7), (kv ?v3x8), (kv ?v3x9)]) (FL := fun γ w' => [True, True, True, True, True, True, True, True, True, True]) ?hE3 (by kernel_rfl) (by kernel_rfl) (by rfl) (by kernel_rfl) ?hloc3 ?hmono3 ?hstep3 ?htail3
      case hE3 => refine ⟨?_, ?_, ?_, trivial⟩ <;> (simp only [List.getElem?_toArray, List.getElem?_cons_succ, List.getElem?_cons_zero]; rfl)
      case hstep3 =>
       refine ⟨⟨⟨⟨⟨⟨⟨⟨⟨⟨trivial, ?_⟩, ?_⟩, ?_⟩, ?_⟩, ?_⟩, ?_⟩, ?_⟩, ?_⟩, ?_⟩, ?_⟩
       ·intro γ w' he hf; clear hf; refine ⟨trivial, ?_⟩; intro R hR
        have hc := he.cells
        go_simp
        (try go_ints); (try (rw [if_neg (by omega)])); (try (rw [if_pos (by omega)])); (try go_simp); (try go_ints)
        refine hR _ _ (Ext.refl _) ?_ trivial
        rfl
       ·intro γ w' he hf; clear hf; refine ⟨trivial, ?_⟩; intro R hR
        have hc := he.cells
        have cq0 := he.cell ca0
        have cq1 := he.cell ca1
        have cq2 := he.cell cb0
        have cq3 := he.cell cb1
        have cq4 := he.cell q0
        have cq5 := he.cell q1
        go_simp
        (try go_ints); (try (rw [if_neg (by omega)])); (try (rw [if_pos (by omega)])); (try go_simp); (try go_ints)
        refine hR _ _ (Ext.refl _) ?_ trivial
        rfl
       ·intro γ w' he hf; clear hf; refine ⟨trivial, ?_⟩; intro R hR
        have hc := he.cells
        go_simp
        (try go_ints); (try (rw [if_neg (by omega)])); (try (rw [if_pos (by omega)])); (try go_simp); (try go_ints)
        refine hR _ _ (Ext.refl _) ?_ trivial
        rfl
       ·intro γ w' he hf; clear hf; refine ⟨trivial, ?_⟩; intro R hR
        have hc := he.cells
        go_simp
        (try go_ints); (try (rw [if_neg (by omega)])); (try (rw [if_pos (by omega)])); (try go_simp); (try go_ints)
        refine hR _ _ (Ext.refl _) ?_ trivial
        rfl
       ·intro γ w' he hf; clear hf; refine ⟨trivial, ?_⟩; intro R hR
        have hc := he.cells
        have cq0 := he.cell ca0
        have cq1 := he.cell ca1
        have cq2 := he.cell cb0
        have cq3 := he.cell cb1
        have cq4 := he.cell q0
        have cq5 := he.cell q1
        go_simp
        (try go_ints); (try (rw [if_neg (by omega)])); (try (rw [if_pos (by omega)])); (try go_simp); (try go_ints)
        refine hR _ _ (Ext.refl _) ?_ trivial
        rfl
       ·intro γ w' he hf; clear hf; refine ⟨trivial, ?_⟩; intro R hR
        have hc := he.cells
        go_simp
        (try go_ints); (try (rw [if_neg (by omega)])); (try (rw [if_pos (by omega)])); (try go_simp); (try go_ints)
        refine hR _ _ (Ext.refl _) ?_ trivial
        rfl
       ·intro γ w' he hf; clear hf; refine ⟨trivial, ?_⟩; intro R hR
        have hc := he.cells
        have cq0 := he.cell ca0
        have cq1 := he.cell ca1
        have cq2 := he.cell cb0
        have cq3 := he.cell cb1
        have cq4 := he.cell q0
        have cq5 := he.cell q1
        go_simp
        (try go_ints); (try (rw [if_neg (by omega)])); (try (rw [if_pos (by omega)])); (try go_simp); (try go_ints)
        refine hR _ _ (Ext.refl _) ?_ trivial
        rfl
       ·intro γ w' he hf; clear hf; refine ⟨trivial, ?_⟩; intro R hR
        have hc := he.cells
        go_simp
        (try go_ints); (try (rw [if_neg (by omega)])); (try (rw [if_pos (by omega)])); (try go_simp); (try go_ints)
        refine hR _ _ (Ext.refl _) ?_ trivial
        rfl
       ·intro γ w' he hf; clear hf; refine ⟨trivial, ?_⟩; intro R hR
        have hc := he.cells
        go_simp
        (try go_ints); (try (rw [if_neg (by omega)])); (try (rw [if_pos (by omega)])); (try go_simp); (try go_ints)
        refine hR _ _ (Ext.refl _) ?_ trivial
        rfl
       ·intro γ w' he hf; clear hf; refine ⟨trivial, ?_⟩; intro R hR
        have hc := he.cells
        have cq0 := he.cell ca0
        have cq1 := he.cell ca1
        have cq2 := he.cell cb0
        have cq3 := he.cell cb1
        have cq4 := he.cell q0
        have cq5 := he.cell q1
        go_simp
        (try go_ints); (try (rw [if_neg (by omega)])); (try (rw [if_pos (by omega)])); (try go_simp); (try go_ints)
        refine hR _ _ (Ext.refl _) ?_ trivial
        rfl
      case hloc3 =>
       exact ⟨⟨⟨⟨⟨⟨⟨⟨⟨⟨trivial, (fun γ γ' h => ⟨rfl, fun _ => rfl⟩)⟩, (fun γ γ' h => ⟨rfl, fun _ => rfl⟩)⟩, (fun γ γ' h => ⟨rfl, fun _ => rfl⟩)⟩, (fun γ γ' h => ⟨rfl, fun _ => rfl⟩)⟩, (fun γ γ' h => ⟨rfl, fun _ => rfl⟩)⟩, (fun γ γ' h => ⟨rfl, fun _ => rfl⟩)⟩, (fun γ γ' h => ⟨rfl, fun _ => rfl⟩)⟩, (fun γ γ' h => ⟨rfl, fun _ => rfl⟩)⟩, (fun γ γ' h => ⟨rfl, fun _ => rfl⟩)⟩, (fun γ γ' h => ⟨rfl, fun _ => rfl⟩)⟩
      case hmono3 =>
       exact ⟨⟨⟨⟨⟨⟨⟨⟨⟨⟨trivial, (fun γ wA w' e h => h)⟩, (fun γ wA w' e h => h)⟩, (fun γ wA w' e h => h)⟩, (fun γ wA w' e h => h)⟩, (fun γ wA w' e h => h)⟩, (fun γ wA w' e h => h)⟩, (fun γ wA w' e h => h)⟩, (fun γ wA w' e h => h)⟩, (fun γ wA w' e h => h)⟩, (fun γ wA w' e h => h)⟩
      intro γ w1 hx1 hF
      clear hF
      simp only [fillAll, gV, kv, List.getD_cons_zero, List.getD_cons_succ, Act.put, List.setIfInBounds_toArray, List.set_cons_zero, List.set_cons_succ, List.toList_toArray, List.drop_succ_cons, List.drop_zero, List.drop_nil, Nat.zero_add, Nat.reduceAdd]
      clear γ
      go_wp2
      go_roundw
      case rel => exact ⟨k + 1, by omega, by go_num, fun j h => by
       rcases Nat.eq_or_lt_of_le (Nat.le_of_lt_succ h) with e | e
       ·rw [e, Hx.out, Hy.out]; exact Hpq.out
       ·exact Heq.out j e, hx.trans hx1⟩
      case measure => simp [intOf]; omega
     ·have hb3 : (((p : Nat) : Int) != (q : Nat)) = true := by simp; omega
      have Hpq := Lib.hid hpq; clear hpq
      go_wp2_with fail
      refine wp_region_par (k := 10) (D := [27, 28, 29, 30, 31, 32, 33, 34, 35, 36]) (T := [[], [0], [], [0, 1, 2], [0, 1, 2, 3], [], [5], [], [5, 6, 7], [5, 6, 7, 8], [0, 1, 2, 3, 4, 5, 6, 7, 8, 9]]) (EK := [2, 5, 3]) (EV := [?e4x0, ?e4x1, ?e4x2]) (VL := [(kv ?v4x0), (kv ?v4x1), (kv ?v4x2), (kv ?v4x3), (kv ?v4x4), (kv ?v4x5), (kv ?v4x6), (kv ?v4x7), (kv ?v4x8), (kv ?v4x9)]) (FL := fun γ w' => [True, True, True, True, True, True, True, True, True, True]) ?hE4 (by kernel_rfl) (by kernel_rfl) (by rfl) (by kernel_rfl) ?hloc4 ?hmono4 ?hstep4 ?htail4
      case hE4 => refine ⟨?_, ?_, ?_, trivial⟩ <;> (simp only [List.getElem?_toArray, List.getElem?_cons_succ, List.getElem?_cons_zero]; rfl)
      case hstep4 =>
       refine ⟨⟨⟨⟨⟨⟨⟨⟨⟨⟨trivial, ?_⟩, ?_⟩, ?_⟩, ?_⟩, ?_⟩, ?_⟩, ?_⟩, ?_⟩, ?_⟩, ?_⟩
       ·intro γ w' he hf; clear hf; refine ⟨trivial, ?_⟩; intro R hR
        have hc := he.cells
        go_simp
        (try go_ints); (try (rw [if_neg (by omega)])); (try (rw [if_pos (by omega)])); (try go_simp); (try go_ints)
        refine hR _ _ (Ext.refl _) ?_ trivial
        rfl
       ·intro γ w' he hf; clear hf; refine ⟨trivial, ?_⟩; intro R hR
        have hc := he.cells
        have cq0 := he.cell ca0
        have cq1 := he.cell ca1
        have cq2 := he.cell cb0
        have cq3 := he.cell cb1
        have cq4 := he.cell q0
        have cq5 := he.cell q1
        go_simp
        (try go_ints); (try (rw [if_neg (by omega)])); (try (rw [if_pos (by omega)])); (try go_simp); (try go_ints)
        refine hR _ _ (Ext.refl _) ?_ trivial
        rfl
       ·intro γ w' he hf; clear hf; refine ⟨trivial, ?_⟩; intro R hR
        have hc := he.cells
        go_simp
        (try go_ints); (try (rw [if_neg (by omega)])); (try (rw [if_pos (by omega)])); (try go_simp); (try go_ints)
        refine hR _ _ (Ext.refl _) ?_ trivial
        rfl
       ·intro γ w' he hf; clear hf; refine ⟨trivial, ?_⟩; intro R hR
        have hc := he.cells
        go_simp
        (try go_ints); (try (rw [if_neg (by omega)])); (try (rw [if_pos (by omega)])); (try go_simp); (try go_ints)
        refine hR _ _ (Ext.refl _) ?_ trivial
        rfl
       ·intro γ w' he hf; clear hf; refine ⟨trivial, ?_⟩; intro R hR
        have hc := he.cells
        have cq0 := he.cell ca0
        have cq1 := he.cell ca1
        have cq2 := he.cell cb0
        have cq3 := he.cell cb1
        have cq4 := he.cell q0
        have cq5 := he.cell q1
        go_simp
        (try go_ints); (try (rw [if_neg (by omega)])); (try (rw [if_pos (by omega)])); (try go_simp); (try go_ints)
        refine hR _ _ (Ext.refl _) ?_ trivial
        rfl
       ·intro γ w' he hf; clear hf; refine ⟨trivial, ?_⟩; intro R hR
        have hc := he.cells
        go_simp
        (try go_ints); (try (rw [if_neg (by omega)])); (try (rw [if_pos (by omega)])); (try go_simp); (try go_ints)
        refine hR _ _ (Ext.refl _) ?_ trivial
        rfl
       ·intro γ w' he hf; clear hf; refine ⟨trivial, ?_⟩; intro R hR
        have hc := he.cells
        have cq0 := he.cell ca0
        have cq1 := he.cell ca1
        have cq2 := he.cell cb0
        have cq3 := he.cell cb1
        have cq4 := he.cell q0
        have cq5 := he.cell q1
        go_simp
        (try go_ints); (try (rw [if_neg (by omega)])); (try (rw [if_pos (by omega)])); (try go_simp); (try go_ints)
        refine hR _ _ (Ext.refl _) ?_ trivial
        rfl
       ·intro γ w' he hf; clear hf; refine ⟨trivial, ?_⟩; intro R hR
        have hc := he.cells
        go_simp
        (try go_ints); (try (rw [if_neg (by omega)])); (try (rw [if_pos (by omega)])); (try go_simp); (try go_ints)
        refine hR _ _ (Ext.refl _) ?_ trivial
        rfl
       ·intro γ w' he hf; clear hf; refine ⟨trivial, ?_⟩; intro R hR
        have hc := he.cells
        go_simp
        (try go_ints); (try (rw [if_neg (by omega)])); (try (rw [if_pos (by omega)])); (try go_simp); (try go_ints)
        refine hR _ _ (Ext.refl _) ?_ trivial
        rfl
       ·intro γ w' he hf; clear hf; refine ⟨trivial, ?_⟩; intro R hR
        have hc := he.cells
        have cq0 := he.cell ca0
        have cq1 := he.cell ca1
        have cq2 := he.cell cb0
        have cq3 := he.cell cb1
        have cq4 := he.cell q0
        have cq5 := he.cell q1
        go_simp
        (try go_ints); (try (rw [if_neg (by omega)])); (try (rw [if_pos (by omega)])); (try go_simp); (try go_ints)
        refine hR _ _ (Ext.refl _) ?_ trivial
        rfl
      case hloc4 =>
       exact ⟨⟨⟨⟨⟨⟨⟨⟨⟨⟨trivial, (fun γ γ' h => ⟨rfl, fun _ => rfl⟩)⟩, (fun γ γ' h => ⟨rfl, fun _ => rfl⟩)⟩, (fun γ γ' h => ⟨rfl, fun _ => rfl⟩)⟩, (fun γ γ' h => ⟨rfl, fun _ => rfl⟩)⟩, (fun γ γ' h => ⟨rfl, fun _ => rfl⟩)⟩, (fun γ γ' h => ⟨rfl, fun _ => rfl⟩)⟩, (fun γ γ' h => ⟨rfl, fun _ => rfl⟩)⟩, (fun γ γ' h => ⟨rfl, fun _ => rfl⟩)⟩, (fun γ γ' h => ⟨rfl, fun _ => rfl⟩)⟩, (fun γ γ' h => ⟨rfl, fun _ => rfl⟩)⟩
      case hmono4 =>
       exact ⟨⟨⟨⟨⟨⟨⟨⟨⟨⟨trivial, (fun γ wA w' e h => h)⟩, (fun γ wA w' e h => h)⟩, (fun γ wA w' e h => h)⟩, (fun γ wA w' e h => h)⟩, (fun γ wA w' e h => h)⟩, (fun γ wA w' e h => h)⟩, (fun γ wA w' e h => h)⟩, (fun γ wA w' e h => h)⟩, (fun γ wA w' e h => h)⟩, (fun γ wA w' e h => h)⟩
      intro γ w1 hx1 hF
      clear hF
      simp only [fillAll, gV, kv, List.getD_cons_zero, List.getD_cons_succ, Act.put, List.setIfInBounds_toArray, List.set_cons_zero, List.set_cons_succ, List.toList_toArray, List.drop_succ_cons, List.drop_zero, List.drop_nil, Nat.zero_add, Nat.reduceAdd]
      clear γ
      go_wp2
      go_ret
      refine Gives.mk ?_ (hx.a2.trans hx1)
      rw [Hb.out]
      have : ¬ x = y := by
       rintro rfl
       have e : ds = es := digs_inj HL.out.2.2.2.2.1 HL.out.2.2.2.2.2 (by have := HL.out.1; have := HL.out.2.2.1; have := Hz.out; omega) (by rw [HL.out.2.1, HL.out.2.2.2.1])
       exact Hpq.out (by rw [← Hx.out, ← Hy.out, e])
      simp [this]
    ·obtain rfl : k = nx := by omega
     have hdone : x = y := by
      have e := digs_eq (ds := ds) (es := es) (by have := HL.out.1; have := HL.out.2.2.1; have := Hz.out; omega) (fun j hj => Heq.out j (by have := HL.out.1; omega))
      exact same_abs (by rw [← HL.out.2.1, ← HL.out.2.2.2.1, e]) (Hs.out.1 ▸ Hs.out.2)
     have Hd := Lib.hid hdone; clear hdone
     go_wp2
     go_ret
     exact Gives.mk (by rw [Hb.out, decide_eq_true Hd.out]; rfl) hx.a2
  ·have hb2 : (((sz x.natAbs : Nat) : Int) != (sz y.natAbs : Nat)) = true := by simp; omega
   have hne : bx = false := by rw [Hb.out]; simp; rintro rfl; exact hsz rfl
   subst hne
   clear hsz
   go_enter Tryz.func15, Tryz.ntmps15
   go_wp2
   go_ret
   exact Gives.mk rfl (((Ext.refl w).alloc _).alloc _)
 ·have hne : bx = false := by rw [Hb.out]; simp; rintro rfl; exact hs (Hs.out.1.trans Hs.out.2.symm)
  subst hne
  obtain rfl : sy = !sx := by cases sx <;> cases sy <;> simp_all
  clear hs
  cases sx
  all_goals
   go_enter Tryz.func15, Tryz.ntmps15
   go_wp2
   go_ret
   exact Gives.mk rfl (((Ext.refl w).alloc _).alloc _)
end Go.Proofs.YtfacbpnegkjcgaaGreatDoor
namespace Go.Proofs.YtfacbpnegkjcgaaGreatDoor
open Go.RowKit Go.Hp
/-- A row of digits of the call's own. -/
def OwnD (base : Nat) (w : World) (v : Value) (ds : List Nat) : Prop := w.ownsRow base 87 1 v ds.length (ds.map fun d => Value.int .u32 (d : Nat))
theorem OwnD.nil (base : Nat) (w : World) : OwnD base w (.slice none 0 0) [] := World.ownsRow_nil w base _ 1
theorem OwnD.digv {base : Nat} {w : World} {v : Value} {ds : List Nat} (h : OwnD base w v ds) (hd : Digs ds) : DigV w v ds := DigV.of_own h hd
theorem OwnD.from_ {base : Nat} {a w w' : World} {v : Value} {ds : List Nat} (h : OwnD base w v ds) (hg : w.grownBy w' v.ownBlock) (x : Ext a w) (hb : a.heap.size ≤ base) : Ext a w' :=
 x.grown hg fun k hk => Nat.le_trans hb (World.ownsRow.lt h k hk).1
theorem OwnD.alloc {base : Nat} {w : World} {v : Value} {ds : List Nat} (h : OwnD base w v ds) (o : Obj) : OwnD base (w.alloc o) v ds := World.ownsRow.alloc h o
theorem append_d (W : World) (base ty : Nat) (v : Value) (ds : List Nat) (d g : Nat) (z : Int) (h : OwnD base W v ds) (hz : z = (d : Nat)) (hn : ds.length ≤ 8796093022208) (hb : base ≤ W.heap.size) (hg : g = W.heap.size) :
  ∃ v' w', (Builtin.append_ #[26, 26] ty #[v, .slice (some ⟨g, 0, none⟩) 1 1]).run Tryz.prog (W.alloc (.cells #[.int .u32 z] 87)) = .ok v' w' ∧ (OwnD base w' v' (ds ++ [d]) ∧ (W.alloc (.cells #[.int .u32 z] 87)).grownBy w' v.ownBlock) := by
 subst hz hg
 obtain ⟨i0, hi, hz0, hz1, hz2⟩ := info_parts info_u32
 obtain ⟨v', w', a, b, c, _⟩ := run_append_own (P := Tryz.prog) (W.alloc (.cells #[.int .u32 (d : Nat)] 87)) base 26 ty 87 i0 (.int .u32 0) 1 4 Tryz.underlying26 hi hz0 hz1 hz2 rfl (by decide) v ds.length _ (h.alloc _) ⟨W.heap.size, 0, none⟩ 1 1 [.int .u32 (d : Nat)] rfl (news_new W _ _) (by intro u hu; simp at hu; subst hu; rfl) (by simp only [maxLen]; omega) (by omega) (by simp; omega)
 refine ⟨v', w', a, ?_, c⟩
 unfold OwnD
 rw [List.length_append, List.map_append]
 exact b
set_option maxHeartbeats 1000000 in
theorem below_r (v u : Value) (ds es : List Nat) (w : World) (hv : DigV w v ds) (hu : DigV w u es) (htd : Top ds) (hte : Top es) :
  Calls Tryz.prog 131 #[v, u] w (Gives w fun r _ => r = .bool (decide (nv ds < nv es))) := by
 obtain ⟨A, p1, rfl, hl, hc, hA⟩ := hv
 obtain ⟨E, p2, rfl, hl', hc', hE⟩ := hu
 obtain ⟨bx, hbx⟩ : ∃ bx, bx = decide (nv ds < nv es) := ⟨_, rfl⟩
 rw [← hbx]
 have Hb := Lib.hid hbx; clear hbx
 by_cases hne : ds.length = es.length
 ·have hb0 : ((ds.length : Int) != es.length) = false := by simp [hne]
  have Hne := Lib.hid hne; clear hne
  have hle : es.length ≤ ds.length := by have := Hne.out; omega
  go_enter Tryz.func131, Tryz.ntmps131
  go_wp2
  go_loopw [5] (fun iv wr => ∃ k : Nat, k ≤ ds.length ∧ (∃ q : Int, q + 1 = k ∧ iv = .int .i64 q) ∧ nv (ds.drop k) = nv (es.drop k) ∧ Ext w wr) (fun iv _ => (intOf iv + 1).toNat)
  case atStart => exact ⟨ds.length, Nat.le_refl _, ⟨_, by omega, rfl⟩, by rw [List.drop_length, List.drop_of_length_le hle], Ext.refl _⟩
  case round =>
   obtain ⟨k, hk, ⟨q, hq, rfl⟩, hval, hx⟩ := hrel
   have Hv := Lib.hid hval; clear hval
   by_cases hk0 : 0 < k
   ·obtain ⟨k, rfl⟩ : ∃ j, k = j + 1 := ⟨k - 1, by omega⟩
    obtain rfl : q = (k : Int) := by omega
    clear hq
    have hke : k < es.length := by have := Hne.out; omega
    obtain ⟨a, rfl, hca⟩ := dig_at hA (k := k) (by omega)
    obtain ⟨b, rfl, hcb⟩ := dig_at hE (k := k) hke
    replace hca := hx.cell hca
    replace hcb := hx.cell hcb
    have x1 := dg_bound hA.1 k
    have y1 := dg_bound hE.1 k
    generalize hxx : dg ds k = x at *
    generalize hyy : dg es k = y at *
    have Hx := Lib.hid hxx; clear hxx
    have Hy := Lib.hid hyy; clear hyy
    rcases Nat.lt_trichotomy x y with hlt | heq | hgt
    ·have b1 : ((x : Int) != y) = true := by simp; omega
     have b2 : decide ((x : Int) < y) = true := by simp; omega
     go_wp2
     refine wp_region_par (k := 8) (D := [23, 24, 25, 26, 27, 28, 29, 30]) (T := [[], [], [0, 1], [0, 1, 2], [], [], [4, 5], [4, 5, 6], [0, 1, 2, 3, 4, 5, 6, 7]]) (EK := [0, 5, 1]) (EV := [?e1x0, ?e1x1, ?e1x2]) (VL := [(kv ?v1x0), (kv ?v1x1), (kv ?v1x2), (kv ?v1x3), (kv ?v1x4), (kv ?v1x5), (kv ?v1x6), (kv ?v1x7)]) (FL := fun γ w' => [True, True, True, True, True, True, True, True]) ?hE1 (by kernel_rfl) (by kernel_rfl) (by rfl) (by kernel_rfl) ?hloc1 ?hmono1 ?hstep1 ?htail1
     case hE1 => refine ⟨?_, ?_, ?_, trivial⟩ <;> (simp only [List.getElem?_toArray, List.getElem?_cons_succ, List.getElem?_cons_zero]; rfl)
     case hstep1 =>
      refine ⟨⟨⟨⟨⟨⟨⟨⟨trivial, ?_⟩, ?_⟩, ?_⟩, ?_⟩, ?_⟩, ?_⟩, ?_⟩, ?_⟩
      ·intro γ w' he hf; clear hf; refine ⟨trivial, ?_⟩; intro R hR
       have hc := he.cells
       go_simp
       (try go_ints); (try (rw [if_neg (by omega)])); (try (rw [if_pos (by omega)])); (try go_simp); (try go_ints)
       refine hR _ _ (Ext.refl _) ?_ trivial
       rfl
      ·intro γ w' he hf; clear hf; refine ⟨trivial, ?_⟩; intro R hR
       have hc := he.cells
       go_simp
       (try go_ints); (try (rw [if_neg (by omega)])); (try (rw [if_pos (by omega)])); (try go_simp); (try go_ints)
       refine hR _ _ (Ext.refl _) ?_ trivial
       rfl
      ·intro γ w' he hf; clear hf; refine ⟨trivial, ?_⟩; intro R hR
       have hc := he.cells
       go_simp
       (try go_ints); (try (rw [if_neg (by omega)])); (try (rw [if_pos (by omega)])); (try go_simp); (try go_ints)
       refine hR _ _ (Ext.refl _) ?_ trivial
       rfl
      ·intro γ w' he hf; clear hf; refine ⟨trivial, ?_⟩; intro R hR
       have hc := he.cells
       have cq0 := he.cell hca
       have cq1 := he.cell hcb
       go_simp
       (try go_ints); (try (rw [if_neg (by omega)])); (try (rw [if_pos (by omega)])); (try go_simp); (try go_ints)
       refine hR _ _ (Ext.refl _) ?_ trivial
       rfl
      ·intro γ w' he hf; clear hf; refine ⟨trivial, ?_⟩; intro R hR
       have hc := he.cells
       go_simp
       (try go_ints); (try (rw [if_neg (by omega)])); (try (rw [if_pos (by omega)])); (try go_simp); (try go_ints)
       refine hR _ _ (Ext.refl _) ?_ trivial
       rfl
      ·intro γ w' he hf; clear hf; refine ⟨trivial, ?_⟩; intro R hR
       have hc := he.cells
       go_simp
       (try go_ints); (try (rw [if_neg (by omega)])); (try (rw [if_pos (by omega)])); (try go_simp); (try go_ints)
       refine hR _ _ (Ext.refl _) ?_ trivial
       rfl
      ·intro γ w' he hf; clear hf; refine ⟨trivial, ?_⟩; intro R hR
       have hc := he.cells
       go_simp
       (try go_ints); (try (rw [if_neg (by omega)])); (try (rw [if_pos (by omega)])); (try go_simp); (try go_ints)
       refine hR _ _ (Ext.refl _) ?_ trivial
       rfl
      ·intro γ w' he hf; clear hf; refine ⟨trivial, ?_⟩; intro R hR
       have hc := he.cells
       have cq0 := he.cell hca
       have cq1 := he.cell hcb
       go_simp
       (try go_ints); (try (rw [if_neg (by omega)])); (try (rw [if_pos (by omega)])); (try go_simp); (try go_ints)
       refine hR _ _ (Ext.refl _) ?_ trivial
       rfl
     case hloc1 =>
      exact ⟨⟨⟨⟨⟨⟨⟨⟨trivial, (fun γ γ' h => ⟨rfl, fun _ => rfl⟩)⟩, (fun γ γ' h => ⟨rfl, fun _ => rfl⟩)⟩, (fun γ γ' h => ⟨rfl, fun _ => rfl⟩)⟩, (fun γ γ' h => ⟨rfl, fun _ => rfl⟩)⟩, (fun γ γ' h => ⟨rfl, fun _ => rfl⟩)⟩, (fun γ γ' h => ⟨rfl, fun _ => rfl⟩)⟩, (fun γ γ' h => ⟨rfl, fun _ => rfl⟩)⟩, (fun γ γ' h => ⟨rfl, fun _ => rfl⟩)⟩
     case hmono1 =>
      exact ⟨⟨⟨⟨⟨⟨⟨⟨trivial, (fun γ wA w' e h => h)⟩, (fun γ wA w' e h => h)⟩, (fun γ wA w' e h => h)⟩, (fun γ wA w' e h => h)⟩, (fun γ wA w' e h => h)⟩, (fun γ wA w' e h => h)⟩, (fun γ wA w' e h => h)⟩, (fun γ wA w' e h => h)⟩
     intro γ w1 hx1 hF
     clear hF
     simp only [fillAll, gV, kv, List.getD_cons_zero, List.getD_cons_succ, Act.put, List.setIfInBounds_toArray, List.set_cons_zero, List.set_cons_succ, List.toList_toArray, List.drop_succ_cons, List.drop_zero, List.drop_nil, Nat.zero_add, Nat.reduceAdd]
     clear γ
     replace hca := hx1.cell hca
     replace hcb := hx1.cell hcb
     go_wp2
     refine wp_region_par (k := 8) (D := [32, 33, 34, 35, 36, 37, 38, 39]) (T := [[], [], [0, 1], [0, 1, 2], [], [], [4, 5], [4, 5, 6], [0, 1, 2, 3, 4, 5, 6, 7], [0, 1, 2, 3, 4, 5, 6, 7, 8]]) (EK := [0, 5, 1]) (EV := [?e2x0, ?e2x1, ?e2x2]) (VL := [(kv ?v2x0), (kv ?v2x1), (kv ?v2x2), (kv ?v2x3), (kv ?v2x4), (kv ?v2x5), (kv ?v2x6), (kv ?v2x7)]) (FL := fun γ w' => [True, True, True, True, True, True, True, True]) ?hE2 (by kernel_rfl) (by kernel_rfl) (by rfl) (by kernel_rfl) ?hloc2 ?hmono2 ?hstep2 ?htail2
     case hE2 => refine ⟨?_, ?_, ?_, trivial⟩ <;> (simp only [List.getElem?_toArray, List.getElem?_cons_succ, List.getElem?_cons_zero]; rfl)
     case hstep2 =>
      refine ⟨⟨⟨⟨⟨⟨⟨⟨trivial, ?_⟩, ?_⟩, ?_⟩, ?_⟩, ?_⟩, ?_⟩, ?_⟩, ?_⟩
      ·intro γ w' he hf; clear hf; refine ⟨trivial, ?_⟩; intro R hR
       have hc := he.cells
       go_simp
       (try go_ints); (try (rw [if_neg (by omega)])); (try (rw [if_pos (by omega)])); (try go_simp); (try go_ints)
       refine hR _ _ (Ext.refl _) ?_ trivial
       rfl
      ·intro γ w' he hf; clear hf; refine ⟨trivial, ?_⟩; intro R hR
       have hc := he.cells
       go_simp
       (try go_ints); (try (rw [if_neg (by omega)])); (try (rw [if_pos (by omega)])); (try go_simp); (try go_ints)
       refine hR _ _ (Ext.refl _) ?_ trivial
       rfl
      ·intro γ w' he hf; clear hf; refine ⟨trivial, ?_⟩; intro R hR
       have hc := he.cells
       go_simp
       (try go_ints); (try (rw [if_neg (by omega)])); (try (rw [if_pos (by omega)])); (try go_simp); (try go_ints)
       refine hR _ _ (Ext.refl _) ?_ trivial
       rfl
      ·intro γ w' he hf; clear hf; refine ⟨trivial, ?_⟩; intro R hR
       have hc := he.cells
       have cq0 := he.cell hca
       have cq1 := he.cell hcb
       go_simp
       (try go_ints); (try (rw [if_neg (by omega)])); (try (rw [if_pos (by omega)])); (try go_simp); (try go_ints)
       refine hR _ _ (Ext.refl _) ?_ trivial
       rfl
      ·intro γ w' he hf; clear hf; refine ⟨trivial, ?_⟩; intro R hR
       have hc := he.cells
       go_simp
       (try go_ints); (try (rw [if_neg (by omega)])); (try (rw [if_pos (by omega)])); (try go_simp); (try go_ints)
       refine hR _ _ (Ext.refl _) ?_ trivial
       rfl
      ·intro γ w' he hf; clear hf; refine ⟨trivial, ?_⟩; intro R hR
       have hc := he.cells
       go_simp
       (try go_ints); (try (rw [if_neg (by omega)])); (try (rw [if_pos (by omega)])); (try go_simp); (try go_ints)
       refine hR _ _ (Ext.refl _) ?_ trivial
       rfl
      ·intro γ w' he hf; clear hf; refine ⟨trivial, ?_⟩; intro R hR
       have hc := he.cells
       go_simp
       (try go_ints); (try (rw [if_neg (by omega)])); (try (rw [if_pos (by omega)])); (try go_simp); (try go_ints)
       refine hR _ _ (Ext.refl _) ?_ trivial
       rfl
      ·intro γ w' he hf; clear hf; refine ⟨trivial, ?_⟩; intro R hR
       have hc := he.cells
       have cq0 := he.cell hca
       have cq1 := he.cell hcb
       go_simp
       (try go_ints); (try (rw [if_neg (by omega)])); (try (rw [if_pos (by omega)])); (try go_simp); (try go_ints)
       refine hR _ _ (Ext.refl _) ?_ trivial
       rfl
     case hloc2 =>
      exact ⟨⟨⟨⟨⟨⟨⟨⟨trivial, (fun γ γ' h => ⟨rfl, fun _ => rfl⟩)⟩, (fun γ γ' h => ⟨rfl, fun _ => rfl⟩)⟩, (fun γ γ' h => ⟨rfl, fun _ => rfl⟩)⟩, (fun γ γ' h => ⟨rfl, fun _ => rfl⟩)⟩, (fun γ γ' h => ⟨rfl, fun _ => rfl⟩)⟩, (fun γ γ' h => ⟨rfl, fun _ => rfl⟩)⟩, (fun γ γ' h => ⟨rfl, fun _ => rfl⟩)⟩, (fun γ γ' h => ⟨rfl, fun _ => rfl⟩)⟩
     case hmono2 =>
      exact ⟨⟨⟨⟨⟨⟨⟨⟨trivial, (fun γ wA w' e h => h)⟩, (fun γ wA w' e h => h)⟩, (fun γ wA w' e h => h)⟩, (fun γ wA w' e h => h)⟩, (fun γ wA w' e h => h)⟩, (fun γ wA w' e h => h)⟩, (fun γ wA w' e h => h)⟩, (fun γ wA w' e h => h)⟩
     intro γ w2 hx2 hF
     clear hF
     simp only [fillAll, gV, kv, List.getD_cons_zero, List.getD_cons_succ, Act.put, List.setIfInBounds_toArray, List.set_cons_zero, List.set_cons_succ, List.toList_toArray, List.drop_succ_cons, List.drop_zero, List.drop_nil, Nat.zero_add, Nat.reduceAdd]
     clear γ
     go_wp2
     go_ret
     refine Gives.mk ?_ ((hx.trans hx1).trans hx2)
     exact congrArg Value.bool (Hb.out.trans (decide_eq_true (top_differs hA.1 hE.1 (by omega) hke Hv.out (by rw [Hx.out, Hy.out]; exact hlt)))).symm
    ·subst heq
     have b1 : ((x : Int) != x) = false := by simp
     go_wp2
     refine wp_region_par (k := 8) (D := [23, 24, 25, 26, 27, 28, 29, 30]) (T := [[], [], [0, 1], [0, 1, 2], [], [], [4, 5], [4, 5, 6], [0, 1, 2, 3, 4, 5, 6, 7]]) (EK := [0, 5, 1]) (EV := [?e3x0, ?e3x1, ?e3x2]) (VL := [(kv ?v3x0), (kv ?v3x1), (kv ?v3x2), (kv ?v3x3), (kv ?v3x4), (kv ?v3x5), (kv ?v3x6), (kv ?v3x7)]) (FL := fun γ w' => [True, True, True, True, True, True, True, True]) ?hE3 (by kernel_rfl) (by kernel_rfl) (by rfl) (by kernel_rfl) ?hloc3 ?hmono3 ?hstep3 ?htail3
     case hE3 => refine ⟨?_, ?_, ?_, trivial⟩ <;> (simp only [List.getElem?_toArray, List.getElem?_cons_succ, List.getElem?_cons_zero]; rfl)
     case hstep3 =>
      refine ⟨⟨⟨⟨⟨⟨⟨⟨trivial, ?_⟩, ?_⟩, ?_⟩, ?_⟩, ?_⟩, ?_⟩, ?_⟩, ?_⟩
      ·intro γ w' he hf; clear hf; refine ⟨trivial, ?_⟩; intro R hR
       have hc := he.cells
       go_simp
       (try go_ints); (try (rw [if_neg (by omega)])); (try (rw [if_pos (by omega)])); (try go_simp); (try go_ints)
       refine hR _ _ (Ext.refl _) ?_ trivial
       rfl
      ·intro γ w' he hf; clear hf; refine ⟨trivial, ?_⟩; intro R hR
       have hc := he.cells
       go_simp
       (try go_ints); (try (rw [if_neg (by omega)])); (try (rw [if_pos (by omega)])); (try go_simp); (try go_ints)
       refine hR _ _ (Ext.refl _) ?_ trivial
       rfl
      ·intro γ w' he hf; clear hf; refine ⟨trivial, ?_⟩; intro R hR
       have hc := he.cells
       go_simp
       (try go_ints); (try (rw [if_neg (by omega)])); (try (rw [if_pos (by omega)])); (try go_simp); (try go_ints)
       refine hR _ _ (Ext.refl _) ?_ trivial
       rfl
      ·intro γ w' he hf; clear hf; refine ⟨trivial, ?_⟩; intro R hR
       have hc := he.cells
       have cq0 := he.cell hca
       have cq1 := he.cell hcb
       go_simp
       (try go_ints); (try (rw [if_neg (by omega)])); (try (rw [if_pos (by omega)])); (try go_simp); (try go_ints)
       refine hR _ _ (Ext.refl _) ?_ trivial
       rfl
      ·intro γ w' he hf; clear hf; refine ⟨trivial, ?_⟩; intro R hR
       have hc := he.cells
       go_simp
       (try go_ints); (try (rw [if_neg (by omega)])); (try (rw [if_pos (by omega)])); (try go_simp); (try go_ints)
       refine hR _ _ (Ext.refl _) ?_ trivial
       rfl
      ·intro γ w' he hf; clear hf; refine ⟨trivial, ?_⟩; intro R hR
       have hc := he.cells
       go_simp
       (try go_ints); (try (rw [if_neg (by omega)])); (try (rw [if_pos (by omega)])); (try go_simp); (try go_ints)
       refine hR _ _ (Ext.refl _) ?_ trivial
       rfl
      ·intro γ w' he hf; clear hf; refine ⟨trivial, ?_⟩; intro R hR
       have hc := he.cells
       go_simp
       (try go_ints); (try (rw [if_neg (by omega)])); (try (rw [if_pos (by omega)])); (try go_simp); (try go_ints)
       refine hR _ _ (Ext.refl _) ?_ trivial
       rfl
      ·intro γ w' he hf; clear hf; refine ⟨trivial, ?_⟩; intro R hR
       have hc := he.cells
       have cq0 := he.cell hca
       have cq1 := he.cell hcb
       go_simp
       (try go_ints); (try (rw [if_neg (by omega)])); (try (rw [if_pos (by omega)])); (try go_simp); (try go_ints)
       refine hR _ _ (Ext.refl _) ?_ trivial
       rfl
     case hloc3 =>
      exact ⟨⟨⟨⟨⟨⟨⟨⟨trivial, (fun γ γ' h => ⟨rfl, fun _ => rfl⟩)⟩, (fun γ γ' h => ⟨rfl, fun _ => rfl⟩)⟩, (fun γ γ' h => ⟨rfl, fun _ => rfl⟩)⟩, (fun γ γ' h => ⟨rfl, fun _ => rfl⟩)⟩, (fun γ γ' h => ⟨rfl, fun _ => rfl⟩)⟩, (fun γ γ' h => ⟨rfl, fun _ => rfl⟩)⟩, (fun γ γ' h => ⟨rfl, fun _ => rfl⟩)⟩, (fun γ γ' h => ⟨rfl, fun _ => rfl⟩)⟩
     case hmono3 =>
      exact ⟨⟨⟨⟨⟨⟨⟨⟨trivial, (fun γ wA w' e h => h)⟩, (fun γ wA w' e h => h)⟩, (fun γ wA w' e h => h)⟩, (fun γ wA w' e h => h)⟩, (fun γ wA w' e h => h)⟩, (fun γ wA w' e h => h)⟩, (fun γ wA w' e h => h)⟩, (fun γ wA w' e h => h)⟩
     intro γ w1 hx1 hF
     clear hF
     simp only [fillAll, gV, kv, List.getD_cons_zero, List.getD_cons_succ, Act.put, List.setIfInBounds_toArray, List.set_cons_zero, List.set_cons_succ, List.toList_toArray, List.drop_succ_cons, List.drop_zero, List.drop_nil, Nat.zero_add, Nat.reduceAdd]
     clear γ
     go_wp2
     go_roundw
     case rel =>
      refine ⟨k, by omega, ⟨_, by omega, rfl⟩, ?_, hx.trans hx1⟩
      rw [nv_drop (by omega), nv_drop hke, ← dg_lt, ← dg_lt, Hx.out, Hy.out, Hv.out]
     case measure => simp [intOf] <;> omega
    ·have b1 : ((x : Int) != y) = true := by simp; omega
     have b2 : decide ((x : Int) < y) = false := by simp; omega
     go_wp2
     refine wp_region_par (k := 8) (D := [23, 24, 25, 26, 27, 28, 29, 30]) (T := [[], [], [0, 1], [0, 1, 2], [], [], [4, 5], [4, 5, 6], [0, 1, 2, 3, 4, 5, 6, 7]]) (EK := [0, 5, 1]) (EV := [?e4x0, ?e4x1, ?e4x2]) (VL := [(kv ?v4x0), (kv ?v4x1), (kv ?v4x2), (kv ?v4x3), (kv ?v4x4), (kv ?v4x5), (kv ?v4x6), (kv ?v4x7)]) (FL := fun γ w' => [True, True, True, True, True, True, True, True]) ?hE4 (by kernel_rfl) (by kernel_rfl) (by rfl) (by kernel_rfl) ?hloc4 ?hmono4 ?hstep4 ?htail4
     case hE4 => refine ⟨?_, ?_, ?_, trivial⟩ <;> (simp only [List.getElem?_toArray, List.getElem?_cons_succ, List.getElem?_cons_zero]; rfl)
     case hstep4 =>
      refine ⟨⟨⟨⟨⟨⟨⟨⟨trivial, ?_⟩, ?_⟩, ?_⟩, ?_⟩, ?_⟩, ?_⟩, ?_⟩, ?_⟩
      ·intro γ w' he hf; clear hf; refine ⟨trivial, ?_⟩; intro R hR
       have hc := he.cells
       go_simp
       (try go_ints); (try (rw [if_neg (by omega)])); (try (rw [if_pos (by omega)])); (try go_simp); (try go_ints)
       refine hR _ _ (Ext.refl _) ?_ trivial
       rfl
      ·intro γ w' he hf; clear hf; refine ⟨trivial, ?_⟩; intro R hR
       have hc := he.cells
       go_simp
       (try go_ints); (try (rw [if_neg (by omega)])); (try (rw [if_pos (by omega)])); (try go_simp); (try go_ints)
       refine hR _ _ (Ext.refl _) ?_ trivial
       rfl
      ·intro γ w' he hf; clear hf; refine ⟨trivial, ?_⟩; intro R hR
       have hc := he.cells
       go_simp
       (try go_ints); (try (rw [if_neg (by omega)])); (try (rw [if_pos (by omega)])); (try go_simp); (try go_ints)
       refine hR _ _ (Ext.refl _) ?_ trivial
       rfl
      ·intro γ w' he hf; clear hf; refine ⟨trivial, ?_⟩; intro R hR
       have hc := he.cells
       have cq0 := he.cell hca
       have cq1 := he.cell hcb
       go_simp
       (try go_ints); (try (rw [if_neg (by omega)])); (try (rw [if_pos (by omega)])); (try go_simp); (try go_ints)
       refine hR _ _ (Ext.refl _) ?_ trivial
       rfl
      ·intro γ w' he hf; clear hf; refine ⟨trivial, ?_⟩; intro R hR
       have hc := he.cells
       go_simp
       (try go_ints); (try (rw [if_neg (by omega)])); (try (rw [if_pos (by omega)])); (try go_simp); (try go_ints)
       refine hR _ _ (Ext.refl _) ?_ trivial
       rfl
      ·intro γ w' he hf; clear hf; refine ⟨trivial, ?_⟩; intro R hR
       have hc := he.cells
       go_simp
       (try go_ints); (try (rw [if_neg (by omega)])); (try (rw [if_pos (by omega)])); (try go_simp); (try go_ints)
       refine hR _ _ (Ext.refl _) ?_ trivial
       rfl
      ·intro γ w' he hf; clear hf; refine ⟨trivial, ?_⟩; intro R hR
       have hc := he.cells
       go_simp
       (try go_ints); (try (rw [if_neg (by omega)])); (try (rw [if_pos (by omega)])); (try go_simp); (try go_ints)
       refine hR _ _ (Ext.refl _) ?_ trivial
       rfl
      ·intro γ w' he hf; clear hf; refine ⟨trivial, ?_⟩; intro R hR
       have hc := he.cells
       have cq0 := he.cell hca
       have cq1 := he.cell hcb
       go_simp
       (try go_ints); (try (rw [if_neg (by omega)])); (try (rw [if_pos (by omega)])); (try go_simp); (try go_ints)
       refine hR _ _ (Ext.refl _) ?_ trivial
       rfl
     case hloc4 =>
      exact ⟨⟨⟨⟨⟨⟨⟨⟨trivial, (fun γ γ' h => ⟨rfl, fun _ => rfl⟩)⟩, (fun γ γ' h => ⟨rfl, fun _ => rfl⟩)⟩, (fun γ γ' h => ⟨rfl, fun _ => rfl⟩)⟩, (fun γ γ' h => ⟨rfl, fun _ => rfl⟩)⟩, (fun γ γ' h => ⟨rfl, fun _ => rfl⟩)⟩, (fun γ γ' h => ⟨rfl, fun _ => rfl⟩)⟩, (fun γ γ' h => ⟨rfl, fun _ => rfl⟩)⟩, (fun γ γ' h => ⟨rfl, fun _ => rfl⟩)⟩
     case hmono4 =>
      exact ⟨⟨⟨⟨⟨⟨⟨⟨trivial, (fun γ wA w' e h => h)⟩, (fun γ wA w' e h => h)⟩, (fun γ wA w' e h => h)⟩, (fun γ wA w' e h => h)⟩, (fun γ wA w' e h => h)⟩, (fun γ wA w' e h => h)⟩, (fun γ wA w' e h => h)⟩, (fun γ wA w' e h => h)⟩
     intro γ w1 hx1 hF
     clear hF
     simp only [fillAll, gV, kv, List.getD_cons_zero, List.getD_cons_succ, Act.put, List.setIfInBounds_toArray, List.set_cons_zero, List.set_cons_succ, List.toList_toArray, List.drop_succ_cons, List.drop_zero, List.drop_nil, Nat.zero_add, Nat.reduceAdd]
     clear γ
     replace hca := hx1.cell hca
     replace hcb := hx1.cell hcb
     go_wp2
     refine wp_region_par (k := 8) (D := [32, 33, 34, 35, 36, 37, 38, 39]) (T := [[], [], [0, 1], [0, 1, 2], [], [], [4, 5], [4, 5, 6], [0, 1, 2, 3, 4, 5, 6, 7], [0, 1, 2, 3, 4, 5, 6, 7, 8]]) (EK := [0, 5, 1]) (EV := [?e5x0, ?e5x1, ?e5x2]) (VL := [(kv ?v5x0), (kv ?v5x1), (kv ?v5x2), (kv ?v5x3), (kv ?v5x4), (kv ?v5x5), (kv ?v5x6), (kv ?v5x7)]) (FL := fun γ w' => [True, True, True, True, True, True, True, True]) ?hE5 (by kernel_rfl) (by kernel_rfl) (by rfl) (by kernel_rfl) ?hloc5 ?hmono5 ?hstep5 ?htail5
     case hE5 => refine ⟨?_, ?_, ?_, trivial⟩ <;> (simp only [List.getElem?_toArray, List.getElem?_cons_succ, List.getElem?_cons_zero]; rfl)
     case hstep5 =>
      refine ⟨⟨⟨⟨⟨⟨⟨⟨trivial, ?_⟩, ?_⟩, ?_⟩, ?_⟩, ?_⟩, ?_⟩, ?_⟩, ?_⟩
      ·intro γ w' he hf; clear hf; refine ⟨trivial, ?_⟩; intro R hR
       have hc := he.cells
       go_simp
       (try go_ints); (try (rw [if_neg (by omega)])); (try (rw [if_pos (by omega)])); (try go_simp); (try go_ints)
       refine hR _ _ (Ext.refl _) ?_ trivial
       rfl
      ·intro γ w' he hf; clear hf; refine ⟨trivial, ?_⟩; intro R hR
       have hc := he.cells
       go_simp
       (try go_ints); (try (rw [if_neg (by omega)])); (try (rw [if_pos (by omega)])); (try go_simp); (try go_ints)
       refine hR _ _ (Ext.refl _) ?_ trivial
       rfl
      ·intro γ w' he hf; clear hf; refine ⟨trivial, ?_⟩; intro R hR
       have hc := he.cells
       go_simp
       (try go_ints); (try (rw [if_neg (by omega)])); (try (rw [if_pos (by omega)])); (try go_simp); (try go_ints)
       refine hR _ _ (Ext.refl _) ?_ trivial
       rfl
      ·intro γ w' he hf; clear hf; refine ⟨trivial, ?_⟩; intro R hR
       have hc := he.cells
       have cq0 := he.cell hca
       have cq1 := he.cell hcb
       go_simp
       (try go_ints); (try (rw [if_neg (by omega)])); (try (rw [if_pos (by omega)])); (try go_simp); (try go_ints)
       refine hR _ _ (Ext.refl _) ?_ trivial
       rfl
      ·intro γ w' he hf; clear hf; refine ⟨trivial, ?_⟩; intro R hR
       have hc := he.cells
       go_simp
       (try go_ints); (try (rw [if_neg (by omega)])); (try (rw [if_pos (by omega)])); (try go_simp); (try go_ints)
       refine hR _ _ (Ext.refl _) ?_ trivial
       rfl
      ·intro γ w' he hf; clear hf; refine ⟨trivial, ?_⟩; intro R hR
       have hc := he.cells
       go_simp
       (try go_ints); (try (rw [if_neg (by omega)])); (try (rw [if_pos (by omega)])); (try go_simp); (try go_ints)
       refine hR _ _ (Ext.refl _) ?_ trivial
       rfl
      ·intro γ w' he hf; clear hf; refine ⟨trivial, ?_⟩; intro R hR
       have hc := he.cells
       go_simp
       (try go_ints); (try (rw [if_neg (by omega)])); (try (rw [if_pos (by omega)])); (try go_simp); (try go_ints)
       refine hR _ _ (Ext.refl _) ?_ trivial
       rfl
      ·intro γ w' he hf; clear hf; refine ⟨trivial, ?_⟩; intro R hR
       have hc := he.cells
       have cq0 := he.cell hca
       have cq1 := he.cell hcb
       go_simp
       (try go_ints); (try (rw [if_neg (by omega)])); (try (rw [if_pos (by omega)])); (try go_simp); (try go_ints)
       refine hR _ _ (Ext.refl _) ?_ trivial
       rfl
     case hloc5 =>
      exact ⟨⟨⟨⟨⟨⟨⟨⟨trivial, (fun γ γ' h => ⟨rfl, fun _ => rfl⟩)⟩, (fun γ γ' h => ⟨rfl, fun _ => rfl⟩)⟩, (fun γ γ' h => ⟨rfl, fun _ => rfl⟩)⟩, (fun γ γ' h => ⟨rfl, fun _ => rfl⟩)⟩, (fun γ γ' h => ⟨rfl, fun _ => rfl⟩)⟩, (fun γ γ' h => ⟨rfl, fun _ => rfl⟩)⟩, (fun γ γ' h => ⟨rfl, fun _ => rfl⟩)⟩, (fun γ γ' h => ⟨rfl, fun _ => rfl⟩)⟩
     case hmono5 =>
      exact ⟨⟨⟨⟨⟨⟨⟨⟨trivial, (fun γ wA w' e h => h)⟩, (fun γ wA w' e h => h)⟩, (fun γ wA w' e h => h)⟩, (fun γ wA w' e h => h)⟩, (fun γ wA w' e h => h)⟩, (fun γ wA w' e h => h)⟩, (fun γ wA w' e h => h)⟩, (fun γ wA w' e h => h)⟩
     intro γ w2 hx2 hF
     clear hF
     simp only [fillAll, gV, kv, List.getD_cons_zero, List.getD_cons_succ, Act.put, List.setIfInBounds_toArray, List.set_cons_zero, List.set_cons_succ, List.toList_toArray, List.drop_succ_cons, List.drop_zero, List.drop_nil, Nat.zero_add, Nat.reduceAdd]
     clear γ
     go_wp2
     go_ret
     refine Gives.mk ?_ ((hx.trans hx1).trans hx2)
     have := top_differs hE.1 hA.1 hke (by omega) Hv.out.symm (by rw [Hx.out, Hy.out]; exact hgt)
     exact congrArg Value.bool ((decide_eq_false (by omega)).trans <| (decide_eq_false (by omega)).symm.trans Hb.out.symm)
   ·obtain rfl : k = 0 := by omega
    have q1 : q < 0 := by omega
    have Hq := Lib.hid hq; clear hq
    go_wp2
    go_ret
    refine Gives.mk ?_ hx
    have := Hv.out
    simp only [List.drop_zero] at this
    exact congrArg Value.bool ((decide_eq_false (by omega)).symm.trans Hb.out.symm)
 ·have hb0 : ((ds.length : Int) != es.length) = true := by simp; omega
  have hbl : decide (ds.length < es.length) = bx := by
   rw [Hb.out]
   rcases Nat.lt_or_ge ds.length es.length with h | h
   ·rw [decide_eq_true h, decide_eq_true (top_len_lt hA.1 hte h)]
   ·have := top_len_lt hE.1 htd (show es.length < ds.length by omega)
    rw [decide_eq_false (by omega), decide_eq_false (by omega)]
  have Hbl := Lib.hid hbl; clear hbl
  go_enter Tryz.func131, Tryz.ntmps131
  go_wp2
  go_ret
  exact Gives.mk (by rw [← Hbl.out]; simp) (Ext.refl _)
set_option maxHeartbeats 1000000 in
theorem plus_r (v u : Value) (ds es : List Nat) (w : World) (hv : DigV w v ds) (hu : DigV w u es) (hn : ds.length ≤ 4398046511104) (hm : es.length ≤ 4398046511104) :
  Calls Tryz.prog 129 #[v, u] w (Gives w fun r w' => ∃ l, DigV w' r l ∧ nv l = nv ds + nv es ∧ l.length = max ds.length es.length + 1) := by
 obtain ⟨A, p1, rfl, hl, hc, hA⟩ := hv
 obtain ⟨E, p2, rfl, hl', hc', hE⟩ := hu
 go_enter Tryz.func129, Tryz.ntmps129
 go_wp2
 go_loopw [5, 6, 7] (fun ov cv iv wr => ∃ (k c0 : Nat) (l : List Nat), k ≤ max ds.length es.length ∧ iv = .int .i64 k ∧ cv = .int .u64 c0 ∧ c0 ≤ 1 ∧ l.length = k ∧ OwnD w.heap.size wr ov l ∧ Digs l ∧ nv l + c0 * bp k = nv (ds.take k) + nv (es.take k) ∧ Ext w wr) (fun _ _ iv _ => max ds.length es.length - (intOf iv).toNat)
 case atStart => exact ⟨0, 0, [], Nat.zero_le _, rfl, rfl, Nat.zero_le _, rfl, OwnD.nil _ _, Digs.nil, by simp [nv_nil], Ext.refl _⟩
 case round =>
  obtain ⟨k, c0, l, hk, rfl, rfl, hc0, hll, hown, hdl, hval, hx⟩ := hrel
  have x1 := dg_bound hA.1 k
  have y1 := dg_bound hE.1 k
  have Hl := Lib.hid (And.intro hll (And.intro hdl hval)); clear hll hdl hval
  have Hown := Lib.hid hown; clear hown
  by_cases hkm : k < max ds.length es.length
  ·generalize hxx : dg ds k = x at *
   generalize hyy : dg es k = y at *
   have Hx := Lib.hid (And.intro hxx hyy); clear hxx hyy
   have hsz := hx.size
   by_cases h1 : k < ds.length
   ·obtain ⟨a, rfl, hca⟩ := dig_at hA h1
    rw [Hx.out.1] at hca
    replace hca := hx.cell hca
    by_cases h2 : k < es.length
    ·obtain ⟨b, rfl, hcb⟩ := dig_at hE h2
     rw [Hx.out.2] at hcb
     replace hcb := hx.cell hcb
     go_wp2_with (at_builtin; refine wpList_append_run rfl _ _ 26 rfl u5 (.slice (some ⟨wr.heap.size, 0, none⟩) 1 1) rfl rfl (append_d wr w.heap.size _ _ l ((x + y + c0) % 4294967296) _ _ Hown.out (by omega) (by have := Hl.out.1; omega) hsz rfl) ?_)
     rintro v' w2 hown hg
     replace hx := (Hown.out.alloc _).from_ hg (hx.alloc _) (Nat.le_refl _)
     have Hown' := Lib.hid hown; clear hown hg
     go_wp2
     go_roundw
     case rel => exact ⟨k + 1, (x + y + c0) / 4294967296, _, by omega, by go_num, by go_num, by omega, by simp [Hl.out.1], Hown'.out, Hl.out.2.1.append (Digs.cons (by omega) Digs.nil), by
      rw [nv_snoc, Hl.out.1, nv_take_dg, nv_take_dg, Hx.out.1, Hx.out.2, bp_succ]
      have h := add_step (x := x) (y := y) Hl.out.2.2
      simpa only [Nat.add_zero, Nat.zero_add] using h, hx⟩
     case measure => simp [intOf]; omega
    ·obtain rfl : y = 0 := by rw [← Hx.out.2]; exact dg_ge (by omega)
     go_wp2_with (at_builtin; refine wpList_append_run rfl _ _ 26 rfl u5 (.slice (some ⟨wr.heap.size, 0, none⟩) 1 1) rfl rfl (append_d wr w.heap.size _ _ l ((x + 0 + c0) % 4294967296) _ _ Hown.out (by omega) (by have := Hl.out.1; omega) hsz rfl) ?_)
     rintro v' w2 hown hg
     replace hx := (Hown.out.alloc _).from_ hg (hx.alloc _) (Nat.le_refl _)
     have Hown' := Lib.hid hown; clear hown hg
     go_wp2
     go_roundw
     case rel => exact ⟨k + 1, (x + 0 + c0) / 4294967296, _, by omega, by go_num, by go_num, by omega, by simp [Hl.out.1], Hown'.out, Hl.out.2.1.append (Digs.cons (by omega) Digs.nil), by
      rw [nv_snoc, Hl.out.1, nv_take_dg, nv_take_dg, Hx.out.1, Hx.out.2, bp_succ]
      have h := add_step (x := x) (y := 0) Hl.out.2.2
      simpa only [Nat.add_zero, Nat.zero_add] using h, hx⟩
     case measure => simp [intOf]; omega
   ·obtain rfl : x = 0 := by rw [← Hx.out.1]; exact dg_ge (by omega)
    have h2 : k < es.length := by omega
    obtain ⟨b, rfl, hcb⟩ := dig_at hE h2
    rw [Hx.out.2] at hcb
    replace hcb := hx.cell hcb
    go_wp2_with (at_builtin; refine wpList_append_run rfl _ _ 26 rfl u5 (.slice (some ⟨wr.heap.size, 0, none⟩) 1 1) rfl rfl (append_d wr w.heap.size _ _ l ((0 + y + c0) % 4294967296) _ _ Hown.out (by omega) (by have := Hl.out.1; omega) hsz rfl) ?_)
    rintro v' w2 hown hg
    replace hx := (Hown.out.alloc _).from_ hg (hx.alloc _) (Nat.le_refl _)
    have Hown' := Lib.hid hown; clear hown hg
    go_wp2
    go_roundw
    case rel => exact ⟨k + 1, (0 + y + c0) / 4294967296, _, by omega, by go_num, by go_num, by omega, by simp [Hl.out.1], Hown'.out, Hl.out.2.1.append (Digs.cons (by omega) Digs.nil), by
     rw [nv_snoc, Hl.out.1, nv_take_dg, nv_take_dg, Hx.out.1, Hx.out.2, bp_succ]
     have h := add_step (x := 0) (y := y) Hl.out.2.2
     simpa only [Nat.add_zero, Nat.zero_add] using h, hx⟩
    case measure => simp [intOf]; omega
  ·have hkk : k = max ds.length es.length := by omega
   have h1 : ¬ k < ds.length := by omega
   have h2 : ¬ k < es.length := by omega
   have hsz := hx.size
   have Hkk := Lib.hid hkk; clear hkk
   go_wp2_with (at_builtin; refine wpList_append_run rfl _ _ 26 rfl u5 (.slice (some ⟨wr.heap.size, 0, none⟩) 1 1) rfl rfl (append_d wr w.heap.size _ _ l c0 _ _ Hown.out (by omega) (by have := Hl.out.1; omega) hsz rfl) ?_)
   rintro v' w2 hown hg
   replace hx := (Hown.out.alloc _).from_ hg (hx.alloc _) (Nat.le_refl _)
   have Hown' := Lib.hid hown; clear hown hg
   go_wp2
   go_ret
   refine Gives.mk ⟨_, Hown'.out.digv (Hl.out.2.1.append (Digs.cons (by omega) Digs.nil)), ?_, by rw [List.length_append, Hl.out.1, Hkk.out]; rfl⟩ hx
   have h3 := Hl.out.2.2
   rw [List.take_of_length_le (by omega), List.take_of_length_le (by omega)] at h3
   rw [nv_snoc, Hl.out.1, ← h3, Nat.mul_comm]
end Go.Proofs.YtfacbpnegkjcgaaGreatDoor
namespace Go.Hp
theorem rsub_step {L X Y p c x y b : Nat} (h : L + Y = X + c * p) (hb : c + y ≤ x + b * 4294967296) : L + p * (x + b * 4294967296 - (c + y)) + (Y + p * y) = X + p * x + b * (4294967296 * p) := by
 obtain ⟨D, hD⟩ : ∃ D, x + b * 4294967296 - (c + y) = D := ⟨_, rfl⟩
 rw [hD]
 have h1 : D + c + y = x + b * 4294967296 := by omega
 have h2 : p * D + p * c + p * y = p * x + b * (4294967296 * p) := by
  rw [← Nat.mul_add, ← Nat.mul_add, h1, Nat.mul_add, Nat.mul_left_comm b, ← Nat.mul_assoc p b, Nat.mul_comm p b, Nat.mul_comm (b * p)]
 have h3 : c * p = p * c := Nat.mul_comm _ _
 omega
end Go.Hp
namespace Go.Proofs.YtfacbpnegkjcgaaGreatDoor
open Go.RowKit Go.Hp
set_option maxHeartbeats 1000000 in
theorem minus_r (v u : Value) (ds es : List Nat) (w : World) (hv : DigV w v ds) (hu : DigV w u es) (hn : ds.length ≤ 4398046511104) (hm : es.length ≤ ds.length) (hle : nv es ≤ nv ds) :
  Calls Tryz.prog 132 #[v, u] w (Gives w fun r w' => ∃ l, DigV w' r l ∧ nv l = nv ds - nv es ∧ l.length = ds.length) := by
 obtain ⟨A, p1, rfl, hl, hc, hA⟩ := hv
 obtain ⟨E, p2, rfl, hl', hc', hE⟩ := hu
 have Hle := Lib.hid hle; clear hle
 go_enter Tryz.func132, Tryz.ntmps132
 go_wp2
 go_loopw [5, 6, 7] (fun ov cv iv wr => ∃ (k c0 : Nat) (l : List Nat), k ≤ ds.length ∧ iv = .int .i64 k ∧ cv = .int .u64 c0 ∧ c0 ≤ 1 ∧ l.length = k ∧ OwnD w.heap.size wr ov l ∧ Digs l ∧ nv l + nv (es.take k) = nv (ds.take k) + c0 * bp k ∧ Ext w wr) (fun _ _ iv _ => ds.length - (intOf iv).toNat)
 case atStart => exact ⟨0, 0, [], Nat.zero_le _, rfl, rfl, Nat.zero_le _, rfl, OwnD.nil _ _, Digs.nil, by simp [nv_nil], Ext.refl _⟩
 case round =>
  obtain ⟨k, c0, l, hk, rfl, rfl, hc0, hll, hown, hdl, hval, hx⟩ := hrel
  have x1 := dg_bound hA.1 k
  have y1 := dg_bound hE.1 k
  have Hl := Lib.hid (And.intro hll (And.intro hdl hval)); clear hll hdl hval
  have Hown := Lib.hid hown; clear hown
  by_cases hkm : k < ds.length
  ·generalize hxx : dg ds k = x at *
   generalize hyy : dg es k = y at *
   have Hx := Lib.hid (And.intro hxx hyy); clear hxx hyy
   have hsz := hx.size
   obtain ⟨a, rfl, hca⟩ := dig_at hA hkm
   rw [Hx.out.1] at hca
   replace hca := hx.cell hca
   by_cases h2 : k < es.length
   ·obtain ⟨b, rfl, hcb⟩ := dig_at hE h2
    rw [Hx.out.2] at hcb
    replace hcb := hx.cell hcb
    by_cases hlt : x < c0 + y
    ·skip
     have hd : x + 4294967296 - (c0 + y) < 4294967296 := by omega
     go_wp2_with (at_builtin; refine wpList_append_run rfl _ _ 26 rfl u5 (.slice (some ⟨wr.heap.size, 0, none⟩) 1 1) rfl rfl (append_d wr w.heap.size _ _ l (x + 4294967296 - (c0 + y)) _ _ Hown.out (by omega) (by have := Hl.out.1; omega) hsz rfl) ?_)
     rintro v' w2 hown hg
     replace hx := (Hown.out.alloc _).from_ hg (hx.alloc _) (Nat.le_refl _)
     have Hown' := Lib.hid hown; clear hown hg
     go_wp2
     go_roundw
     case rel => exact ⟨k + 1, 1, _, by omega, by go_num, by go_num, by omega, by simp [Hl.out.1], Hown'.out, Hl.out.2.1.append (Digs.cons hd Digs.nil), by
      rw [nv_snoc, Hl.out.1, nv_take_dg, nv_take_dg, Hx.out.1, Hx.out.2, bp_succ]
      have h := rsub_step (x := x) (y := y) (c := c0) (b := 1) Hl.out.2.2 (by omega)
      have e : x + 1 * 4294967296 - (c0 + y) = x + 4294967296 - (c0 + y) := by omega
      rw [e] at h
      exact h, hx⟩
     case measure => simp [intOf]; omega
    ·skip
     have hd : x - (c0 + y) < 4294967296 := by omega
     go_wp2_with (at_builtin; refine wpList_append_run rfl _ _ 26 rfl u5 (.slice (some ⟨wr.heap.size, 0, none⟩) 1 1) rfl rfl (append_d wr w.heap.size _ _ l (x - (c0 + y)) _ _ Hown.out (by omega) (by have := Hl.out.1; omega) hsz rfl) ?_)
     rintro v' w2 hown hg
     replace hx := (Hown.out.alloc _).from_ hg (hx.alloc _) (Nat.le_refl _)
     have Hown' := Lib.hid hown; clear hown hg
     go_wp2
     go_roundw
     case rel => exact ⟨k + 1, 0, _, by omega, by go_num, by go_num, by omega, by simp [Hl.out.1], Hown'.out, Hl.out.2.1.append (Digs.cons hd Digs.nil), by
      rw [nv_snoc, Hl.out.1, nv_take_dg, nv_take_dg, Hx.out.1, Hx.out.2, bp_succ]
      have h := rsub_step (x := x) (y := y) (c := c0) (b := 0) Hl.out.2.2 (by omega)
      have e : x + 0 * 4294967296 - (c0 + y) = x - (c0 + y) := by omega
      rw [e] at h
      exact h, hx⟩
     case measure => simp [intOf]; omega
   ·obtain hy0 : y = 0 := by rw [← Hx.out.2]; exact dg_ge (by omega)
    by_cases hlt : x < c0
    ·skip
     have hd : x + 4294967296 - c0 < 4294967296 := by omega
     go_wp2_with (at_builtin; refine wpList_append_run rfl _ _ 26 rfl u5 (.slice (some ⟨wr.heap.size, 0, none⟩) 1 1) rfl rfl (append_d wr w.heap.size _ _ l (x + 4294967296 - c0) _ _ Hown.out (by omega) (by have := Hl.out.1; omega) hsz rfl) ?_)
     rintro v' w2 hown hg
     replace hx := (Hown.out.alloc _).from_ hg (hx.alloc _) (Nat.le_refl _)
     have Hown' := Lib.hid hown; clear hown hg
     go_wp2
     go_roundw
     case rel => exact ⟨k + 1, 1, _, by omega, by go_num, by go_num, by omega, by simp [Hl.out.1], Hown'.out, Hl.out.2.1.append (Digs.cons hd Digs.nil), by
      rw [nv_snoc, Hl.out.1, nv_take_dg, nv_take_dg, Hx.out.1, Hx.out.2, bp_succ]
      have h := rsub_step (x := x) (y := y) (c := c0) (b := 1) Hl.out.2.2 (by omega)
      have e : x + 1 * 4294967296 - (c0 + y) = x + 4294967296 - c0 := by omega
      rw [e] at h
      exact h, hx⟩
     case measure => simp [intOf]; omega
    ·skip
     have hd : x - c0 < 4294967296 := by omega
     go_wp2_with (at_builtin; refine wpList_append_run rfl _ _ 26 rfl u5 (.slice (some ⟨wr.heap.size, 0, none⟩) 1 1) rfl rfl (append_d wr w.heap.size _ _ l (x - c0) _ _ Hown.out (by omega) (by have := Hl.out.1; omega) hsz rfl) ?_)
     rintro v' w2 hown hg
     replace hx := (Hown.out.alloc _).from_ hg (hx.alloc _) (Nat.le_refl _)
     have Hown' := Lib.hid hown; clear hown hg
     go_wp2
     go_roundw
     case rel => exact ⟨k + 1, 0, _, by omega, by go_num, by go_num, by omega, by simp [Hl.out.1], Hown'.out, Hl.out.2.1.append (Digs.cons hd Digs.nil), by
      rw [nv_snoc, Hl.out.1, nv_take_dg, nv_take_dg, Hx.out.1, Hx.out.2, bp_succ]
      have h := rsub_step (x := x) (y := y) (c := c0) (b := 0) Hl.out.2.2 (by omega)
      have e : x + 0 * 4294967296 - (c0 + y) = x - c0 := by omega
      rw [e] at h
      exact h, hx⟩
     case measure => simp [intOf]; omega
  ·obtain rfl : k = ds.length := by omega
   go_wp2
   go_ret
   refine Gives.mk ⟨l, Hown.out.digv Hl.out.2.1, ?_, Hl.out.1⟩ hx
   have h3 := Hl.out.2.2
   have h4 := nv_lt Hl.out.2.1
   rw [Hl.out.1] at h4
   rw [List.take_of_length_le (Nat.le_refl _), List.take_of_length_le hm] at h3
   have h5 := Hle.out
   rcases Nat.eq_zero_or_pos c0 with e | e
   ·subst e
    omega
   ·obtain rfl : c0 = 1 := by omega
    omega
end Go.Proofs.YtfacbpnegkjcgaaGreatDoor
namespace Go.Hp
open Go.RowKit
theorem IsZ.nat {w : World} {A : Option Addr} {n c : Nat} {b : Bool} {x : Int} (h : IsZ w (.agg #[.bool b, .slice A n c]) x) : NatV w (.slice A n c) x.natAbs := by
 obtain ⟨A', c', e, _, _, k⟩ := h.form
 simp only [Value.agg.injEq, Array.mk.injEq, List.cons.injEq, Value.slice.injEq] at e
 obtain ⟨_, ⟨rfl, rfl, rfl⟩, _⟩ := e
 exact k
end Go.Hp
namespace Go.Proofs.YtfacbpnegkjcgaaGreatDoor
open Go.RowKit Go.Hp
theorem below_num (v u : Value) (N M : Nat) (w : World) (hv : NatV w v N) (hu : NatV w u M) : Calls Tryz.prog 131 #[v, u] w (Gives w fun r _ => r = .bool (decide (N < M))) := by
 obtain ⟨ds, hd, rfl, ht⟩ := hv
 obtain ⟨es, he, rfl, ht'⟩ := hu
 exact below_r v u ds es w hd he ht ht'
theorem plus_rn (v u : Value) (N M l m : Nat) (w : World) (hv : NumV w v N l) (hu : NumV w u M m) (hn : l ≤ 1099511627776) (hm : m ≤ 1099511627776) :
  Calls Tryz.prog 129 #[v, u] w (Gives w fun r w' => NumV w' r (N + M) (max l m + 1)) := by
 obtain ⟨ds, hd, rfl, hl⟩ := hv
 obtain ⟨es, he, rfl, hl'⟩ := hu
 exact Gives.imp (plus_r v u ds es w hd he (by omega) (by omega)) fun _ _ ⟨k, h1, h2, h3⟩ => ⟨k, h1, h2, by omega⟩
theorem minus_rn (v u : Value) (N M : Nat) (w : World) (hv : NatV w v N) (hu : NatV w u M) (hle : M ≤ N) (hn : sz N ≤ 1099511627776) :
  Calls Tryz.prog 132 #[v, u] w (Gives w fun r w' => NumV w' r (N - M) (sz N)) := by
 obtain ⟨ds, hd, hN, ht, hl⟩ := hv.len
 obtain ⟨es, he, hM, ht', hl'⟩ := hu.len
 subst hN hM
 exact Gives.imp (minus_r v u ds es w hd he (by omega) (by rw [hl, hl']; exact sz_mono hle) hle) fun _ _ ⟨k, h1, h2, h3⟩ => ⟨k, h1, h2, by omega⟩
set_option maxHeartbeats 1000000 in
theorem add_r (v u : Value) (x y : Int) (w : World) (hv : HasZ w v x) (hu : HasZ w u y) (sx : sz x.natAbs ≤ 549755813888) (sy : sz y.natAbs ≤ 549755813888) : Calls Tryz.prog 87 #[v, u] w (Gives w fun r w' => IsZ w' r (x + y)) := by
 have HV := Lib.hid hv; have HU := Lib.hid hu
 obtain ⟨neg, A, n, c, N, rfl, -, -, -, -, -⟩ := hv.form
 obtain ⟨neg', A', n', c', M, rfl, -, -, -, -, -⟩ := hu.form
 clear hv hu
 go_enter Tryz.func87, Tryz.ntmps87
 go_wp2_with fail
 refine wp_region_apart (k := 6) (D := [7, 8, 9, 10, 5, 6]) (T := [[], [0], [], [0, 1, 2], [], [], [0, 1, 2, 3, 4, 5], [0, 1, 2, 3, 4, 5, 6]]) (EK := [2, 3]) (EV := [?e1x0, ?e1x1]) (VL := [(kv ?v1x0), (fun γ => γ 1), (kv ?v1x2), (fun γ => γ 3), (fun γ => γ 4), (fun γ => γ 5)]) (FL := fun γ w' => [True, IsZ w' (γ 1) x, True, IsZ w' (γ 3) y, NewAt w' (γ 4) (w.heap.size + 3) #[.bool false, .slice none 0 0] 28, NewAt w' (γ 5) (w.heap.size + 3) #[.bool false, .slice none 0 0] 28]) ?hE1 (by kernel_rfl) (by kernel_rfl) (by rfl) (by kernel_rfl) ?hloc1 ?hmono1 ?hstep1 ?htail1
 case hE1 => refine ⟨?_, ?_, trivial⟩ <;> (simp only [List.getElem?_toArray, List.getElem?_cons_succ, List.getElem?_cons_zero]; rfl)
 case hstep1 =>
  refine ⟨⟨⟨⟨⟨⟨trivial, ?_⟩, ?_⟩, ?_⟩, ?_⟩, ?_⟩, ?_⟩
  ·intro γ w' he hf; clear hf; refine ⟨trivial, ?_⟩; intro R hR
   have hc := he.cells
   go_simp
   (try go_ints); (try (rw [if_neg (by omega)])); (try (rw [if_pos (by omega)])); (try go_simp); (try go_ints)
   refine hR _ _ (Ext.refl _) ?_ trivial
   rfl
  ·intro γ w' he hf; clear hf; refine ⟨trivial, ?_⟩; intro R hR
   go_simp
   refine Calls.mono (show Calls _ _ _ w' (Gives w' fun r w'' => IsZ w'' (r) x) from norm_r _ x w' (HV.out.ext he.a3)) ?_
   rintro e w2 ⟨v, rfl, hv, hx⟩
   exact ⟨v, rfl, hR v w2 hx rfl hv⟩
  ·intro γ w' he hf; clear hf; refine ⟨trivial, ?_⟩; intro R hR
   have hc := he.cells
   go_simp
   (try go_ints); (try (rw [if_neg (by omega)])); (try (rw [if_pos (by omega)])); (try go_simp); (try go_ints)
   refine hR _ _ (Ext.refl _) ?_ trivial
   rfl
  ·intro γ w' he hf; have f1 : IsZ w' (γ 1) x := hf 1 (by decide); clear hf; refine ⟨trivial, ?_⟩; intro R hR
   go_simp
   refine Calls.mono (show Calls _ _ _ w' (Gives w' fun r w'' => IsZ w'' (r) y) from norm_r _ y w' (HU.out.ext he.a3)) ?_
   rintro e w2 ⟨v, rfl, hv, hx⟩
   exact ⟨v, rfl, hR v w2 hx rfl hv⟩
  ·intro γ w' he hf; clear hf; refine ⟨trivial, ?_⟩; intro R hR
   go_simp
   exact hR _ _ ((Ext.refl _).alloc _) rfl (NewAt.mk (Nat.le_trans (by simp) he.size) (by simp [isDig]))
  ·intro γ w' he hf; clear hf; refine ⟨trivial, ?_⟩; intro R hR
   go_simp
   exact hR _ _ ((Ext.refl _).alloc _) rfl (NewAt.mk (Nat.le_trans (by simp) he.size) (by simp [isDig]))
 case hloc1 =>
  exact ⟨⟨⟨⟨⟨⟨trivial, (fun γ γ' h => ⟨rfl, fun _ => rfl⟩)⟩, (fun γ γ' h => ⟨h 1 rfl, fun w' => (congrArg (fun a => IsZ w' (a) x) (h 1 rfl))⟩)⟩, (fun γ γ' h => ⟨rfl, fun _ => rfl⟩)⟩, (fun γ γ' h => ⟨h 3 rfl, fun w' => (congrArg (fun a => IsZ w' (a) y) (h 3 rfl))⟩)⟩, (fun γ γ' h => ⟨h 4 rfl, fun w' => (congrArg (fun a => NewAt w' (a) (w.heap.size + 3) #[.bool false, .slice none 0 0] 28) (h 4 rfl))⟩)⟩, (fun γ γ' h => ⟨h 5 rfl, fun w' => (congrArg (fun a => NewAt w' (a) (w.heap.size + 3) #[.bool false, .slice none 0 0] 28) (h 5 rfl))⟩)⟩
 case hmono1 =>
  exact ⟨⟨⟨⟨⟨⟨trivial, (fun γ wA w' e h => h)⟩, (fun γ wA w' e h => (show IsZ wA (γ 1) x from h).ext e)⟩, (fun γ wA w' e h => h)⟩, (fun γ wA w' e h => (show IsZ wA (γ 3) y from h).ext e)⟩, (fun γ wA w' e h => (show NewAt wA (γ 4) (w.heap.size + 3) #[.bool false, .slice none 0 0] 28 from h).ext e)⟩, (fun γ wA w' e h => (show NewAt wA (γ 5) (w.heap.size + 3) #[.bool false, .slice none 0 0] 28 from h).ext e)⟩
 intro γ w1 hx1 hF hA
 have na4x5 : γ 4 ≠ γ 5 := hA 4 5 (by decide) (by decide) (by decide) ⟨_, _, rfl, rfl⟩ ⟨_, _, rfl, rfl⟩
 clear hA
 have p1 : IsZ w1 (γ 1) x := Each.get hF 1 (by decide)
 have p3 : IsZ w1 (γ 3) y := Each.get hF 3 (by decide)
 have p4 : NewAt w1 (γ 4) (w.heap.size + 3) #[.bool false, .slice none 0 0] 28 := Each.get hF 4 (by decide)
 have p5 : NewAt w1 (γ 5) (w.heap.size + 3) #[.bool false, .slice none 0 0] 28 := Each.get hF 5 (by decide)
 clear hF
 simp only [fillAll, gV, kv, List.getD_cons_zero, List.getD_cons_succ, Act.put, List.setIfInBounds_toArray, List.set_cons_zero, List.set_cons_succ, List.toList_toArray, List.drop_succ_cons, List.drop_zero, List.drop_nil, Nat.zero_add, Nat.reduceAdd]
 generalize γ 1 = g1 at *
 generalize γ 3 = g3 at *
 generalize γ 4 = g4 at *
 generalize γ 5 = g5 at *
 clear γ
 obtain ⟨ga, rfl, hga, ea⟩ := p4
 obtain ⟨gb, rfl, hgb, eb⟩ := p5
 have hab : ga ≠ gb := fun e => na4x5 (by rw [e])
 clear na4x5
 obtain ⟨A1, c1, rfl, q1, q2, -⟩ := p1.form
 obtain ⟨A2, c2, rfl, q3, q4, -⟩ := p3.form
 obtain ⟨bx, hbx⟩ : ∃ b, b = decide (x < 0) := ⟨_, rfl⟩
 obtain ⟨by_, hby⟩ : ∃ b, b = decide (y < 0) := ⟨_, rfl⟩
 rw [← hbx] at p1 ⊢
 rw [← hby] at p3 ⊢
 have Hb := Lib.hid (And.intro hbx hby); clear hbx hby
 obtain ⟨cea0, cea1⟩ := ea.cells2
 have fea := ea.frozen
 obtain ⟨ceb0, ceb1⟩ := eb.cells2
 have feb := eb.frozen
 go_upto_region 2 with (fail)
 obtain ⟨W1, eW, ea', U⟩ := ea.put2 (.bool bx) (.slice A1 (sz x.natAbs) c1) rfl rfl
 rw [← eW]
 clear eW ea
 replace p1 := p1.kd U.kd
 replace p3 := p3.kd U.kd
 replace eb := eb.upd U (by simp <;> omega)
 replace hx1 := U.from_ hx1 (by simp <;> omega)
 have ea := ea'
 clear U ea'
 obtain ⟨W2, eW, eb', U⟩ := eb.put2 (.bool by_) (.slice A2 (sz y.natAbs) c2) rfl rfl
 rw [← eW]
 clear eW eb
 replace p1 := p1.kd U.kd
 replace p3 := p3.kd U.kd
 replace ea := ea.upd U (by simp <;> omega)
 replace hx1 := U.from_ hx1 (by simp <;> omega)
 have eb := eb'
 clear U eb'
 clear cea0 cea1 ceb0 ceb1 fea feb
 obtain ⟨cea0, cea1⟩ := ea.cells2
 have fea := ea.frozen
 obtain ⟨ceb0, ceb1⟩ := eb.cells2
 have feb := eb.frozen
 have hc1 := hx1.cells
 have hf1 := hx1.frozens
 replace p1 := p1.nat; replace p3 := p3.nat
 by_cases hs : bx = by_
 ·subst hs
  have hb : (bx == bx) = true := by simp
  go_wp2_with fail
  refine wp_region_par (k := 7) (D := [16, 17, 18, 19, 20, 21, 22]) (T := [[], [0], [], [2], [], [4], [2, 3, 4, 5], [0, 1, 2, 3, 4, 5, 6], [0, 1, 2, 3, 4, 5, 6, 7]]) (EK := [5, 6]) (EV := [?e2x0, ?e2x1]) (VL := [(kv ?v2x0), (kv ?v2x1), (kv ?v2x2), (kv ?v2x3), (kv ?v2x4), (kv ?v2x5), (fun γ => γ 6)]) (FL := fun γ w' => [True, True, True, True, True, True, NumV w' (γ 6) (x.natAbs + y.natAbs) (max (sz x.natAbs) (sz y.natAbs) + 1)]) ?hE2 (by kernel_rfl) (by kernel_rfl) (by rfl) (by kernel_rfl) ?hloc2 ?hmono2 ?hstep2 ?htail2
  case hE2 => refine ⟨?_, ?_, trivial⟩ <;> (simp only [List.getElem?_toArray, List.getElem?_cons_succ, List.getElem?_cons_zero]; rfl)
  case hstep2 =>
   refine ⟨⟨⟨⟨⟨⟨⟨trivial, ?_⟩, ?_⟩, ?_⟩, ?_⟩, ?_⟩, ?_⟩, ?_⟩
   ·intro γ w' he hf; clear hf; refine ⟨trivial, ?_⟩; intro R hR
    have hc := he.cells
    go_simp
    (try go_ints); (try (rw [if_neg (by omega)])); (try (rw [if_pos (by omega)])); (try go_simp); (try go_ints)
    refine hR _ _ (Ext.refl _) ?_ trivial
    rfl
   ·intro γ w' he hf; clear hf; refine ⟨trivial, ?_⟩; intro R hR
    have hc := he.cells
    have cq0 := he.cell cea0
    have cq1 := he.cell cea1
    have cq2 := he.cell ceb0
    have cq3 := he.cell ceb1
    go_simp
    (try go_ints); (try (rw [if_neg (by omega)])); (try (rw [if_pos (by omega)])); (try go_simp); (try go_ints)
    refine hR _ _ (Ext.refl _) ?_ trivial
    rfl
   ·intro γ w' he hf; clear hf; refine ⟨trivial, ?_⟩; intro R hR
    have hc := he.cells
    go_simp
    (try go_ints); (try (rw [if_neg (by omega)])); (try (rw [if_pos (by omega)])); (try go_simp); (try go_ints)
    refine hR _ _ (Ext.refl _) ?_ trivial
    rfl
   ·intro γ w' he hf; clear hf; refine ⟨trivial, ?_⟩; intro R hR
    have hc := he.cells
    have cq0 := he.cell cea0
    have cq1 := he.cell cea1
    have cq2 := he.cell ceb0
    have cq3 := he.cell ceb1
    go_simp
    (try go_ints); (try (rw [if_neg (by omega)])); (try (rw [if_pos (by omega)])); (try go_simp); (try go_ints)
    refine hR _ _ (Ext.refl _) ?_ trivial
    rfl
   ·intro γ w' he hf; clear hf; refine ⟨trivial, ?_⟩; intro R hR
    have hc := he.cells
    go_simp
    (try go_ints); (try (rw [if_neg (by omega)])); (try (rw [if_pos (by omega)])); (try go_simp); (try go_ints)
    refine hR _ _ (Ext.refl _) ?_ trivial
    rfl
   ·intro γ w' he hf; clear hf; refine ⟨trivial, ?_⟩; intro R hR
    have hc := he.cells
    have cq0 := he.cell cea0
    have cq1 := he.cell cea1
    have cq2 := he.cell ceb0
    have cq3 := he.cell ceb1
    go_simp
    (try go_ints); (try (rw [if_neg (by omega)])); (try (rw [if_pos (by omega)])); (try go_simp); (try go_ints)
    refine hR _ _ (Ext.refl _) ?_ trivial
    rfl
   ·intro γ w' he hf; clear hf; refine ⟨trivial, ?_⟩; intro R hR
    go_simp
    refine Calls.mono (show Calls _ _ _ w' (Gives w' fun r w'' => NumV w'' (r) (x.natAbs + y.natAbs) (max (sz x.natAbs) (sz y.natAbs) + 1)) from plus_rn _ _ _ _ _ _ w' ((p1.ext he).num (Nat.le_refl _)) ((p3.ext he).num (Nat.le_refl _)) (by omega) (by omega)) ?_
    rintro e w2 ⟨v, rfl, hv, hx⟩
    exact ⟨v, rfl, hR v w2 hx rfl hv⟩
  case hloc2 =>
   exact ⟨⟨⟨⟨⟨⟨⟨trivial, (fun γ γ' h => ⟨rfl, fun _ => rfl⟩)⟩, (fun γ γ' h => ⟨rfl, fun _ => rfl⟩)⟩, (fun γ γ' h => ⟨rfl, fun _ => rfl⟩)⟩, (fun γ γ' h => ⟨rfl, fun _ => rfl⟩)⟩, (fun γ γ' h => ⟨rfl, fun _ => rfl⟩)⟩, (fun γ γ' h => ⟨rfl, fun _ => rfl⟩)⟩, (fun γ γ' h => ⟨h 6 rfl, fun w' => (congrArg (fun a => NumV w' (a) (x.natAbs + y.natAbs) (max (sz x.natAbs) (sz y.natAbs) + 1)) (h 6 rfl))⟩)⟩
  case hmono2 =>
   exact ⟨⟨⟨⟨⟨⟨⟨trivial, (fun γ wA w' e h => h)⟩, (fun γ wA w' e h => h)⟩, (fun γ wA w' e h => h)⟩, (fun γ wA w' e h => h)⟩, (fun γ wA w' e h => h)⟩, (fun γ wA w' e h => h)⟩, (fun γ wA w' e h => (show NumV wA (γ 6) (x.natAbs + y.natAbs) (max (sz x.natAbs) (sz y.natAbs) + 1) from h).ext e)⟩
  intro γ w3 hx3 hF
  have p6 : NumV w3 (γ 6) (x.natAbs + y.natAbs) (max (sz x.natAbs) (sz y.natAbs) + 1) := Each.get hF 6 (by decide)
  clear hF
  simp only [fillAll, gV, kv, List.getD_cons_zero, List.getD_cons_succ, Act.put, List.setIfInBounds_toArray, List.set_cons_zero, List.set_cons_succ, List.toList_toArray, List.drop_succ_cons, List.drop_zero, List.drop_nil, Nat.zero_add, Nat.reduceAdd]
  generalize γ 6 = g6 at *
  clear γ
  go_wp2_with fail
  refine Calls.mono (signed_r (x + y) bx _ _ _ _ (by have h1 := Hb.out.1; have h2 := Hb.out.2; rw [h1] at h2 ⊢; by_cases e1 : x < 0 <;> by_cases e2 : y < 0 <;> simp [e1, e2] at h2 ⊢ <;> omega) p6 (by omega)) ?_
  rintro e w4 ⟨r, rfl, hr, hx4⟩
  clear hc1 hf1 p6
  replace hx1 := (hx1.trans hx3).trans hx4
  obtain ⟨b5, A5, n5, c5, rfl⟩ := hr.cells
  have hc1 := hx1.cells
  have hf1 := hx1.frozens
  have Hfin := Lib.hid (fin_z hr hx1.a3 (NoDig.at_ hx1 (g := w.heap.size + 2) (by simp) (by simp [isDig])) (by omega))
  clear hr
  go_wp2
  refine bodyPost_ret (v := .agg #[.bool b5, .slice A5 n5 c5]) (by simp [results, Tryz.results87, go_sem, hc1]) rfl ?_
  exact Hfin.out
 ·have hb : (bx == by_) = false := by simpa using hs
  go_wp2_with fail
  refine Calls.mono (below_num _ _ _ _ _ p1 p3) ?_
  rintro e w3 ⟨r, rfl, rfl, hx3⟩
  clear hc1 hf1 hb cea0 cea1 ceb0 ceb1 fea feb
  replace hx1 := hx1.trans hx3
  replace p1 := p1.ext hx3; replace p3 := p3.ext hx3
  replace ea := ea.ext hx3; replace eb := eb.ext hx3
  clear hx3
  have hc1 := hx1.cells
  have hf1 := hx1.frozens
  obtain ⟨cea0, cea1⟩ := ea.cells2
  have fea := ea.frozen
  obtain ⟨ceb0, ceb1⟩ := eb.cells2
  have feb := eb.frozen
  by_cases hlt : x.natAbs < y.natAbs
  ·have hb2 : decide (x.natAbs < y.natAbs) = true := by simpa using hlt
   go_wp2_with fail
   refine wp_region_par (k := 7) (D := [29, 30, 31, 32, 33, 34, 35]) (T := [[], [0], [], [2], [], [4], [2, 3, 4, 5], [0, 1, 2, 3, 4, 5, 6], [0, 1, 2, 3, 4, 5, 6, 7]]) (EK := [6, 5]) (EV := [?e3x0, ?e3x1]) (VL := [(kv ?v3x0), (kv ?v3x1), (kv ?v3x2), (kv ?v3x3), (kv ?v3x4), (kv ?v3x5), (fun γ => γ 6)]) (FL := fun γ w' => [True, True, True, True, True, True, NumV w' (γ 6) (y.natAbs - x.natAbs) (sz y.natAbs)]) ?hE3 (by kernel_rfl) (by kernel_rfl) (by rfl) (by kernel_rfl) ?hloc3 ?hmono3 ?hstep3 ?htail3
   case hE3 => refine ⟨?_, ?_, trivial⟩ <;> (simp only [List.getElem?_toArray, List.getElem?_cons_succ, List.getElem?_cons_zero]; rfl)
   case hstep3 =>
    refine ⟨⟨⟨⟨⟨⟨⟨trivial, ?_⟩, ?_⟩, ?_⟩, ?_⟩, ?_⟩, ?_⟩, ?_⟩
    ·intro γ w' he hf; clear hf; refine ⟨trivial, ?_⟩; intro R hR
     have hc := he.cells
     go_simp
     (try go_ints); (try (rw [if_neg (by omega)])); (try (rw [if_pos (by omega)])); (try go_simp); (try go_ints)
     refine hR _ _ (Ext.refl _) ?_ trivial
     rfl
    ·intro γ w' he hf; clear hf; refine ⟨trivial, ?_⟩; intro R hR
     have hc := he.cells
     have cq0 := he.cell cea0
     have cq1 := he.cell cea1
     have cq2 := he.cell ceb0
     have cq3 := he.cell ceb1
     go_simp
     (try go_ints); (try (rw [if_neg (by omega)])); (try (rw [if_pos (by omega)])); (try go_simp); (try go_ints)
     refine hR _ _ (Ext.refl _) ?_ trivial
     rfl
    ·intro γ w' he hf; clear hf; refine ⟨trivial, ?_⟩; intro R hR
     have hc := he.cells
     go_simp
     (try go_ints); (try (rw [if_neg (by omega)])); (try (rw [if_pos (by omega)])); (try go_simp); (try go_ints)
     refine hR _ _ (Ext.refl _) ?_ trivial
     rfl
    ·intro γ w' he hf; clear hf; refine ⟨trivial, ?_⟩; intro R hR
     have hc := he.cells
     have cq0 := he.cell cea0
     have cq1 := he.cell cea1
     have cq2 := he.cell ceb0
     have cq3 := he.cell ceb1
     go_simp
     (try go_ints); (try (rw [if_neg (by omega)])); (try (rw [if_pos (by omega)])); (try go_simp); (try go_ints)
     refine hR _ _ (Ext.refl _) ?_ trivial
     rfl
    ·intro γ w' he hf; clear hf; refine ⟨trivial, ?_⟩; intro R hR
     have hc := he.cells
     go_simp
     (try go_ints); (try (rw [if_neg (by omega)])); (try (rw [if_pos (by omega)])); (try go_simp); (try go_ints)
     refine hR _ _ (Ext.refl _) ?_ trivial
     rfl
    ·intro γ w' he hf; clear hf; refine ⟨trivial, ?_⟩; intro R hR
     have hc := he.cells
     have cq0 := he.cell cea0
     have cq1 := he.cell cea1
     have cq2 := he.cell ceb0
     have cq3 := he.cell ceb1
     go_simp
     (try go_ints); (try (rw [if_neg (by omega)])); (try (rw [if_pos (by omega)])); (try go_simp); (try go_ints)
     refine hR _ _ (Ext.refl _) ?_ trivial
     rfl
    ·intro γ w' he hf; clear hf; refine ⟨trivial, ?_⟩; intro R hR
     go_simp
     refine Calls.mono (show Calls _ _ _ w' (Gives w' fun r w'' => NumV w'' (r) (y.natAbs - x.natAbs) (sz y.natAbs)) from minus_rn _ _ _ _ w' (p3.ext he) (p1.ext he) (by omega) (by omega)) ?_
     rintro e w2 ⟨v, rfl, hv, hx⟩
     exact ⟨v, rfl, hR v w2 hx rfl hv⟩
   case hloc3 =>
    exact ⟨⟨⟨⟨⟨⟨⟨trivial, (fun γ γ' h => ⟨rfl, fun _ => rfl⟩)⟩, (fun γ γ' h => ⟨rfl, fun _ => rfl⟩)⟩, (fun γ γ' h => ⟨rfl, fun _ => rfl⟩)⟩, (fun γ γ' h => ⟨rfl, fun _ => rfl⟩)⟩, (fun γ γ' h => ⟨rfl, fun _ => rfl⟩)⟩, (fun γ γ' h => ⟨rfl, fun _ => rfl⟩)⟩, (fun γ γ' h => ⟨h 6 rfl, fun w' => (congrArg (fun a => NumV w' (a) (y.natAbs - x.natAbs) (sz y.natAbs)) (h 6 rfl))⟩)⟩
   case hmono3 =>
    exact ⟨⟨⟨⟨⟨⟨⟨trivial, (fun γ wA w' e h => h)⟩, (fun γ wA w' e h => h)⟩, (fun γ wA w' e h => h)⟩, (fun γ wA w' e h => h)⟩, (fun γ wA w' e h => h)⟩, (fun γ wA w' e h => h)⟩, (fun γ wA w' e h => (show NumV wA (γ 6) (y.natAbs - x.natAbs) (sz y.natAbs) from h).ext e)⟩
   intro γ w4 hx4 hF
   have p6 : NumV w4 (γ 6) (y.natAbs - x.natAbs) (sz y.natAbs) := Each.get hF 6 (by decide)
   clear hF
   simp only [fillAll, gV, kv, List.getD_cons_zero, List.getD_cons_succ, Act.put, List.setIfInBounds_toArray, List.set_cons_zero, List.set_cons_succ, List.toList_toArray, List.drop_succ_cons, List.drop_zero, List.drop_nil, Nat.zero_add, Nat.reduceAdd]
   generalize γ 6 = g6 at *
   clear γ
   go_wp2_with fail
   refine Calls.mono (signed_r (x + y) by_ _ _ _ _ (by have h1 := Hb.out.1; have h2 := Hb.out.2; rw [h2]; rw [h1, h2] at hs; by_cases e1 : x < 0 <;> by_cases e2 : y < 0 <;> simp [e1, e2] at hs ⊢ <;> omega) p6 (by omega)) ?_
   rintro e w5 ⟨r, rfl, hr, hx5⟩
   clear hc1 hf1 p6
   replace hx1 := (hx1.trans hx4).trans hx5
   obtain ⟨b5, A5, n5, c5, rfl⟩ := hr.cells
   have hc1 := hx1.cells
   have hf1 := hx1.frozens
   have Hfin := Lib.hid (fin_z hr hx1.a3 (NoDig.at_ hx1 (g := w.heap.size + 2) (by simp) (by simp [isDig])) (by omega))
   clear hr
   go_wp2
   refine bodyPost_ret (v := .agg #[.bool b5, .slice A5 n5 c5]) (by simp [results, Tryz.results87, go_sem, hc1]) rfl ?_
   exact Hfin.out
  ·have hb2 : decide (x.natAbs < y.natAbs) = false := by simpa using hlt
   go_wp2_with fail
   refine wp_region_par (k := 7) (D := [37, 38, 39, 40, 41, 42, 43]) (T := [[], [0], [], [2], [], [4], [2, 3, 4, 5], [0, 1, 2, 3, 4, 5, 6], [0, 1, 2, 3, 4, 5, 6, 7]]) (EK := [5, 6]) (EV := [?e4x0, ?e4x1]) (VL := [(kv ?v4x0), (kv ?v4x1), (kv ?v4x2), (kv ?v4x3), (kv ?v4x4), (kv ?v4x5), (fun γ => γ 6)]) (FL := fun γ w' => [True, True, True, True, True, True, NumV w' (γ 6) (x.natAbs - y.natAbs) (sz x.natAbs)]) ?hE4 (by kernel_rfl) (by kernel_rfl) (by rfl) (by kernel_rfl) ?hloc4 ?hmono4 ?hstep4 ?htail4
   case hE4 => refine ⟨?_, ?_, trivial⟩ <;> (simp only [List.getElem?_toArray, List.getElem?_cons_succ, List.getElem?_cons_zero]; rfl)
   case hstep4 =>
    refine ⟨⟨⟨⟨⟨⟨⟨trivial, ?_⟩, ?_⟩, ?_⟩, ?_⟩, ?_⟩, ?_⟩, ?_⟩
    ·intro γ w' he hf; clear hf; refine ⟨trivial, ?_⟩; intro R hR
     have hc := he.cells
     go_simp
     (try go_ints); (try (rw [if_neg (by omega)])); (try (rw [if_pos (by omega)])); (try go_simp); (try go_ints)
     refine hR _ _ (Ext.refl _) ?_ trivial
     rfl
    ·intro γ w' he hf; clear hf; refine ⟨trivial, ?_⟩; intro R hR
     have hc := he.cells
     have cq0 := he.cell cea0
     have cq1 := he.cell cea1
     have cq2 := he.cell ceb0
     have cq3 := he.cell ceb1
     go_simp
     (try go_ints); (try (rw [if_neg (by omega)])); (try (rw [if_pos (by omega)])); (try go_simp); (try go_ints)
     refine hR _ _ (Ext.refl _) ?_ trivial
     rfl
    ·intro γ w' he hf; clear hf; refine ⟨trivial, ?_⟩; intro R hR
     have hc := he.cells
     go_simp
     (try go_ints); (try (rw [if_neg (by omega)])); (try (rw [if_pos (by omega)])); (try go_simp); (try go_ints)
     refine hR _ _ (Ext.refl _) ?_ trivial
     rfl
    ·intro γ w' he hf; clear hf; refine ⟨trivial, ?_⟩; intro R hR
     have hc := he.cells
     have cq0 := he.cell cea0
     have cq1 := he.cell cea1
     have cq2 := he.cell ceb0
     have cq3 := he.cell ceb1
     go_simp
     (try go_ints); (try (rw [if_neg (by omega)])); (try (rw [if_pos (by omega)])); (try go_simp); (try go_ints)
     refine hR _ _ (Ext.refl _) ?_ trivial
     rfl
    ·intro γ w' he hf; clear hf; refine ⟨trivial, ?_⟩; intro R hR
     have hc := he.cells
     go_simp
     (try go_ints); (try (rw [if_neg (by omega)])); (try (rw [if_pos (by omega)])); (try go_simp); (try go_ints)
     refine hR _ _ (Ext.refl _) ?_ trivial
     rfl
    ·intro γ w' he hf; clear hf; refine ⟨trivial, ?_⟩; intro R hR
     have hc := he.cells
     have cq0 := he.cell cea0
     have cq1 := he.cell cea1
     have cq2 := he.cell ceb0
     have cq3 := he.cell ceb1
     go_simp
     (try go_ints); (try (rw [if_neg (by omega)])); (try (rw [if_pos (by omega)])); (try go_simp); (try go_ints)
     refine hR _ _ (Ext.refl _) ?_ trivial
     rfl
    ·intro γ w' he hf; clear hf; refine ⟨trivial, ?_⟩; intro R hR
     go_simp
     refine Calls.mono (show Calls _ _ _ w' (Gives w' fun r w'' => NumV w'' (r) (x.natAbs - y.natAbs) (sz x.natAbs)) from minus_rn _ _ _ _ w' (p1.ext he) (p3.ext he) (by omega) (by omega)) ?_
     rintro e w2 ⟨v, rfl, hv, hx⟩
     exact ⟨v, rfl, hR v w2 hx rfl hv⟩
   case hloc4 =>
    exact ⟨⟨⟨⟨⟨⟨⟨trivial, (fun γ γ' h => ⟨rfl, fun _ => rfl⟩)⟩, (fun γ γ' h => ⟨rfl, fun _ => rfl⟩)⟩, (fun γ γ' h => ⟨rfl, fun _ => rfl⟩)⟩, (fun γ γ' h => ⟨rfl, fun _ => rfl⟩)⟩, (fun γ γ' h => ⟨rfl, fun _ => rfl⟩)⟩, (fun γ γ' h => ⟨rfl, fun _ => rfl⟩)⟩, (fun γ γ' h => ⟨h 6 rfl, fun w' => (congrArg (fun a => NumV w' (a) (x.natAbs - y.natAbs) (sz x.natAbs)) (h 6 rfl))⟩)⟩
   case hmono4 =>
    exact ⟨⟨⟨⟨⟨⟨⟨trivial, (fun γ wA w' e h => h)⟩, (fun γ wA w' e h => h)⟩, (fun γ wA w' e h => h)⟩, (fun γ wA w' e h => h)⟩, (fun γ wA w' e h => h)⟩, (fun γ wA w' e h => h)⟩, (fun γ wA w' e h => (show NumV wA (γ 6) (x.natAbs - y.natAbs) (sz x.natAbs) from h).ext e)⟩
   intro γ w4 hx4 hF
   have p6 : NumV w4 (γ 6) (x.natAbs - y.natAbs) (sz x.natAbs) := Each.get hF 6 (by decide)
   clear hF
   simp only [fillAll, gV, kv, List.getD_cons_zero, List.getD_cons_succ, Act.put, List.setIfInBounds_toArray, List.set_cons_zero, List.set_cons_succ, List.toList_toArray, List.drop_succ_cons, List.drop_zero, List.drop_nil, Nat.zero_add, Nat.reduceAdd]
   generalize γ 6 = g6 at *
   clear γ
   go_wp2_with fail
   refine Calls.mono (signed_r (x + y) bx _ _ _ _ (by have h1 := Hb.out.1; have h2 := Hb.out.2; rw [h1]; rw [h1, h2] at hs; by_cases e1 : x < 0 <;> by_cases e2 : y < 0 <;> simp [e1, e2] at hs ⊢ <;> omega) p6 (by omega)) ?_
   rintro e w5 ⟨r, rfl, hr, hx5⟩
   clear hc1 hf1 p6
   replace hx1 := (hx1.trans hx4).trans hx5
   obtain ⟨b5, A5, n5, c5, rfl⟩ := hr.cells
   have hc1 := hx1.cells
   have hf1 := hx1.frozens
   have Hfin := Lib.hid (fin_z hr hx1.a3 (NoDig.at_ hx1 (g := w.heap.size + 2) (by simp) (by simp [isDig])) (by omega))
   clear hr
   go_wp2
   refine bodyPost_ret (v := .agg #[.bool b5, .slice A5 n5 c5]) (by simp [results, Tryz.results87, go_sem, hc1]) rfl ?_
   exact Hfin.out
theorem sub_r (v u : Value) (x y : Int) (w : World) (hv : HasZ w v x) (hu : HasZ w u y) (sx : sz x.natAbs ≤ 549755813888) (sy : sz y.natAbs ≤ 549755813888) : Calls Tryz.prog 130 #[v, u] w (Gives w fun r w' => IsZ w' r (x - y)) := by
 have HV := Lib.hid hv; have HU := Lib.hid hu
 obtain ⟨neg, A, n, c, N, rfl, -, -, -, -, -⟩ := hv.form
 obtain ⟨neg', A', n', c', M, rfl, -, -, -, -, -⟩ := hu.form
 clear hv hu
 go_enter Tryz.func130, Tryz.ntmps130
 go_wp2_with fail
 refine wp_region_par (k := 3) (D := [5, 6, 7]) (T := [[], [], [1], [0, 1, 2], [0, 1, 2, 3]]) (EK := [2, 3]) (EV := [?e5x0, ?e5x1]) (VL := [(kv ?v5x0), (kv ?v5x1), (fun γ => γ 2)]) (FL := fun γ w' => [True, True, IsZ w' (γ 2) (-y)]) ?hE5 (by kernel_rfl) (by kernel_rfl) (by rfl) (by kernel_rfl) ?hloc5 ?hmono5 ?hstep5 ?htail5
 case hE5 => refine ⟨?_, ?_, trivial⟩ <;> (simp only [List.getElem?_toArray, List.getElem?_cons_succ, List.getElem?_cons_zero]; rfl)
 case hstep5 =>
  refine ⟨⟨⟨trivial, ?_⟩, ?_⟩, ?_⟩
  ·intro γ w' he hf; clear hf; refine ⟨trivial, ?_⟩; intro R hR
   have hc := he.cells
   go_simp
   (try go_ints); (try (rw [if_neg (by omega)])); (try (rw [if_pos (by omega)])); (try go_simp); (try go_ints)
   refine hR _ _ (Ext.refl _) ?_ trivial
   rfl
  ·intro γ w' he hf; clear hf; refine ⟨trivial, ?_⟩; intro R hR
   have hc := he.cells
   go_simp
   (try go_ints); (try (rw [if_neg (by omega)])); (try (rw [if_pos (by omega)])); (try go_simp); (try go_ints)
   refine hR _ _ (Ext.refl _) ?_ trivial
   rfl
  ·intro γ w' he hf; clear hf; refine ⟨trivial, ?_⟩; intro R hR
   go_simp
   refine Calls.mono (show Calls _ _ _ w' (Gives w' fun r w'' => IsZ w'' (r) (-y)) from neg_r _ y w' (HU.out.ext he.a3)) ?_
   rintro e w2 ⟨v, rfl, hv, hx⟩
   exact ⟨v, rfl, hR v w2 hx rfl hv⟩
 case hloc5 =>
  exact ⟨⟨⟨trivial, (fun γ γ' h => ⟨rfl, fun _ => rfl⟩)⟩, (fun γ γ' h => ⟨rfl, fun _ => rfl⟩)⟩, (fun γ γ' h => ⟨h 2 rfl, fun w' => (congrArg (fun a => IsZ w' (a) (-y)) (h 2 rfl))⟩)⟩
 case hmono5 =>
  exact ⟨⟨⟨trivial, (fun γ wA w' e h => h)⟩, (fun γ wA w' e h => h)⟩, (fun γ wA w' e h => (show IsZ wA (γ 2) (-y) from h).ext e)⟩
 intro γ w1 hx1 hF
 have p2 : IsZ w1 (γ 2) (-y) := Each.get hF 2 (by decide)
 clear hF
 simp only [fillAll, gV, kv, List.getD_cons_zero, List.getD_cons_succ, Act.put, List.setIfInBounds_toArray, List.set_cons_zero, List.set_cons_succ, List.toList_toArray, List.drop_succ_cons, List.drop_zero, List.drop_nil, Nat.zero_add, Nat.reduceAdd]
 generalize γ 2 = g2 at *
 clear γ
 go_wp2_with fail
 refine Calls.mono (add_r _ _ x (-y) _ (HV.out.ext hx1.a3) (p2.has (by rw [Int.natAbs_neg]; omega)) sx (by rw [Int.natAbs_neg]; exact sy)) ?_
 rintro e w2 ⟨r, rfl, hr, hx2⟩
 replace hx1 := hx1.trans hx2
 clear hx2 p2
 rw [← Int.sub_eq_add_neg] at hr
 obtain ⟨b5, A5, n5, c5, rfl⟩ := hr.cells
 have hc1 := hx1.cells
 have hf1 := hx1.frozens
 have Hfin := Lib.hid (fin_z hr hx1.a3 (NoDig.at_ hx1 (g := w.heap.size + 2) (by simp) (by simp [isDig])) (by omega))
 clear hr
 go_wp2
 refine bodyPost_ret (v := .agg #[.bool b5, .slice A5 n5 c5]) (by simp [results, Tryz.results130, go_sem, hc1]) rfl ?_
 exact Hfin.out
end Go.Proofs.YtfacbpnegkjcgaaGreatDoor
namespace Go.Proofs.YtfacbpnegkjcgaaGreatDoor
open Go.RowKit Go.Hp
set_option maxHeartbeats 1000000 in
theorem word_r (v : Value) (ds : List Nat) (w : World) (hv : DigV w v ds) (hn : ds.length ≤ 2) :
  Calls Tryz.prog 119 #[v] w (Gives w fun r _ => r = .int .u64 (nv ds : Nat)) := by
 obtain ⟨A, p1, rfl, hl, hc, hA⟩ := hv
 go_enter Tryz.func119, Tryz.ntmps119
 go_wp2
 go_loopw [3, 4] (fun nw iv wr => ∃ k : Nat, k ≤ ds.length ∧ (∃ q : Int, q + 1 = k ∧ iv = .int .i64 q) ∧ nw = .int .u64 (nv (ds.drop k) : Nat) ∧ Ext w wr) (fun _ iv _ => (intOf iv + 1).toNat)
 case atStart => exact ⟨ds.length, Nat.le_refl _, ⟨_, by omega, rfl⟩, by rw [List.drop_length]; rfl, Ext.refl _⟩
 case round =>
  obtain ⟨k, hk, ⟨q, hq, rfl⟩, rfl, hx⟩ := hrel
  have hb := nv_lt (Digs.drop hA.1 k)
  have hb2 : bp (ds.drop k).length ≤ bp (2 - k) := bp_le (by rw [List.length_drop]; omega)
  by_cases hk0 : 0 < k
  ·obtain ⟨k, rfl⟩ : ∃ j, k = j + 1 := ⟨k - 1, by omega⟩
   obtain rfl : q = (k : Int) := by omega
   clear hq
   have hb3 : bp (2 - (k + 1)) ≤ 4294967296 := by rw [← bp_one]; exact bp_le (by omega)
   have hd := nv_drop (show k < ds.length by omega)
   rw [← dg_lt (show k < ds.length by omega)] at hd
   obtain ⟨a, rfl, hca⟩ := dig_at hA (k := k) (by omega)
   replace hca := hx.cell hca
   have x1 := dg_bound hA.1 k
   generalize hxx : dg ds k = x at *
   generalize hyy : nv (ds.drop (k + 1)) = y at *
   have hy : y < 4294967296 := by omega
   clear hb hb2 hb3 hxx
   have Hd := Lib.hid hd; clear hd hyy
   go_wp2
   go_roundw
   case rel => exact ⟨k, by omega, ⟨_, by omega, rfl⟩, by rw [Hd.out]; go_num, hx⟩
   case measure => simp [intOf] <;> omega
  ·obtain rfl : k = 0 := by omega
   have q1 : q < 0 := by omega
   clear hb hb2
   go_wp2
   go_ret
   exact Gives.mk (by rw [List.drop_zero]; rfl) hx
theorem split_r (N : Nat) (w : World) (hN : N < 18446744073709551616) :
  Calls Tryz.prog 120 #[.int .u64 (N : Nat)] w (Gives w fun r w' => NatV w' r N) := by
 have key : ∀ (n g : Nat) (W : World) (t : TypeId) (a b : Int), a = (n % 4294967296 : Nat) → b = (n / 4294967296 : Nat) → g = W.heap.size → n < 18446744073709551616 → NumV (W.alloc (.cells #[.int .u32 a, .int .u32 b] t)) (.slice (some ⟨g, 0, none⟩) 2 2) n 2 := by
  intro n g W t a b ha hb hg hn
  subst ha hb hg
  have hb : DBlk (W.alloc (.cells #[.int .u32 (n % 4294967296 : Nat), .int .u32 (n / 4294967296 : Nat)] t)) W.heap.size t [n % 4294967296, n / 4294967296] := dblk_lit2 (heap_alloc_new W _)
  exact ⟨_, hb.digv (Digs.cons (by omega) (Digs.cons (by omega) Digs.nil)) (c := 2) (by simp) (by omega), by simp [nv_cons, nv_nil]; omega, by simp⟩
 have Hk := Lib.hid key; clear key
 go_enter Tryz.func120, Tryz.ntmps120
 go_wp2_with fail
 refine Calls.mono (trim_num _ N 2 _ (Hk.out N _ _ _ _ _ (by omega) (by omega) (by simp) (by omega)) (by omega)) ?_
 rintro e w1 ⟨r, rfl, hr, hx1⟩
 go_wp2
 go_ret
 exact Gives.mk hr hx1.a1
set_option maxHeartbeats 2000000 in
theorem mul_r (v u : Value) (x y : Int) (w : World) (hv : HasZ w v x) (hu : HasZ w u y) (sx : sz x.natAbs ≤ 549755813888) (sy : sz y.natAbs ≤ 549755813888) : Calls Tryz.prog 23 #[v, u] w (Gives w fun r w' => IsZ w' r (x * y)) := by
 obtain ⟨neg, A, n, c, N, rfl, h1, h2, h3, hN, hx⟩ := hv.form
 obtain ⟨neg', A', n', c', M, rfl, k1, k2, k3, kN, hy⟩ := hu.form
 have HN := Lib.hid hN; have HM := Lib.hid kN; clear hN hv hu kN
 have sN : sz N ≤ 549755813888 := by rw [hx] at sx; cases neg <;> simpa using sx
 have sM : sz M ≤ 549755813888 := by rw [hy] at sy; cases neg' <;> simpa using sy
 have Hz := Lib.hid (show x * y = if (neg != neg') = true then -((N * M : Nat) : Int) else ((N * M : Nat) : Int) by rw [hx, hy]; cases neg <;> cases neg' <;> simp [Int.neg_mul, Int.mul_neg])
 clear hx hy sx sy
 go_enter Tryz.func23, Tryz.ntmps23
 go_wp2_with fail
 refine wp_region_par (k := 5) (D := [12, 13, 14, 15, 16]) (T := [[], [0], [0, 1], [], [3], [0, 1, 2, 3, 4], [0, 1, 2, 3, 4, 5], [0, 1, 2, 3, 4, 5, 6]]) (EK := [2, 3]) (EV := [?e1x0, ?e1x1]) (VL := [(kv ?v1x0), (kv ?v1x1), (fun γ => γ 2), (kv ?v1x3), (kv ?v1x4)]) (FL := fun γ w' => [True, True, NatV w' (γ 2) N, True, True]) ?hE1 (by kernel_rfl) (by kernel_rfl) (by rfl) (by kernel_rfl) ?hloc1 ?hmono1 ?hstep1 ?htail1
 case hE1 => refine ⟨?_, ?_, trivial⟩ <;> (simp only [List.getElem?_toArray, List.getElem?_cons_succ, List.getElem?_cons_zero]; rfl)
 case hstep1 =>
  refine ⟨⟨⟨⟨⟨trivial, ?_⟩, ?_⟩, ?_⟩, ?_⟩, ?_⟩
  ·intro γ w' he hf; clear hf; refine ⟨trivial, ?_⟩; intro R hR
   have hc := he.cells
   go_simp
   (try go_ints); (try (rw [if_neg (by omega)])); (try (rw [if_pos (by omega)])); (try go_simp); (try go_ints)
   refine hR _ _ (Ext.refl _) ?_ trivial
   rfl
  ·intro γ w' he hf; clear hf; refine ⟨trivial, ?_⟩; intro R hR
   have hc := he.cells
   go_simp
   (try go_ints); (try (rw [if_neg (by omega)])); (try (rw [if_pos (by omega)])); (try go_simp); (try go_ints)
   refine hR _ _ (Ext.refl _) ?_ trivial
   rfl
  ·intro γ w' he hf; clear hf; refine ⟨trivial, ?_⟩; intro R hR
   go_simp
   refine Calls.mono (show Calls _ _ _ w' (Gives w' fun r w'' => NatV w'' (r) N) from trim_num _ N n w' (HN.out.ext he.a3) (by omega)) ?_
   rintro e w2 ⟨v, rfl, hv, hx⟩
   exact ⟨v, rfl, hR v w2 hx rfl hv⟩
  ·intro γ w' he hf; clear hf; refine ⟨trivial, ?_⟩; intro R hR
   have hc := he.cells
   go_simp
   (try go_ints); (try (rw [if_neg (by omega)])); (try (rw [if_pos (by omega)])); (try go_simp); (try go_ints)
   refine hR _ _ (Ext.refl _) ?_ trivial
   rfl
  ·intro γ w' he hf; clear hf; refine ⟨trivial, ?_⟩; intro R hR
   have hc := he.cells
   go_simp
   (try go_ints); (try (rw [if_neg (by omega)])); (try (rw [if_pos (by omega)])); (try go_simp); (try go_ints)
   refine hR _ _ (Ext.refl _) ?_ trivial
   rfl
 case hloc1 =>
  exact ⟨⟨⟨⟨⟨trivial, (fun γ γ' h => ⟨rfl, fun _ => rfl⟩)⟩, (fun γ γ' h => ⟨rfl, fun _ => rfl⟩)⟩, (fun γ γ' h => ⟨h 2 rfl, fun w' => (congrArg (fun a => NatV w' (a) N) (h 2 rfl))⟩)⟩, (fun γ γ' h => ⟨rfl, fun _ => rfl⟩)⟩, (fun γ γ' h => ⟨rfl, fun _ => rfl⟩)⟩
 case hmono1 =>
  exact ⟨⟨⟨⟨⟨trivial, (fun γ wA w' e h => h)⟩, (fun γ wA w' e h => h)⟩, (fun γ wA w' e h => (show NatV wA (γ 2) N from h).ext e)⟩, (fun γ wA w' e h => h)⟩, (fun γ wA w' e h => h)⟩
 intro γ w1 hx1 hF
 have p2 : NatV w1 (γ 2) N := Each.get hF 2 (by decide)
 clear hF
 simp only [fillAll, gV, kv, List.getD_cons_zero, List.getD_cons_succ, Act.put, List.setIfInBounds_toArray, List.set_cons_zero, List.set_cons_succ, List.toList_toArray, List.drop_succ_cons, List.drop_zero, List.drop_nil, Nat.zero_add, Nat.reduceAdd]
 generalize γ 2 = g2 at *
 clear γ
 go_wp2_with fail
 refine Calls.mono (trim_num _ M n' _ (HM.out.ext hx1.a3) (by omega)) ?_
 rintro e w2 ⟨r, rfl, p5, hx2⟩
 replace p2 := p2.ext hx2
 replace hx1 := hx1.trans hx2
 clear hx2
 obtain ⟨ds, hd, hnv, -, hl⟩ := p2.len
 obtain ⟨es, he, hnv', -, hl'⟩ := p5.len
 clear p2 p5
 obtain ⟨E, r1, rfl, hdl, hdc, hE⟩ := hd
 obtain ⟨F, r2, rfl, hel, hec, hF⟩ := he
 have hdn : ds.length ≤ 549755813888 := by omega
 have hen : es.length ≤ 549755813888 := by omega
 rw [← hnv, ← hnv'] at Hz
 clear hnv hnv' hl hl' sN sM HN HM h1 h2 h3 k1 k2 k3
 have hmk := fun W => make_u32 (ds.length + es.length) ((ds.length : Int) + es.length) (by omega) (by omega) W
 go_wp2
 go_loopw [8] (fun iv wr => ∃ (i : Nat) (l : List Nat), i ≤ ds.length ∧ iv = .int .i64 i ∧ l.length = ds.length + es.length ∧ DBlk wr w2.heap.size 87 l ∧ Digs l ∧ (∀ q, i + es.length ≤ q → dg l q = 0) ∧ nv l = nv (ds.take i) * nv es ∧ Ext w2 wr) (fun iv _ => ds.length - (intOf iv).toNat)
 case atStart => exact ⟨0, _, Nat.zero_le _, rfl, List.length_replicate, DBlk.new _ _ _, Digs.zeros _, fun q _ => by unfold dg; rw [List.getD_eq_getElem?_getD, List.getElem?_replicate]; split <;> rfl, by rw [nv_zeros]; simp [nv_nil], (Ext.refl w2).alloc _⟩
 case round =>
  obtain ⟨i, l, hi, rfl, hll, hblk, hdl, hz, hval, hx⟩ := hrel
  have Hll := Lib.hid hll; clear hll
  have Hval := Lib.hid hval; clear hval
  have Hz' := Lib.hid hz; clear hz
  by_cases hil : i < ds.length
  ·obtain ⟨a, rfl, hca⟩ := dig_at hE hil
   have x1 := dg_bound hE.1 i
   generalize hxx : dg ds i = x at *
   have Hx := Lib.hid hxx; clear hxx
   go_wp2
   obtain ⟨wo, rfl⟩ : ∃ wo : World, wo = wr := ⟨_, rfl⟩
   go_loopw [9, 10] (fun cv jv wr => ∃ (j c0 : Nat) (m : List Nat), j ≤ es.length ∧ jv = .int .i64 j ∧ cv = .int .u64 c0 ∧ c0 < 4294967296 ∧ m.length = ds.length + es.length ∧ DBlk wr w2.heap.size 87 m ∧ Digs m ∧ (∀ q, i + es.length ≤ q → dg m q = 0) ∧ nv m + c0 * (bp i * bp j) = nv l + x * bp i * nv (es.take j) ∧ Ext w2 wr) (fun _ jv _ => es.length - (intOf jv).toNat)
   case atStart => exact ⟨0, 0, l, Nat.zero_le _, rfl, rfl, by omega, Hll.out, hblk, hdl, Hz'.out, by simp [nv_nil], hx⟩
   case round =>
    obtain ⟨j, c0, m, hj, rfl, rfl, hc0, hml, hbm, hdm, hzm, hvm, hxm⟩ := hrel
    have Hml := Lib.hid hml; clear hml
    have Hvm := Lib.hid hvm; clear hvm
    have Hzm := Lib.hid hzm; clear hzm
    by_cases hje : j < es.length
    ·obtain ⟨b, rfl, hcb⟩ := dig_at hF hje
     replace hcb := hxm.cell hcb
     have hcar := hxm.cell hca
     have y1 := dg_bound hF.1 j
     generalize hyy : dg es j = y at *
     have Hy := Lib.hid hyy; clear hyy
     have hmc := hbm.celld (i := i + j) (by have := Hml.out; omega)
     have z1 := dg_bound hdm (i + j)
     have hfz := hbm.frozen (i + j)
     generalize hzz : dg m (i + j) = z at *
     have Hzz := Lib.hid hzz; clear hzz
     have hxy : x * y ≤ 4294967295 * 4294967295 := Nat.mul_le_mul (by omega) (by omega)
     have hxy2 : x * y ≤ 18446744065119617025 := hxy
     clear hxy
     have k1 : (0 : Int) ≤ (x : Int) * y := by rw [← Int.natCast_mul]; omega
     have k2 : (x : Int) * y ≤ 18446744065119617025 := by rw [← Int.natCast_mul]; omega
     have Hxy := Lib.hid hxy2; clear hxy2
     go_wp2
     refine wp_region_par (k := 20) (D := [36, 37, 38, 39, 40, 41, 42, 43, 44, 45, 46, 47, 48, 49, 50, 51, 52, 53, 54, 55]) (T := [[], [], [0, 1], [0, 1, 2], [0, 1, 2, 3], [], [], [5, 6], [5, 6, 7], [5, 6, 7, 8], [0, 1, 2, 3, 4, 5, 6, 7, 8, 9], [], [], [], [12, 13], [11, 12, 13, 14], [11, 12, 13, 14, 15], [11, 12, 13, 14, 15, 16], [0, 1, 2, 3, 4, 5, 6, 7, 8, 9, 10, 11, 12, 13, 14, 15, 16, 17], [], [0, 1, 2, 3, 4, 5, 6, 7, 8, 9, 10, 11, 12, 13, 14, 15, 16, 17, 18, 19], [0, 1, 2, 3, 4, 5, 6, 7, 8, 9, 10, 11, 12, 13, 14, 15, 16, 17, 18, 19, 20]]) (EK := [5, 8, 6, 10, 7, 9]) (EV := [?e2x0, ?e2x1, ?e2x2, ?e2x3, ?e2x4, ?e2x5]) (VL := [(kv ?v2x0), (kv ?v2x1), (kv ?v2x2), (kv ?v2x3), (kv ?v2x4), (kv ?v2x5), (kv ?v2x6), (kv ?v2x7), (kv ?v2x8), (kv ?v2x9), (kv ?v2x10), (kv ?v2x11), (kv ?v2x12), (kv ?v2x13), (kv ?v2x14), (kv ?v2x15), (kv ?v2x16), (kv ?v2x17), (kv ?v2x18), (kv ?v2x19)]) (FL := fun γ w' => [True, True, True, True, True, True, True, True, True, True, True, True, True, True, True, True, True, True, True, True]) ?hE2 (by kernel_rfl) (by kernel_rfl) (by rfl) (by kernel_rfl) ?hloc2 ?hmono2 ?hstep2 ?htail2
     case hE2 => refine ⟨?_, ?_, ?_, ?_, ?_, ?_, trivial⟩ <;> (simp only [List.getElem?_toArray, List.getElem?_cons_succ, List.getElem?_cons_zero]; rfl)
     case hstep2 =>
      refine ⟨⟨⟨⟨⟨⟨⟨⟨⟨⟨⟨⟨⟨⟨⟨⟨⟨⟨⟨⟨trivial, ?_⟩, ?_⟩, ?_⟩, ?_⟩, ?_⟩, ?_⟩, ?_⟩, ?_⟩, ?_⟩, ?_⟩, ?_⟩, ?_⟩, ?_⟩, ?_⟩, ?_⟩, ?_⟩, ?_⟩, ?_⟩, ?_⟩, ?_⟩
      ·intro γ w' he hf; clear hf; refine ⟨trivial, ?_⟩; intro R hR
       have hc := he.cells
       go_simp
       (try go_ints); (try (rw [if_neg (by omega)])); (try (rw [if_pos (by omega)])); (try go_simp); (try go_ints)
       refine hR _ _ (Ext.refl _) ?_ trivial
       rfl
      ·intro γ w' he hf; clear hf; refine ⟨trivial, ?_⟩; intro R hR
       have hc := he.cells
       go_simp
       (try go_ints); (try (rw [if_neg (by omega)])); (try (rw [if_pos (by omega)])); (try go_simp); (try go_ints)
       refine hR _ _ (Ext.refl _) ?_ trivial
       rfl
      ·intro γ w' he hf; clear hf; refine ⟨trivial, ?_⟩; intro R hR
       have hc := he.cells
       go_simp
       (try go_ints); (try (rw [if_neg (by omega)])); (try (rw [if_pos (by omega)])); (try go_simp); (try go_ints)
       refine hR _ _ (Ext.refl _) ?_ trivial
       rfl
      ·intro γ w' he hf; clear hf; refine ⟨trivial, ?_⟩; intro R hR
       have hc := he.cells
       have cq0 := he.cell hcar
       have cq1 := he.cell hcb
       have cq2 := he.cell hmc
       go_simp
       (try go_ints); (try (rw [if_neg (by omega)])); (try (rw [if_pos (by omega)])); (try go_simp); (try go_ints)
       refine hR _ _ (Ext.refl _) ?_ trivial
       rfl
      ·intro γ w' he hf; clear hf; refine ⟨trivial, ?_⟩; intro R hR
       have hc := he.cells
       go_simp
       (try go_ints); (try (rw [if_neg (by omega)])); (try (rw [if_pos (by omega)])); (try go_simp); (try go_ints)
       refine hR _ _ (Ext.refl _) ?_ trivial
       rfl
      ·intro γ w' he hf; clear hf; refine ⟨trivial, ?_⟩; intro R hR
       have hc := he.cells
       go_simp
       (try go_ints); (try (rw [if_neg (by omega)])); (try (rw [if_pos (by omega)])); (try go_simp); (try go_ints)
       refine hR _ _ (Ext.refl _) ?_ trivial
       rfl
      ·intro γ w' he hf; clear hf; refine ⟨trivial, ?_⟩; intro R hR
       have hc := he.cells
       go_simp
       (try go_ints); (try (rw [if_neg (by omega)])); (try (rw [if_pos (by omega)])); (try go_simp); (try go_ints)
       refine hR _ _ (Ext.refl _) ?_ trivial
       rfl
      ·intro γ w' he hf; clear hf; refine ⟨trivial, ?_⟩; intro R hR
       have hc := he.cells
       go_simp
       (try go_ints); (try (rw [if_neg (by omega)])); (try (rw [if_pos (by omega)])); (try go_simp); (try go_ints)
       refine hR _ _ (Ext.refl _) ?_ trivial
       rfl
      ·intro γ w' he hf; clear hf; refine ⟨trivial, ?_⟩; intro R hR
       have hc := he.cells
       have cq0 := he.cell hcar
       have cq1 := he.cell hcb
       have cq2 := he.cell hmc
       go_simp
       (try go_ints); (try (rw [if_neg (by omega)])); (try (rw [if_pos (by omega)])); (try go_simp); (try go_ints)
       refine hR _ _ (Ext.refl _) ?_ trivial
       rfl
      ·intro γ w' he hf; clear hf; refine ⟨trivial, ?_⟩; intro R hR
       have hc := he.cells
       go_simp
       (try go_ints); (try (rw [if_neg (by omega)])); (try (rw [if_pos (by omega)])); (try go_simp); (try go_ints)
       refine hR _ _ (Ext.refl _) ?_ trivial
       rfl
      ·intro γ w' he hf; clear hf; refine ⟨trivial, ?_⟩; intro R hR
       have hc := he.cells
       go_simp
       (try go_ints); (try (rw [if_neg (by omega)])); (try (rw [if_pos (by omega)])); (try go_simp); (try go_ints)
       refine hR _ _ (Ext.refl _) ?_ trivial
       rfl
      ·intro γ w' he hf; clear hf; refine ⟨trivial, ?_⟩; intro R hR
       have hc := he.cells
       go_simp
       (try go_ints); (try (rw [if_neg (by omega)])); (try (rw [if_pos (by omega)])); (try go_simp); (try go_ints)
       refine hR _ _ (Ext.refl _) ?_ trivial
       rfl
      ·intro γ w' he hf; clear hf; refine ⟨trivial, ?_⟩; intro R hR
       have hc := he.cells
       go_simp
       (try go_ints); (try (rw [if_neg (by omega)])); (try (rw [if_pos (by omega)])); (try go_simp); (try go_ints)
       refine hR _ _ (Ext.refl _) ?_ trivial
       rfl
      ·intro γ w' he hf; clear hf; refine ⟨trivial, ?_⟩; intro R hR
       have hc := he.cells
       go_simp
       (try go_ints); (try (rw [if_neg (by omega)])); (try (rw [if_pos (by omega)])); (try go_simp); (try go_ints)
       refine hR _ _ (Ext.refl _) ?_ trivial
       rfl
      ·intro γ w' he hf; clear hf; refine ⟨trivial, ?_⟩; intro R hR
       have hc := he.cells
       go_simp
       (try go_ints); (try (rw [if_neg (by omega)])); (try (rw [if_pos (by omega)])); (try go_simp); (try go_ints)
       refine hR _ _ (Ext.refl _) ?_ trivial
       rfl
      ·intro γ w' he hf; clear hf; refine ⟨trivial, ?_⟩; intro R hR
       have hc := he.cells
       go_simp
       (try go_ints); (try (rw [if_neg (by omega)])); (try (rw [if_pos (by omega)])); (try go_simp); (try go_ints)
       refine hR _ _ (Ext.refl _) ?_ trivial
       rfl
      ·intro γ w' he hf; clear hf; refine ⟨trivial, ?_⟩; intro R hR
       have hc := he.cells
       have cq0 := he.cell hcar
       have cq1 := he.cell hcb
       have cq2 := he.cell hmc
       go_simp
       (try go_ints); (try (rw [if_neg (by omega)])); (try (rw [if_pos (by omega)])); (try go_simp); (try go_ints)
       refine hR _ _ (Ext.refl _) ?_ trivial
       rfl
      ·intro γ w' he hf; clear hf; refine ⟨trivial, ?_⟩; intro R hR
       have hc := he.cells
       go_simp
       (try go_ints); (try (rw [if_neg (by omega)])); (try (rw [if_pos (by omega)])); (try go_simp); (try go_ints)
       refine hR _ _ (Ext.refl _) ?_ trivial
       rfl
      ·intro γ w' he hf; clear hf; refine ⟨trivial, ?_⟩; intro R hR
       have hc := he.cells
       go_simp
       (try go_ints); (try (rw [if_neg (by omega)])); (try (rw [if_pos (by omega)])); (try go_simp); (try go_ints)
       refine hR _ _ (Ext.refl _) ?_ trivial
       rfl
      ·intro γ w' he hf; clear hf; refine ⟨trivial, ?_⟩; intro R hR
       have hc := he.cells
       go_simp
       (try go_ints); (try (rw [if_neg (by omega)])); (try (rw [if_pos (by omega)])); (try go_simp); (try go_ints)
       refine hR _ _ (Ext.refl _) ?_ trivial
       rfl
     case hloc2 =>
      exact ⟨⟨⟨⟨⟨⟨⟨⟨⟨⟨⟨⟨⟨⟨⟨⟨⟨⟨⟨⟨trivial, (fun γ γ' h => ⟨rfl, fun _ => rfl⟩)⟩, (fun γ γ' h => ⟨rfl, fun _ => rfl⟩)⟩, (fun γ γ' h => ⟨rfl, fun _ => rfl⟩)⟩, (fun γ γ' h => ⟨rfl, fun _ => rfl⟩)⟩, (fun γ γ' h => ⟨rfl, fun _ => rfl⟩)⟩, (fun γ γ' h => ⟨rfl, fun _ => rfl⟩)⟩, (fun γ γ' h => ⟨rfl, fun _ => rfl⟩)⟩, (fun γ γ' h => ⟨rfl, fun _ => rfl⟩)⟩, (fun γ γ' h => ⟨rfl, fun _ => rfl⟩)⟩, (fun γ γ' h => ⟨rfl, fun _ => rfl⟩)⟩, (fun γ γ' h => ⟨rfl, fun _ => rfl⟩)⟩, (fun γ γ' h => ⟨rfl, fun _ => rfl⟩)⟩, (fun γ γ' h => ⟨rfl, fun _ => rfl⟩)⟩, (fun γ γ' h => ⟨rfl, fun _ => rfl⟩)⟩, (fun γ γ' h => ⟨rfl, fun _ => rfl⟩)⟩, (fun γ γ' h => ⟨rfl, fun _ => rfl⟩)⟩, (fun γ γ' h => ⟨rfl, fun _ => rfl⟩)⟩, (fun γ γ' h => ⟨rfl, fun _ => rfl⟩)⟩, (fun γ γ' h => ⟨rfl, fun _ => rfl⟩)⟩, (fun γ γ' h => ⟨rfl, fun _ => rfl⟩)⟩
     case hmono2 =>
      exact ⟨⟨⟨⟨⟨⟨⟨⟨⟨⟨⟨⟨⟨⟨⟨⟨⟨⟨⟨⟨trivial, (fun γ wA w' e h => h)⟩, (fun γ wA w' e h => h)⟩, (fun γ wA w' e h => h)⟩, (fun γ wA w' e h => h)⟩, (fun γ wA w' e h => h)⟩, (fun γ wA w' e h => h)⟩, (fun γ wA w' e h => h)⟩, (fun γ wA w' e h => h)⟩, (fun γ wA w' e h => h)⟩, (fun γ wA w' e h => h)⟩, (fun γ wA w' e h => h)⟩, (fun γ wA w' e h => h)⟩, (fun γ wA w' e h => h)⟩, (fun γ wA w' e h => h)⟩, (fun γ wA w' e h => h)⟩, (fun γ wA w' e h => h)⟩, (fun γ wA w' e h => h)⟩, (fun γ wA w' e h => h)⟩, (fun γ wA w' e h => h)⟩, (fun γ wA w' e h => h)⟩
     intro γ w3 hx3 hF
     clear hF
     simp only [fillAll, gV, kv, List.getD_cons_zero, List.getD_cons_succ, Act.put, List.setIfInBounds_toArray, List.set_cons_zero, List.set_cons_succ, List.toList_toArray, List.drop_succ_cons, List.drop_zero, List.drop_nil, Nat.zero_add, Nat.reduceAdd]
     clear γ
     replace hbm := hbm.ext hx3
     replace hxm := hxm.trans hx3
     have hmc := hbm.celld (i := i + j) (by have := Hml.out; omega)
     have hfz := hbm.frozen (i + j)
     rw [Hzz.out] at hmc
     go_wp2
     go_roundw
     case rel =>
      have hml := Hml.out
      have e1 : (((x * y + z + c0) % 4294967296 : Nat) : Int) = ((x : Int) * y + z + c0) % 4294967296 := by rw [← Int.natCast_mul]; omega
      have e2 : (((x * y + z + c0) / 4294967296 : Nat) : Int) = ((x : Int) * y + z + c0) / 4294967296 := by rw [← Int.natCast_mul]; omega
      refine ⟨j + 1, (x * y + z + c0) / 4294967296, m.set (i + j) ((x * y + z + c0) % 4294967296), by omega, by go_num, by rw [e2], by have := Hxy.out; omega, by simpa using hml, hbm.setI _ _ e1.symm, hdm.set (by omega) _, fun q hq => by rw [dg_set_ne (by omega)]; exact Hzm.out q hq, ?_, hxm.setCell _ _ (Nat.le_refl _)⟩
      have hs := nv_set (l := m) (p := i + j) (d := (x * y + z + c0) % 4294967296) (by omega)
      rw [Hzz.out, bp_add] at hs
      rw [nv_take_dg, Hy.out, bp_succ]
      exact mul_step hs Hvm.out
     case measure => simp [intOf]; omega
    ·obtain rfl : j = es.length := by omega
     have hmc := hbm.celld (i := i + es.length) (by have := Hml.out; omega)
     have hfz := hbm.frozen (i + es.length)
     go_wp2
     go_roundw
     case rel =>
      have hml := Hml.out
      refine ⟨i + 1, m.set (i + es.length) c0, by omega, by go_num, by simpa using hml, hbm.setI _ _ (by omega), hdm.set (by omega) _, fun q hq => by rw [dg_set_ne (by omega)]; exact Hzm.out q (by omega), ?_, hxm.setCell _ _ (Nat.le_refl _)⟩
      have hs := nv_set (l := m) (p := i + es.length) (d := c0) (by omega)
      rw [Hzm.out _ (Nat.le_refl _), Nat.mul_zero, Nat.add_zero, bp_add] at hs
      have h1 := Hvm.out
      rw [List.take_of_length_le (Nat.le_refl _), Hval.out] at h1
      rw [hs, nv_take_dg, Hx.out, Nat.mul_comm _ c0, h1]
      grind
     case measure => simp [intOf]; omega
  ·obtain rfl : i = ds.length := by omega
   have hll := Hll.out
   have hq := hblk.digv hdl (c := ds.length + es.length) (by omega) (by omega)
   rw [hll] at hq
   have hr : NumV wr _ (nv ds * nv es) (ds.length + es.length) := ⟨l, hq, by rw [Hval.out, List.take_of_length_le (Nat.le_refl _)], by omega⟩
   clear hq hll hblk hdl
   replace hx1 := hx1.trans hx
   have hc1 := hx1.cells
   have hf1 := hx1.frozens
   go_wp2_with fail
   refine Calls.mono (signed_r (x * y) (neg != neg') _ _ _ _ Hz.out hr (by omega)) ?_
   rintro e w4 ⟨r, rfl, hr, hx4⟩
   clear hc1 hf1
   replace hx1 := hx1.trans hx4
   clear hx hx4
   obtain ⟨b5, A5, n5, c5, rfl⟩ := hr.cells
   have hc1 := hx1.cells
   have hf1 := hx1.frozens
   have Hfin := Lib.hid (fin_z hr hx1.a3 (NoDig.at_ hx1 (g := w.heap.size + 2) (by simp) (by simp [isDig])) (by omega))
   clear hr
   go_wp2
   refine bodyPost_ret (v := .agg #[.bool b5, .slice A5 n5 c5]) (by simp [results, Tryz.results23, go_sem, hc1]) rfl ?_
   exact Hfin.out
end Go.Proofs.YtfacbpnegkjcgaaGreatDoor
namespace Go.Hp
open Go.RowKit
/-- b is how many binary digits n has. -/
def BL (n b : Nat) : Prop := n < 2 ^ b ∧ (0 < b → 2 ^ (b - 1) ≤ n)
theorem BL.zero : BL 0 0 := ⟨by decide, fun h => absurd h (by decide)⟩
theorem BL.top {ds : List Nat} {j : Nat} (hd : Digs ds) (hl : 0 < ds.length) (h1 : dg ds (ds.length - 1) < 2 ^ j) (h2 : 0 < j) (h3 : 2 ^ (j - 1) ≤ dg ds (ds.length - 1)) : BL (nv ds) (32 * (ds.length - 1) + j) := by
 have h := nv_take_dg ds (ds.length - 1)
 rw [List.take_of_length_le (by omega)] at h
 have hb := nv_lt (hd.take (ds.length - 1))
 have hb2 : bp (ds.take (ds.length - 1)).length ≤ bp (ds.length - 1) := bp_le (by rw [List.length_take]; omega)
 generalize dg ds (ds.length - 1) = d at *
 have hp := bp_two_pow (ds.length - 1)
 generalize hmm : ds.length - 1 = m at *
 constructor
 ·rw [h, Nat.pow_add, ← hp]
  have : bp m * (d + 1) ≤ bp m * 2 ^ j := Nat.mul_le_mul_left _ h1
  rw [Nat.mul_add] at this
  omega
 ·intro _
  rw [h, show 32 * m + j - 1 = 32 * m + (j - 1) by omega, Nat.pow_add, ← hp]
  have : bp m * 2 ^ (j - 1) ≤ bp m * d := Nat.mul_le_mul_left _ h3
  omega
theorem BL.le {n b m : Nat} (h : BL n b) (hm : n < 2 ^ m) : b ≤ m := by
 rcases Nat.lt_or_ge m b with h1 | h1
 ·have h2 := h.2 (by omega)
  have : 2 ^ m ≤ 2 ^ (b - 1) := Nat.pow_le_pow_right (by decide) (by omega)
  omega
 ·exact h1
end Go.Hp
namespace Go.Proofs.YtfacbpnegkjcgaaGreatDoor
open Go.RowKit Go.Hp
set_option maxHeartbeats 1000000 in
theorem bits_r (v : Value) (x : Int) (w : World) (hv : HasZ w v x) : Calls Tryz.prog 153 #[v] w (Gives w fun r _ => ∃ b : Nat, r = .int .i64 b ∧ BL x.natAbs b) := by
 obtain ⟨neg, A, n, c, N, rfl, h1, h2, h3, hN, hx⟩ := hv.form
 have HN := Lib.hid hN; clear hN hv
 have Hx := Lib.hid (show x.natAbs = N by rw [hx]; cases neg <;> simp); clear hx
 go_enter Tryz.func153, Tryz.ntmps153
 go_wp2_with fail
 refine Calls.mono (trim_num _ N n _ (HN.out.ext ((Ext.refl w).alloc _)) (by omega)) ?_
 rintro e w1 ⟨r, rfl, hr, hx1⟩
 obtain ⟨ds, hd, hnv, ht, hl⟩ := hr.len
 obtain ⟨E, p1, rfl, hl1, hc1, hE⟩ := hd
 have HX := Lib.hid (show x.natAbs = nv ds by rw [Hx.out, ← hnv])
 have hx := hx1.a1
 have hm : ds.length ≤ 1099511627776 := by rw [hl]; exact Nat.le_trans HN.out.sz h3
 clear hx1 hr hl HN Hx hnv h1 h2 h3
 rcases Nat.eq_zero_or_pos ds.length with h0 | h0
 ·have hb : (((ds.length : Nat) : Int) == 0) = true := by rw [h0]; rfl
  have : ds = [] := List.eq_nil_of_length_eq_zero h0
  clear h0
  have Hd := Lib.hid this; clear this
  go_wp2
  go_ret
  exact Gives.mk ⟨0, rfl, by rw [HX.out, Hd.out]; exact BL.zero⟩ hx
 ·have hb : (((ds.length : Nat) : Int) == 0) = false := beq_eq_false_iff_ne.2 (by omega)
  obtain ⟨a, ha, hca⟩ := dig_at hE (k := ds.length - 1) (by omega)
  have x1 := dg_bound hE.1 (ds.length - 1)
  have hd0 : dg ds (ds.length - 1) ≠ 0 := by
   rw [dg_lt (by omega)]
   have := ht (List.ne_nil_of_length_pos h0)
   rwa [List.getLast_eq_getElem] at this
  obtain ⟨d, hdd⟩ : ∃ d, d = dg ds (ds.length - 1) := ⟨_, rfl⟩
  rw [← hdd] at hca x1 hd0
  replace hca := hca
  have Hd := Lib.hid (And.intro hdd ht); clear hdd ht
  obtain ⟨m, hmm⟩ : ∃ m, ds.length = m + 1 := ⟨ds.length - 1, by omega⟩
  rw [hmm] at hca hb hl1 hm ⊢
  clear h0
  have Hm := Lib.hid hmm; clear hmm
  subst ha
  rw [Nat.add_sub_cancel] at hca
  go_wp2
  go_loopw [4, 5] (fun bv tv wr => ∃ j : Nat, j ≤ 32 ∧ bv = .int .i64 (32 * m + j : Nat) ∧ tv = .int .u32 (d / 2 ^ j : Nat) ∧ (0 < j → 2 ^ (j - 1) ≤ d) ∧ Ext w wr) (fun _ tv _ => (intOf tv).toNat)
  case atStart => exact ⟨0, by omega, by go_num, by simp, fun h => absurd h (by decide), hx⟩
  case round =>
   obtain ⟨j, hj, rfl, rfl, hlow, hx⟩ := hrel
   have Hlow := Lib.hid hlow; clear hlow
   obtain ⟨t, htt⟩ : ∃ t, d / 2 ^ j = t := ⟨_, rfl⟩
   rw [htt]
   have t1 : t < 4294967296 := by rw [← htt]; exact Nat.lt_of_le_of_lt (Nat.div_le_self _ _) x1
   have h2 : d / 2 ^ (j + 1) = t / 2 := by rw [← htt, Nat.pow_succ, Nat.div_div_eq_div_mul]
   have h3 : 0 < t → 2 ^ j ≤ d := fun h => by
    rcases Nat.lt_or_ge d (2 ^ j) with h' | h'
    ·rw [Nat.div_eq_of_lt h'] at htt; omega
    ·exact h'
   have h4 : t = 0 → d < 2 ^ j := fun h => by
    rcases Nat.lt_or_ge d (2 ^ j) with h' | h'
    ·exact h'
    ·have := Nat.div_pos h' (Nat.two_pow_pos j); omega
   have H := Lib.hid (And.intro h2 (And.intro h3 h4)); clear h2 h3 h4 htt
   by_cases ht0 : 0 < t
   ·have hj32 : j < 32 := by
     rcases Nat.lt_or_ge j 32 with h | h
     ·exact h
     ·have := H.out.2.1 ht0
      have h5 : 2 ^ 32 ≤ 2 ^ j := Nat.pow_le_pow_right (by decide) h
      omega
    go_wp2
    go_roundw
    case rel => exact ⟨j + 1, by omega, by go_num, by rw [H.out.1]; go_num, fun _ => H.out.2.1 ht0, hx⟩
    case measure => simp [intOf] <;> omega
   ·have ht1 : t = 0 := by omega
    go_wp2
    go_ret
    refine Gives.mk ⟨32 * m + j, rfl, ?_⟩ hx
    have hj0 : 0 < j := by
     rcases Nat.eq_zero_or_pos j with h | h
     ·subst h; have := H.out.2.2 ht1; omega
     ·exact h
    have := BL.top (ds := ds) (j := j) hE.1 (by have := Hm.out; omega) (by rw [← Hd.out.1]; exact H.out.2.2 ht1) hj0 (by rw [← Hd.out.1]; exact Hlow.out hj0)
    rw [Hm.out, Nat.add_sub_cancel] at this
    rw [HX.out]; exact this
theorem OwnD.made (w : World) (z base : Nat) (hb : base ≤ w.heap.size) (hz : z ≤ 70368744177664) : OwnD base (w.alloc (.cells (zcells z) 87)) (.slice (some ⟨w.heap.size, 0, none⟩) z z) (List.replicate z 0) := by
 unfold OwnD
 rw [List.length_replicate]
 refine ⟨by simp, .inr ⟨_, _, _, rfl, hb, heap_alloc_new w _, Nat.le_refl _, by simp only [maxLen]; omega, by simp [zcells], by simp [zcells, dv]⟩⟩
theorem sh_step {L X p S c d B : Nat} (h : L + c * p = X) : L + p * ((d * S + c) % B) + (d * S + c) / B * (B * p) = X + p * (d * S) := by
 have e : (d * S + c) % B + B * ((d * S + c) / B) = d * S + c := Nat.mod_add_div _ _
 generalize (d * S + c) % B = r at *
 generalize (d * S + c) / B = q at *
 grind
set_option maxHeartbeats 1000000 in
theorem shifted_r (v : Value) (ds : List Nat) (s : Nat) (w : World) (hv : DigV w v ds) (hs : s ≤ 70368744177664) (hn : ds.length ≤ 2199023255552) :
  Calls Tryz.prog 154 #[v, .int .i64 (s : Nat)] w (Gives w fun r w' => NatV w' r (nv ds * 2 ^ s)) := by
 obtain ⟨A, p1, rfl, hl, hc, hA⟩ := hv
 obtain ⟨z, hz⟩ : ∃ z, z = s / 32 := ⟨_, rfl⟩
 obtain ⟨p, hp⟩ : ∃ p, p = s % 32 := ⟨_, rfl⟩
 have hp32 : p < 32 := by omega
 have hmk := fun W => make_u32 z z rfl (by omega) W
 obtain ⟨S, hS⟩ : ∃ S, 2 ^ p = S := ⟨_, rfl⟩
 have hSi : (2 : Int) ^ p = (S : Nat) := by rw [← hS]; simp
 have hS1 : S ≤ 2147483648 := by rw [← hS]; exact Nat.pow_le_pow_right (by decide) (show p ≤ 31 by omega)
 have hS0 : 0 < S := by rw [← hS]; exact Nat.two_pow_pos _
 have Hs := Lib.hid (show 2 ^ s = S * bp z by rw [bp_two_pow, ← hS, ← Nat.pow_add]; congr 1; omega)
 have e1 : (s : Int) / 32 = z := by omega
 have e2 : (s : Int) % 32 = p := by omega
 have e3 : (s : Int) < 70368744177665 := by omega
 clear hz hp hS
 go_enter Tryz.func154, Tryz.ntmps154
 go_wp2
 go_loopw [5, 6, 7] (fun ov cv iv wr => ∃ (k c0 : Nat) (l : List Nat), k ≤ ds.length ∧ iv = .int .i64 k ∧ cv = .int .u64 c0 ∧ c0 < 2147483648 ∧ l.length = k + z ∧ OwnD w.heap.size wr ov l ∧ Digs l ∧ nv l + c0 * bp (k + z) = nv (ds.take k) * (S * bp z) ∧ Ext w wr) (fun _ _ iv _ => ds.length - (intOf iv).toNat)
 case atStart => exact ⟨0, 0, List.replicate z 0, Nat.zero_le _, rfl, rfl, by omega, by simp, OwnD.made w z _ (Nat.le_refl _) (by omega), Digs.zeros _, by rw [nv_zeros]; simp [nv_nil], (Ext.refl w).alloc _⟩
 case round =>
  obtain ⟨k, c0, l, hk, rfl, rfl, hc0, hll, hown, hdl, hval, hx⟩ := hrel
  have x1 := dg_bound hA.1 k
  have Hl := Lib.hid (And.intro hll (And.intro hdl hval)); clear hll hdl hval
  have Hown := Lib.hid hown; clear hown
  have hsz := hx.size
  by_cases hkm : k < ds.length
  ·obtain ⟨a, rfl, hca⟩ := dig_at hA hkm
   generalize hxx : dg ds k = x at *
   have Hx := Lib.hid hxx; clear hxx
   replace hca := hx.cell hca
   have hxS : x * S ≤ 4294967295 * 2147483648 := Nat.mul_le_mul (by omega) hS1
   have hxS2 : x * S ≤ 9223372034707292160 := hxS
   clear hxS
   have k1 : (0 : Int) ≤ (x : Int) * S := by rw [← Int.natCast_mul]; omega
   have k2 : (x : Int) * S ≤ 9223372034707292160 := by rw [← Int.natCast_mul]; omega
   have e4 : (((x * S + c0) % 4294967296 : Nat) : Int) = ((x : Int) * S + c0) % 4294967296 := by rw [← Int.natCast_mul]; omega
   have e5 : (((x * S + c0) / 4294967296 : Nat) : Int) = ((x : Int) * S + c0) / 4294967296 := by rw [← Int.natCast_mul]; omega
   have Hq := Lib.hid (And.intro hxS2 (And.intro e4 e5)); clear hxS2 e4 e5
   go_wp2_with (at_builtin; refine wpList_append_run rfl _ _ 26 rfl u5 (.slice (some ⟨wr.heap.size, 0, none⟩) 1 1) rfl rfl (append_d wr w.heap.size _ _ l ((x * S + c0) % 4294967296) _ _ Hown.out (by exact Hq.out.2.1.symm) (by have := Hl.out.1; omega) hsz rfl) ?_)
   rintro v' w2 hown hg
   replace hx := (Hown.out.alloc _).from_ hg (hx.alloc _) (Nat.le_refl _)
   have Hown' := Lib.hid hown; clear hown hg
   go_wp2
   go_roundw
   case rel => exact ⟨k + 1, (x * S + c0) / 4294967296, _, by omega, by go_num, by rw [Hq.out.2.2], by have := Hq.out.1; omega, by rw [List.length_append, Hl.out.1]; simp; omega, Hown'.out, Hl.out.2.1.append (Digs.cons (by omega) Digs.nil), by
    rw [nv_snoc, Hl.out.1, nv_take_dg, Hx.out, show k + 1 + z = (k + z) + 1 by omega, bp_succ, Nat.add_mul, sh_step Hl.out.2.2, bp_add]
    congr 1
    grind, hx⟩
   case measure => simp [intOf]; omega
  ·obtain rfl : k = ds.length := by omega
   go_wp2_with (at_builtin; refine wpList_append_run rfl _ _ 26 rfl u5 (.slice (some ⟨wr.heap.size, 0, none⟩) 1 1) rfl rfl (append_d wr w.heap.size _ _ l c0 _ _ Hown.out (by omega) (by have := Hl.out.1; omega) hsz rfl) ?_)
   rintro v' w2 hown hg
   replace hx := (Hown.out.alloc _).from_ hg (hx.alloc _) (Nat.le_refl _)
   have hN : NumV w2 v' (nv ds * 2 ^ s) (ds.length + z + 1) := ⟨_, hown.digv (Hl.out.2.1.append (Digs.cons (by omega) Digs.nil)), by
    have h3 := Hl.out.2.2
    rw [List.take_of_length_le (Nat.le_refl _)] at h3
    rw [nv_snoc, Hl.out.1, Hs.out, ← h3, Nat.mul_comm], by rw [List.length_append, Hl.out.1]; simp⟩
   have hzz : z ≤ 2199023255552 := by omega
   clear hown hg
   go_wp2_with fail
   refine Calls.mono (trim_num _ _ _ _ hN (by omega)) ?_
   rintro e w3 ⟨r, rfl, hr, hx3⟩
   go_wp2
   go_ret
   exact Gives.mk hr (hx.trans hx3)
end Go.Proofs.YtfacbpnegkjcgaaGreatDoor
namespace Go.Proofs.YtfacbpnegkjcgaaGreatDoor
open Go.RowKit Go.Hp
/-- Digits outside of the block B. -/
def DigF (B : Nat) (w : World) (v : Value) (ds : List Nat) : Prop := DigV w v ds ∧ (0 < ds.length → ∀ a n c, v = .slice (some a) n c → a.block ≠ B)
theorem DigF.ext {B : Nat} {w w' : World} {v : Value} {ds : List Nat} (h : DigF B w v ds) (e : Ext w w') : DigF B w' v ds := ⟨h.1.ext e, h.2⟩
theorem DigF.of_own {B base : Nat} {w : World} {v : Value} {ds : List Nat} (h : DigO base w v ds) (hb : B < base) : DigF B w v ds := ⟨h.1, fun h0 a n c e => by have := h.2 h0 a n c e; omega⟩
theorem DigF.of_old {B : Nat} {w : World} {v : Value} {ds : List Nat} (h : DigV w v ds) (hb : w.heap.size ≤ B) : DigF B w v ds := ⟨h, fun h0 a n c e => by
 obtain ⟨A, c', e', _, _, _, hA⟩ := h
 obtain ⟨a', ha, hc⟩ := hA h0
 rw [e'] at e
 simp only [Value.slice.injEq] at e
 rw [ha] at e
 simp only [Option.some.injEq] at e
 have hlt := hc 0 h0
 have : (a'.add 0).block < w.heap.size := by
  rcases Nat.lt_or_ge (a'.add 0).block w.heap.size with h | h
  ·exact h
  ·unfold World.cell? at hlt
   rw [Array.getElem?_eq_none h] at hlt
   cases hlt
 have e2 : (a'.add 0).block = a'.block := rfl
 rw [← e.1]
 omega⟩
theorem DigF.set_ {B : Nat} {w : World} {v : Value} {ds : List Nat} (h : DigF B w v ds) (i : Nat) (u : Value) : DigF B (w.setCell ⟨B, i, none⟩ u) v ds := ⟨by
 obtain ⟨A, c, e, h1, h2, hd, hA⟩ := h.1
 refine ⟨A, c, e, h1, h2, hd, fun h0 => ?_⟩
 obtain ⟨a, ha, hc⟩ := hA h0
 have hne := h.2 h0 a _ _ (by rw [e, ha])
 refine ⟨a, ha, fun j hj => ?_⟩
 have hb : (w.setCell ⟨B, i, none⟩ u).heap[(a.add j).block]? = w.heap[(a.add j).block]? := Below.heap_setCell w ⟨B, i, none⟩ u _ (by
  have e2 : (a.add j).block = a.block := by unfold Addr.add; split <;> rfl
  rw [e2]; exact hne)
 have h3 := hc j hj
 unfold World.cell? at h3 ⊢
 rw [hb]
 exact h3, h.2⟩
/-- The digit that holds the place i of a number whose lower i + 1 places are empty. -/
theorem low_digit {l : List Nat} {t z p : Nat} (hd : Digs l) (hz : z < l.length) (hp : p < 32) (h : nv l = 2 ^ (32 * z + p + 1) * t) : dg l z + 2 ^ p < 4294967296 ∧ nv (l.set z (dg l z + 2 ^ p)) = nv l + 2 ^ (32 * z + p) := by
 have e1 := nv_split l z (by omega)
 have e2 := nv_drop hz
 rw [← dg_lt hz] at e2
 have hb := nv_lt (Digs.take hd z)
 have hlen : (l.take z).length = z := by rw [List.length_take]; omega
 rw [hlen] at hb
 have hx := dg_bound hd z
 have hs := nv_set (l := l) (p := z) (d := dg l z + 2 ^ p) hz
 generalize hxx : dg l z = x at *
 rw [e2] at e1
 generalize nv (l.drop (z + 1)) = y at *
 have hpw : 2 ^ (32 * z + p + 1) = bp z * (2 * 2 ^ p) := by rw [bp_two_pow, Nat.pow_succ, Nat.pow_add, Nat.mul_assoc, Nat.mul_comm (2 ^ p) 2]
 obtain ⟨q, hq⟩ : ∃ q, 4294967296 = 2 * 2 ^ p * q := ⟨2 ^ (31 - p), by rw [Nat.mul_assoc, ← Nat.pow_add, show p + (31 - p) = 31 by omega]⟩
 have hP := Nat.two_pow_pos p
 have hB := bp_pos z
 rw [hpw, Nat.mul_assoc, e1] at h
 have hx2 : ∃ r, x = 2 * 2 ^ p * r := by
  generalize 2 * 2 ^ p = P at *
  have hlow : nv (l.take z) = 0 := by
   have h1 : bp z ∣ nv (l.take z) := (Nat.dvd_add_iff_left (Nat.dvd_mul_right _ _)).2 (by rw [h]; exact Nat.dvd_mul_right _ _)
   exact Nat.eq_zero_of_dvd_of_lt h1 hb
  rw [hlow, Nat.zero_add] at h
  have h2 := Nat.eq_of_mul_eq_mul_left hB h
  have h3 : P ∣ x := ⟨t - q * y, by rw [Nat.mul_sub, ← h2, hq, Nat.mul_assoc, Nat.add_sub_cancel]⟩
  exact h3
 obtain ⟨r, hr⟩ := hx2
 constructor
 ·generalize hPP : 2 ^ p = P at *
  have h4 : r < q := by
   rcases Nat.lt_or_ge r q with h | h
   ·exact h
   ·have := Nat.mul_le_mul_left (2 * P) h
    omega
  have h5 : 2 * P * (r + 1) ≤ 2 * P * q := Nat.mul_le_mul_left _ h4
  rw [Nat.mul_add, Nat.mul_one] at h5
  omega
 ·have e3 : 2 ^ (32 * z + p) = bp z * 2 ^ p := by rw [bp_two_pow, Nat.pow_add]
  rw [e3]
  rw [Nat.mul_add] at hs
  omega
theorem bits_rd (v : Value) (A : Option Addr) (n c N : Nat) (w : World) (hv : v = .slice A n c) (h : NatV w v N) (hs : sz N ≤ 1099511627776) : Calls Tryz.prog 153 #[.agg #[.bool false, .slice A n c]] w (Gives w fun r _ => ∃ b : Nat, r = .int .i64 b ∧ BL N b) := by
 obtain ⟨ds, hd, hN, ht, hl⟩ := h.len
 have := bits_r (.agg #[.bool false, .slice A n c]) N w ⟨false, ds, ⟨v, by rw [hv], hd⟩, by unfold iv; rw [hN]; rfl, by omega⟩
 simpa using this
theorem word_rn (v : Value) (N : Nat) (w : World) (h : NatV w v N) (hn : sz N ≤ 2) : Calls Tryz.prog 119 #[v] w (Gives w fun r _ => r = .int .u64 (N : Nat)) := by
 obtain ⟨ds, hd, rfl, ht, hl⟩ := h.len
 exact word_r v ds w hd (by omega)
theorem split_rz (z : Int) (N : Nat) (w : World) (hz : z = (N : Nat)) (hN : N < 18446744073709551616) : Calls Tryz.prog 120 #[.int .u64 z] w (Gives w fun r w' => NatV w' r N) := by
 subst hz; exact split_r N w hN
theorem shifted_rn (v : Value) (N s : Nat) (w : World) (h : NatV w v N) (hs : s ≤ 70368744177664) (hn : sz N ≤ 2199023255552) :
  Calls Tryz.prog 154 #[v, .int .i64 (s : Nat)] w (Gives w fun r w' => NatV w' r (N * 2 ^ s)) := by
 obtain ⟨ds, hd, rfl, ht, hl⟩ := h.len
 exact shifted_r v ds s w hd hs (by omega)
theorem trim_off (v : Value) (N l : Nat) (w : World) (h : NumV w v N l) (hl : l ≤ 8796093022208) : Calls Tryz.prog 74 #[v] w (Gives w fun r w' => ∃ rs, DigO w.heap.size w' r rs ∧ nv rs = N ∧ Top rs) := by
 obtain ⟨ds, h1, rfl, h3⟩ := h
 exact Gives.imp (trim_own v ds w h1 (by omega)) fun _ _ h => ⟨_, h, trim_nv ds, trim_top ds⟩
set_option maxHeartbeats 4000000 in
theorem divided_r (v u : Value) (N M : Nat) (w : World) (hv : NatV w v N) (hu : NatV w u M) (hM : M ≠ 0) (sN : sz N ≤ 1099511627776) (sM : sz M ≤ 1099511627776) :
  Calls Tryz.prog 128 #[v, u] w (Gives w fun e w' => ∃ q r, e = .tuple #[q, r] ∧ NumV w' q (N / M) (sz N + 1) ∧ NatV w' r (N % M)) := by
 have HV := Lib.hid hv; have HU := Lib.hid hu
 obtain ⟨ds, hd, hN, ht, hl⟩ := hv.len
 obtain ⟨es, he, hM', ht', hl'⟩ := hu.len
 have hd' := hd
 obtain ⟨A, p1, rfl, hl1, hc1, hA⟩ := hd
 obtain ⟨E, p2, rfl, hl2, hc2, hE⟩ := he
 have HT := Lib.hid (And.intro hd' (And.intro hN ht))
 rw [← hl] at sN; rw [← hl'] at sM
 have HL := Lib.hid (And.intro hl hl')
 clear hv hu hA hE ht ht' hl hl' hN hM' hd'
 have hM0 : (M : Int) ≠ 0 := by omega
 have hM1 : 0 < M := by omega
 by_cases hsm : ds.length ≤ 2 ∧ es.length ≤ 2
 ·obtain ⟨s1, s2⟩ := hsm
  have b1 : N < 18446744073709551616 := by
   have h1 := lt_bp_sz N
   have h2 : bp (sz N) ≤ bp 2 := bp_le (by rw [← HL.out.1]; exact s1)
   rw [bp_two] at h2
   omega
  have b3 : N / M < 18446744073709551616 := Nat.lt_of_le_of_lt (Nat.div_le_self _ _) b1
  have b4 : N % M < 18446744073709551616 := Nat.lt_of_le_of_lt (Nat.mod_le _ _) b1
  go_enter Tryz.func128, Tryz.ntmps128
  go_wp2_with fail
  refine Calls.mono (word_rn _ N _ HV.out (by rw [← HL.out.1]; exact s1)) ?_
  rintro e w1 ⟨r, rfl, rfl, hx1⟩
  go_wp2_with fail
  refine Calls.mono (word_rn _ M _ (HU.out.ext hx1) (by rw [← HL.out.2]; exact s2)) ?_
  rintro e w2 ⟨r, rfl, rfl, hx2⟩
  replace hx1 := hx1.trans hx2; clear hx2
  go_wp2_with fail
  refine Calls.mono (split_rz _ (N / M) _ (by rw [show (N : Int) / M = ((N / M : Nat) : Int) by simp]; generalize N / M = Z at *; rw [IntKind.wrap_u64]; omega) b3) ?_
  rintro e w3 ⟨r, rfl, hq, hx2⟩
  replace hx1 := hx1.trans hx2; clear hx2
  go_wp2_with fail
  refine Calls.mono (word_rn _ N _ (HV.out.ext hx1) (by rw [← HL.out.1]; exact s1)) ?_
  rintro e w4 ⟨r, rfl, rfl, hx2⟩
  replace hq := hq.ext hx2
  replace hx1 := hx1.trans hx2; clear hx2
  go_wp2_with fail
  refine Calls.mono (word_rn _ M _ (HU.out.ext hx1) (by rw [← HL.out.2]; exact s2)) ?_
  rintro e w5 ⟨r, rfl, rfl, hx2⟩
  replace hq := hq.ext hx2
  replace hx1 := hx1.trans hx2; clear hx2
  go_wp2_with fail
  refine Calls.mono (split_rz _ (N % M) _ (by simp) b4) ?_
  rintro e w6 ⟨r, rfl, hr, hx2⟩
  replace hq := hq.ext hx2
  replace hx1 := hx1.trans hx2; clear hx2
  go_wp2
  go_ret2
  exact Gives.mk ⟨_, _, rfl, hq.num (Nat.le_trans (sz_mono (Nat.div_le_self N M)) (Nat.le_succ _)), hr⟩ hx1
 ·have hcase : 2 < ds.length ∨ (ds.length ≤ 2 ∧ 2 < es.length) := by omega
  clear hsm
  rcases hcase with hcase | ⟨hcase, hcase2⟩
  all_goals
   go_enter Tryz.func128, Tryz.ntmps128
   go_wp2_with fail
   refine Calls.mono (bits_rd _ _ _ _ N _ rfl HV.out (by rw [← HL.out.1]; exact sN)) ?_
   rintro e w1 ⟨r, rfl, ⟨ba, rfl, hba⟩, hx1⟩
   have a1 : ba ≤ 32 * ds.length := by
    have h1 := lt_bp_sz N
    rw [bp_two_pow] at h1
    have := hba.le h1
    rw [← HL.out.1] at this
    omega
   go_wp2_with fail
   refine Calls.mono (bits_rd _ _ _ _ M _ rfl (HU.out.ext hx1) (by rw [← HL.out.2]; exact sM)) ?_
   rintro e w2 ⟨r, rfl, ⟨bb, rfl, hbb⟩, hx2⟩
   have a2 : bb ≤ 35184372088832 := by
    have h1 := lt_bp_sz M
    rw [bp_two_pow] at h1
    have := hbb.le h1
    rw [← HL.out.2] at this
    omega
   replace hx1 := hx1.trans hx2; clear hx2
   have HB := Lib.hid (And.intro hba hbb); clear hba hbb
   by_cases hlt : ba < bb
   ·have hNM : N < M := by
     have h1 := HB.out.1.1
     have h2 := HB.out.2.2 (by omega)
     have h3 : 2 ^ ba ≤ 2 ^ (bb - 1) := Nat.pow_le_pow_right (by decide) (by omega)
     omega
    have H1 := Lib.hid (And.intro (Nat.div_eq_of_lt hNM) (Nat.mod_eq_of_lt hNM)); clear hNM
    go_wp2
    go_ret2
    refine Gives.mk ⟨_, _, rfl, ?_, ?_⟩ hx1
    ·rw [H1.out.1]; exact ⟨[], ⟨none, 0, rfl, Nat.le_refl _, by omega, Digs.nil, fun h => absurd h (by simp)⟩, rfl, by simp⟩
    ·rw [H1.out.2]; exact HV.out.ext hx1
   ·obtain ⟨n, hn⟩ : ∃ n, ba = bb + n := ⟨ba - bb, by omega⟩
    have hn1 : (ba : Int) - bb = n := by omega
    have hn2 : n ≤ 32 * ds.length := by omega
    have hmk := fun W => make_u32 (n / 32 + 1) ((n : Int) / 32 + 1) (by omega) (by omega) W
    have Hn := Lib.hid hn; clear hn hlt a1 a2
    go_wp2
    go_loopw [6, 9] (fun rv iv wr => ∃ (k R : Nat) (rs l : List Nat), k ≤ n + 1 ∧ (∃ q : Int, q + 1 = k ∧ iv = .int .i64 q) ∧ DigF w2.heap.size wr rv rs ∧ nv rs = R ∧ Top rs ∧ DBlk wr w2.heap.size 87 l ∧ Digs l ∧ l.length = n / 32 + 1 ∧ nv l * M + R = N ∧ R < M * 2 ^ k ∧ (∃ t, nv l = 2 ^ k * t) ∧ Ext w2 wr) (fun _ iv _ => (intOf iv + 1).toNat)
    case atStart =>
     refine ⟨n + 1, N, ds, _, Nat.le_refl _, ⟨_, by omega, rfl⟩, (DigF.of_old (HT.out.1.ext hx1) (Nat.le_refl _)).ext ((Ext.refl w2).alloc _), HT.out.2.1, HT.out.2.2, DBlk.new _ _ _, Digs.zeros _, List.length_replicate, by rw [nv_zeros]; omega, ?_, ⟨0, by rw [nv_zeros]; rfl⟩, (Ext.refl w2).alloc _⟩
     ·have h1 := HB.out.1.1
      have h2 : bb = 0 ∨ 2 ^ (bb - 1) ≤ M := by
       rcases Nat.eq_zero_or_pos bb with h | h
       ·exact .inl h
       ·exact .inr (HB.out.2.2 h)
      rcases h2 with h2 | h2
      ·have := HB.out.2.1; rw [h2] at this; omega
      ·have hb0 : bb ≠ 0 := by rintro rfl; have := HB.out.2.1; omega
       have h3 : 2 ^ (bb - 1) * 2 ^ (n + 1) ≤ M * 2 ^ (n + 1) := Nat.mul_le_mul_right _ h2
       rw [← Nat.pow_add, show bb - 1 + (n + 1) = ba by have := Hn.out; omega] at h3
       omega
    case round =>
     obtain ⟨k, R, rs, l, hk, ⟨q, hq, rfl⟩, hrf, hrv, hrt, hblk, hdl, hll, hval, hlt, ht, hx⟩ := hrel
     obtain ⟨A1, c1, rfl, r1, r2, -⟩ := hrf.1
     have Hr := Lib.hid (And.intro hrf (And.intro hrv hrt)); clear hrf hrv hrt
     have Hv := Lib.hid (And.intro hval (And.intro hlt ht)); clear hval hlt ht
     have hRN : R ≤ N := by have := Hv.out.1; omega
     by_cases hk0 : 0 < k
     ·obtain ⟨i, rfl⟩ : ∃ j, k = j + 1 := ⟨k - 1, by omega⟩
      obtain rfl : q = (i : Int) := by omega
      clear hq
      go_wp2_with fail
      refine Calls.mono (shifted_rn _ M i _ (HU.out.ext (hx1.trans hx)) (by omega) (by rw [← HL.out.2]; omega)) ?_
      rintro e w3 ⟨r, rfl, hs, hx3⟩
      have hrn : NatV w3 (.slice A1 rs.length c1) R := ⟨rs, Hr.out.1.1.ext hx3, Hr.out.2.1, Hr.out.2.2⟩
      go_wp2_with fail
      refine Calls.mono (below_num _ _ R (M * 2 ^ i) _ hrn hs) ?_
      rintro e w4 ⟨r, rfl, rfl, hx4⟩
      by_cases hcmp : R < M * 2 ^ i
      ·have hb : decide (R < M * 2 ^ i) = true := by simpa using hcmp
       have Hc := Lib.hid hcmp; clear hcmp
       go_wp2
       go_roundw
       case rel => exact ⟨i, R, rs, l, by omega, ⟨_, by omega, rfl⟩, (Hr.out.1.ext hx3).ext hx4, Hr.out.2.1, Hr.out.2.2, (hblk.ext hx3).ext hx4, hdl, hll, Hv.out.1, Hc.out, by
        obtain ⟨t, ht⟩ := Hv.out.2.2
        exact ⟨2 * t, by rw [ht, Nat.pow_succ, Nat.mul_assoc]⟩, (hx.trans hx3).trans hx4⟩
       case measure => simp [intOf] <;> omega
      ·have hb : decide (R < M * 2 ^ i) = false := by simpa using hcmp
       have Hc := Lib.hid hcmp; clear hcmp
       go_wp2_with fail
       refine Calls.mono (minus_rn _ _ R (M * 2 ^ i) _ (hrn.ext hx4) (hs.ext hx4) (by have := Hc.out; omega) (Nat.le_trans (sz_mono hRN) (by rw [← HL.out.1]; exact sN))) ?_
       rintro e w5 ⟨r5, rfl, hd5, hx5⟩
       go_wp2_with fail
       refine Calls.mono (trim_off _ _ _ _ hd5 (Nat.le_trans (sz_mono hRN) (by rw [← HL.out.1]; omega))) ?_
       rintro e w6 ⟨r6, rfl, ⟨rs', ho6, hv6, ht6⟩, hx6⟩
       have hf6 : DigF w2.heap.size w6 r6 rs' := DigF.of_own ho6 (by have := ((hx.trans hx3).trans (hx4.trans hx5)).size; have := hblk.lt; have := ((hx3.trans hx4).trans hx5).size; omega)
       have hx7 : Ext wr w6 := (((hx3.trans hx4).trans hx5).trans hx6)
       replace hblk := hblk.ext hx7
       replace hx := hx.trans hx7
       have H6 := Lib.hid (And.intro hf6 (And.intro hv6 ht6)); clear hf6 hv6 ht6 ho6 hd5 hs hrn hx3 hx4 hx5 hx6 hx7
       obtain ⟨z, hz⟩ : ∃ z, z = i / 32 := ⟨_, rfl⟩
       obtain ⟨p, hp⟩ : ∃ p, p = i % 32 := ⟨_, rfl⟩
       have hp32 : p < 32 := by omega
       have hzl : z < l.length := by omega
       have e1 : (i : Int) / 32 = z := by omega
       have e2 : (i : Int) % 32 = p := by omega
       have ei : i = 32 * z + p := by omega
       obtain ⟨S, hS⟩ : ∃ S, 2 ^ p = S := ⟨_, rfl⟩
       have hSi : (2 : Int) ^ p = (S : Nat) := by rw [← hS]; simp
       have hS1 : S ≤ 2147483648 := by rw [← hS]; exact Nat.pow_le_pow_right (by decide) (show p ≤ 31 by omega)
       have hlow : dg l z + S < 4294967296 ∧ nv (l.set z (dg l z + S)) = nv l + 2 ^ i := by
        obtain ⟨t, ht⟩ := Hv.out.2.2
        have := low_digit hdl hzl hp32 (t := t) (by rw [ht, ei])
        rw [ei]
        rw [hS] at this
        exact this
       have hmc := hblk.celld (i := z) hzl
       have hfz := hblk.frozen z
       generalize hdd : dg l z = d at *
       have hd1 := hlow.1
       have Hlow := Lib.hid hlow; clear hlow hdd
       have Hi := Lib.hid (And.intro hz (And.intro hp (And.intro ei hS))); clear hz hp ei hS
       go_wp2
       go_roundw
       case rel =>
        refine ⟨i, R - M * 2 ^ i, rs', l.set z (d + S), by omega, ⟨_, by omega, rfl⟩, H6.out.1.set_ _ _, H6.out.2.1, H6.out.2.2, hblk.setI _ _ (by omega), hdl.set (by omega) _, by simpa using hll, ?_, ?_, ?_, hx.setCell _ _ (Nat.le_refl _)⟩
        ·rw [Hlow.out.2, Nat.add_mul, Nat.mul_comm (2 ^ i) M]
         have := Hv.out.1; have := Hc.out; omega
        ·have h1 := Hv.out.2.1
         rw [Nat.pow_succ, ← Nat.mul_assoc] at h1
         have := Hc.out; omega
        ·obtain ⟨t, ht⟩ := Hv.out.2.2
         exact ⟨2 * t + 1, by rw [Hlow.out.2, ht, Nat.pow_succ, Nat.mul_add, Nat.mul_one, Nat.mul_assoc]⟩
       case measure => simp [intOf] <;> omega
     ·obtain rfl : k = 0 := by omega
      have q1 : q < 0 := by omega
      have hlt := Hv.out.2.1
      rw [Nat.pow_zero, Nat.mul_one] at hlt
      have hdv : N / M = nv l ∧ N % M = R := by
       have h1 := Hv.out.1
       rw [← h1, Nat.add_comm, Nat.mul_comm]
       exact ⟨by rw [Nat.add_mul_div_left _ _ hM1, Nat.div_eq_of_lt hlt, Nat.zero_add], by rw [Nat.add_mul_mod_self_left, Nat.mod_eq_of_lt hlt]⟩
      have Hd := Lib.hid hdv; clear hdv hlt
      go_wp2
      go_ret2
      have hq := hblk.digv hdl (c := n / 32 + 1) (by omega) (by omega)
      rw [hll] at hq
      exact Gives.mk ⟨_, _, rfl, ⟨l, hq, Hd.out.1.symm, by rw [← HL.out.1]; omega⟩, ⟨rs, Hr.out.1.1, by rw [Hd.out.2]; exact Hr.out.2.1, Hr.out.2.2⟩⟩ (hx1.trans hx)
end Go.Proofs.YtfacbpnegkjcgaaGreatDoor
namespace Go.Proofs.YtfacbpnegkjcgaaGreatDoor
open Go.RowKit Go.Hp
def EucZ (x y : Int) (r : Value) (w : World) : Prop := ∃ a b, r = .tuple #[a, b] ∧ IsZ w a (x / y) ∧ IsZ w b (x % y)
theorem euc_plain {x y : Int} (hy : y ≠ 0) (h : ¬ (x < 0 ∧ x.natAbs % y.natAbs ≠ 0)) : x / y = (if (decide (x < 0) != decide (y < 0)) = true then -((x.natAbs / y.natAbs : Nat) : Int) else (x.natAbs / y.natAbs : Nat)) ∧ x % y = (x.natAbs % y.natAbs : Nat) := by
 have hM : 0 < y.natAbs := by omega
 have ey : y = if decide (y < 0) = true then -(y.natAbs : Int) else y.natAbs := by by_cases h : y < 0 <;> simp [h] <;> omega
 by_cases hx : x < 0
 ·have e0 : x.natAbs % y.natAbs = 0 := Decidable.byContradiction fun e => h ⟨hx, e⟩
  have ex : x = -(x.natAbs : Int) := by omega
  have := euclid_neg0 (decide (y < 0)) hM e0
  rw [← ey, ← ex] at this
  simpa [hx] using this
 ·have ex : x = (x.natAbs : Int) := by omega
  have := euclid_pos (N := x.natAbs) (decide (y < 0)) hM
  rw [← ey, ← ex] at this
  simpa [hx] using this
theorem euc_up {x y : Int} (hy : y ≠ 0) (hx : x < 0) (h : 0 < x.natAbs % y.natAbs) : x / y = (if (!decide (y < 0)) = true then -((x.natAbs / y.natAbs + 1 : Nat) : Int) else (x.natAbs / y.natAbs + 1 : Nat)) ∧ x % y = (y.natAbs : Int) - (x.natAbs % y.natAbs : Nat) := by
 have hM : 0 < y.natAbs := by omega
 have ey : y = if decide (y < 0) = true then -(y.natAbs : Int) else y.natAbs := by by_cases h : y < 0 <;> simp [h] <;> omega
 have ex : x = -(x.natAbs : Int) := by omega
 have := euclid_neg (decide (y < 0)) hM h
 rw [← ey, ← ex] at this
 have h2 := Nat.mod_lt x.natAbs hM
 exact ⟨this.1, by rw [this.2]; omega⟩
set_option maxHeartbeats 2000000 in
theorem euclid_r (v u : Value) (x y : Int) (w : World) (hv : HasZ w v x) (hu : HasZ w u y) (hy : y ≠ 0) (sx : sz x.natAbs ≤ 549755813888) (sy : sz y.natAbs ≤ 549755813888) : Calls Tryz.prog 84 #[v, u] w (Gives w (EucZ x y)) := by
 have HV := Lib.hid hv; have HU := Lib.hid hu; have HY := Lib.hid hy
 obtain ⟨neg, A, n, c, N, rfl, -, -, -, -, -⟩ := hv.form
 obtain ⟨neg', A', n', c', M, rfl, -, -, -, -, -⟩ := hu.form
 clear hv hu hy
 go_enter Tryz.func84, Tryz.ntmps84
 go_wp2_with fail
 refine wp_region_apart (k := 6) (D := [11, 12, 13, 14, 6, 7]) (T := [[], [0], [], [0, 1, 2], [], [], [0, 1, 2, 3, 4, 5], [0, 1, 2, 3, 4, 5, 6]]) (EK := [2, 3]) (EV := [?e1x0, ?e1x1]) (VL := [(kv ?v1x0), (fun γ => γ 1), (kv ?v1x2), (fun γ => γ 3), (fun γ => γ 4), (fun γ => γ 5)]) (FL := fun γ w' => [True, IsZ w' (γ 1) x, True, IsZ w' (γ 3) y, NewAt w' (γ 4) (w.heap.size + 4) #[.bool false, .slice none 0 0] 28, NewAt w' (γ 5) (w.heap.size + 4) #[.bool false, .slice none 0 0] 28]) ?hE1 (by kernel_rfl) (by kernel_rfl) (by rfl) (by kernel_rfl) ?hloc1 ?hmono1 ?hstep1 ?htail1
 case hE1 => refine ⟨?_, ?_, trivial⟩ <;> (simp only [List.getElem?_toArray, List.getElem?_cons_succ, List.getElem?_cons_zero]; rfl)
 case hstep1 =>
  refine ⟨⟨⟨⟨⟨⟨trivial, ?_⟩, ?_⟩, ?_⟩, ?_⟩, ?_⟩, ?_⟩
  ·intro γ w' he hf; clear hf; refine ⟨trivial, ?_⟩; intro R hR
   have hc := he.cells
   go_simp
   (try go_ints); (try (rw [if_neg (by omega)])); (try (rw [if_pos (by omega)])); (try go_simp); (try go_ints)
   refine hR _ _ (Ext.refl _) ?_ trivial
   rfl
  ·intro γ w' he hf; clear hf; refine ⟨trivial, ?_⟩; intro R hR
   go_simp
   refine Calls.mono (show Calls _ _ _ w' (Gives w' fun r w'' => IsZ w'' (r) x) from norm_r _ x w' (HV.out.ext he.a4)) ?_
   rintro e w2 ⟨v, rfl, hv, hx⟩
   exact ⟨v, rfl, hR v w2 hx rfl hv⟩
  ·intro γ w' he hf; clear hf; refine ⟨trivial, ?_⟩; intro R hR
   have hc := he.cells
   go_simp
   (try go_ints); (try (rw [if_neg (by omega)])); (try (rw [if_pos (by omega)])); (try go_simp); (try go_ints)
   refine hR _ _ (Ext.refl _) ?_ trivial
   rfl
  ·intro γ w' he hf; have f1 : IsZ w' (γ 1) x := hf 1 (by decide); clear hf; refine ⟨trivial, ?_⟩; intro R hR
   go_simp
   refine Calls.mono (show Calls _ _ _ w' (Gives w' fun r w'' => IsZ w'' (r) y) from norm_r _ y w' (HU.out.ext he.a4)) ?_
   rintro e w2 ⟨v, rfl, hv, hx⟩
   exact ⟨v, rfl, hR v w2 hx rfl hv⟩
  ·intro γ w' he hf; clear hf; refine ⟨trivial, ?_⟩; intro R hR
   go_simp
   exact hR _ _ ((Ext.refl _).alloc _) rfl (NewAt.mk (Nat.le_trans (by simp) he.size) (by simp [isDig]))
  ·intro γ w' he hf; clear hf; refine ⟨trivial, ?_⟩; intro R hR
   go_simp
   exact hR _ _ ((Ext.refl _).alloc _) rfl (NewAt.mk (Nat.le_trans (by simp) he.size) (by simp [isDig]))
 case hloc1 =>
  exact ⟨⟨⟨⟨⟨⟨trivial, (fun γ γ' h => ⟨rfl, fun _ => rfl⟩)⟩, (fun γ γ' h => ⟨h 1 rfl, fun w' => (congrArg (fun a => IsZ w' (a) x) (h 1 rfl))⟩)⟩, (fun γ γ' h => ⟨rfl, fun _ => rfl⟩)⟩, (fun γ γ' h => ⟨h 3 rfl, fun w' => (congrArg (fun a => IsZ w' (a) y) (h 3 rfl))⟩)⟩, (fun γ γ' h => ⟨h 4 rfl, fun w' => (congrArg (fun a => NewAt w' (a) (w.heap.size + 4) #[.bool false, .slice none 0 0] 28) (h 4 rfl))⟩)⟩, (fun γ γ' h => ⟨h 5 rfl, fun w' => (congrArg (fun a => NewAt w' (a) (w.heap.size + 4) #[.bool false, .slice none 0 0] 28) (h 5 rfl))⟩)⟩
 case hmono1 =>
  exact ⟨⟨⟨⟨⟨⟨trivial, (fun γ wA w' e h => h)⟩, (fun γ wA w' e h => (show IsZ wA (γ 1) x from h).ext e)⟩, (fun γ wA w' e h => h)⟩, (fun γ wA w' e h => (show IsZ wA (γ 3) y from h).ext e)⟩, (fun γ wA w' e h => (show NewAt wA (γ 4) (w.heap.size + 4) #[.bool false, .slice none 0 0] 28 from h).ext e)⟩, (fun γ wA w' e h => (show NewAt wA (γ 5) (w.heap.size + 4) #[.bool false, .slice none 0 0] 28 from h).ext e)⟩
 intro γ w1 hx1 hF hA
 have na4x5 : γ 4 ≠ γ 5 := hA 4 5 (by decide) (by decide) (by decide) ⟨_, _, rfl, rfl⟩ ⟨_, _, rfl, rfl⟩
 clear hA
 have p1 : IsZ w1 (γ 1) x := Each.get hF 1 (by decide)
 have p3 : IsZ w1 (γ 3) y := Each.get hF 3 (by decide)
 have p4 : NewAt w1 (γ 4) (w.heap.size + 4) #[.bool false, .slice none 0 0] 28 := Each.get hF 4 (by decide)
 have p5 : NewAt w1 (γ 5) (w.heap.size + 4) #[.bool false, .slice none 0 0] 28 := Each.get hF 5 (by decide)
 clear hF
 simp only [fillAll, gV, kv, List.getD_cons_zero, List.getD_cons_succ, Act.put, List.setIfInBounds_toArray, List.set_cons_zero, List.set_cons_succ, List.toList_toArray, List.drop_succ_cons, List.drop_zero, List.drop_nil, Nat.zero_add, Nat.reduceAdd]
 generalize γ 1 = g1 at *
 generalize γ 3 = g3 at *
 generalize γ 4 = g4 at *
 generalize γ 5 = g5 at *
 clear γ
 obtain ⟨ga, rfl, hga, ea⟩ := p4
 obtain ⟨gb, rfl, hgb, eb⟩ := p5
 have hab : ga ≠ gb := fun e => na4x5 (by rw [e])
 clear na4x5
 obtain ⟨A1, c1, rfl, q1, q2, -⟩ := p1.form
 obtain ⟨A2, c2, rfl, q3, q4, -⟩ := p3.form
 obtain ⟨bx, hbx⟩ : ∃ b, b = decide (x < 0) := ⟨_, rfl⟩
 obtain ⟨by_, hby⟩ : ∃ b, b = decide (y < 0) := ⟨_, rfl⟩
 rw [← hbx] at p1 ⊢
 rw [← hby] at p3 ⊢
 have Hb := Lib.hid (And.intro hbx hby); clear hbx hby
 obtain ⟨cea0, cea1⟩ := ea.cells2
 have fea := ea.frozen
 obtain ⟨ceb0, ceb1⟩ := eb.cells2
 have feb := eb.frozen
 go_upto_region 2 with (fail)
 obtain ⟨W1, eW, ea', U⟩ := ea.put2 (.bool bx) (.slice A1 (sz x.natAbs) c1) rfl rfl
 rw [← eW]
 clear eW ea
 replace p1 := p1.kd U.kd
 replace p3 := p3.kd U.kd
 replace eb := eb.upd U (by simp <;> omega)
 replace hx1 := U.from_ hx1 (by simp <;> omega)
 have ea := ea'
 clear U ea'
 obtain ⟨W2, eW, eb', U⟩ := eb.put2 (.bool by_) (.slice A2 (sz y.natAbs) c2) rfl rfl
 rw [← eW]
 clear eW eb
 replace p1 := p1.kd U.kd
 replace p3 := p3.kd U.kd
 replace ea := ea.upd U (by simp <;> omega)
 replace hx1 := U.from_ hx1 (by simp <;> omega)
 have eb := eb'
 clear U eb'
 clear cea0 cea1 ceb0 ceb1 fea feb
 obtain ⟨cea0, cea1⟩ := ea.cells2
 have fea := ea.frozen
 obtain ⟨ceb0, ceb1⟩ := eb.cells2
 have feb := eb.frozen
 have hc1 := hx1.cells
 have hf1 := hx1.frozens
 go_wp2_with fail
 refine Calls.mono (divided_r _ _ x.natAbs y.natAbs _ p1.nat p3.nat (by have := HY.out; omega) (by omega) (by omega)) ?_
 rintro e w3 ⟨r, rfl, ⟨q, r3, rfl, hq, hr⟩, hx2⟩
 obtain ⟨A3, c3, rfl, d1, d2⟩ := hr.form
 clear hc1 hf1 cea0 cea1 ceb0 ceb1 fea feb
 replace p1 := p1.ext hx2
 replace p3 := p3.ext hx2
 replace ea := ea.ext hx2
 replace eb := eb.ext hx2
 replace hx1 := hx1.trans hx2
 clear hx2
 obtain ⟨cea0, cea1⟩ := ea.cells2
 have fea := ea.frozen
 obtain ⟨ceb0, ceb1⟩ := eb.cells2
 have feb := eb.frozen
 have hc1 := hx1.cells
 have hf1 := hx1.frozens
 have Hq := Lib.hid hq; clear hq
 go_wp2_with fail
 refine Calls.mono (signed_r ((x.natAbs % y.natAbs : Nat) : Int) false _ (x.natAbs % y.natAbs) _ _ rfl (hr.num (Nat.le_refl _)) (Nat.le_trans (sz_mono (Nat.mod_le _ _)) (by omega))) ?_
 rintro e w4 ⟨r, rfl, hz, hx2⟩
 replace Hq := Lib.hid (Hq.out.ext hx2)
 clear hc1 hf1 cea0 cea1 ceb0 ceb1 fea feb hr
 replace p1 := p1.ext hx2
 replace p3 := p3.ext hx2
 replace ea := ea.ext hx2
 replace eb := eb.ext hx2
 replace hx1 := hx1.trans hx2
 clear hx2
 obtain ⟨A4, c4, rfl, d3, d4, -⟩ := hz.form
 have hbz : decide (((x.natAbs % y.natAbs : Nat) : Int) < 0) = false := decide_eq_false (by omega)
 rw [hbz] at hz
 simp only [hbz, Int.natAbs_natCast] at hz d3 ⊢
 go_upto_region 4 with (fail)
 have ec := Box.new w4 28 #[.bool false, .slice A4 (sz (x.natAbs % y.natAbs)) c4] (by simp [isDig])
 obtain ⟨w5, hw5⟩ : ∃ w5, w5 = w4.alloc (.cells #[.bool false, .slice A4 (sz (x.natAbs % y.natAbs)) c4] 28) := ⟨_, rfl⟩
 obtain ⟨gc, hgc⟩ : ∃ g, g = w4.heap.size := ⟨_, rfl⟩
 have hx2 : Ext w4 w5 := by rw [hw5]; exact (Ext.refl w4).alloc _
 rw [← hw5, ← hgc] at ec ⊢
 have hgc4 : w.heap.size + 4 ≤ gc := by have := hx1.size; simp at this; omega
 clear hw5 hgc
 replace Hq := Lib.hid (Hq.out.ext hx2)
 replace p1 := p1.ext hx2
 replace p3 := p3.ext hx2
 replace hz := hz.ext hx2
 replace ea := ea.ext hx2
 replace eb := eb.ext hx2
 replace hx1 := hx1.trans hx2
 clear hx2
 obtain ⟨cea0, cea1⟩ := ea.cells2
 have fea := ea.frozen
 obtain ⟨ceb0, ceb1⟩ := eb.cells2
 have feb := eb.frozen
 obtain ⟨cec0, cec1⟩ := ec.cells2
 have fec := ec.frozen
 have hc1 := hx1.cells
 have hf1 := hx1.frozens
 by_cases hup : x < 0 ∧ x.natAbs % y.natAbs ≠ 0
 ·have H := Lib.hid (euc_up HY.out hup.1 (by omega))
  obtain rfl : bx = true := by rw [Hb.out.1]; simpa using hup.1
  have hb : decide (0 < sz (x.natAbs % y.natAbs)) = true := by have := sz_pos hup.2; simpa using this
  clear hup
  go_wp2_with fail
  refine wp_region_par (k := 10) (D := [33, 34, 35, 36, 37, 38, 39, 40, 41, 42]) (T := [[], [0], [0, 1], [], [], [3, 4], [0, 1, 2, 3, 4, 5], [], [0, 1, 2, 3, 4, 5, 6, 7], [], [0, 1, 2, 3, 4, 5, 6, 7, 8, 9], [0, 1, 2, 3, 4, 5, 6, 7, 8, 9, 10], [0, 1, 2, 3, 4, 5, 6, 7, 8, 9, 10, 11]]) (EK := [7, 8, 10]) (EV := [?e2x0, ?e2x1, ?e2x2]) (VL := [(kv ?v2x0), (kv ?v2x1), (kv ?v2x2), (kv ?v2x3), (fun γ => γ 4), (fun γ => γ 5), (fun γ => γ 6), (kv ?v2x7), (fun γ => γ 8), (kv ?v2x9)]) (FL := fun γ w' => [True, True, True, True, NumV w' (γ 4) 1 1, NumV w' (γ 5) (x.natAbs / y.natAbs + 1) (max (sz x.natAbs + 1) 1 + 1), IsZ w' (γ 6) (x / y), True, IsZ w' (γ 8) (y.natAbs : Nat), True]) ?hE2 (by kernel_rfl) (by kernel_rfl) (by rfl) (by kernel_rfl) ?hloc2 ?hmono2 ?hstep2 ?htail2
  case hE2 => refine ⟨?_, ?_, ?_, trivial⟩ <;> (simp only [List.getElem?_toArray, List.getElem?_cons_succ, List.getElem?_cons_zero]; rfl)
  case hstep2 =>
   refine ⟨⟨⟨⟨⟨⟨⟨⟨⟨⟨trivial, ?_⟩, ?_⟩, ?_⟩, ?_⟩, ?_⟩, ?_⟩, ?_⟩, ?_⟩, ?_⟩, ?_⟩
   ·intro γ w' he hf; clear hf; refine ⟨trivial, ?_⟩; intro R hR
    have hc := he.cells
    go_simp
    (try go_ints); (try (rw [if_neg (by omega)])); (try (rw [if_pos (by omega)])); (try go_simp); (try go_ints)
    refine hR _ _ (Ext.refl _) ?_ trivial
    rfl
   ·intro γ w' he hf; clear hf; refine ⟨trivial, ?_⟩; intro R hR
    have hc := he.cells
    have cq0 := he.cell cea0
    have cq1 := he.cell cea1
    have cq2 := he.cell ceb0
    have cq3 := he.cell ceb1
    have cq4 := he.cell cec0
    have cq5 := he.cell cec1
    go_simp
    (try go_ints); (try (rw [if_neg (by omega)])); (try (rw [if_pos (by omega)])); (try go_simp); (try go_ints)
    refine hR _ _ (Ext.refl _) ?_ trivial
    rfl
   ·intro γ w' he hf; clear hf; refine ⟨trivial, ?_⟩; intro R hR
    have hc := he.cells
    go_simp
    (try go_ints); (try (rw [if_neg (by omega)])); (try (rw [if_pos (by omega)])); (try go_simp); (try go_ints)
    refine hR _ _ (Ext.refl _) ?_ trivial
    rfl
   ·intro γ w' he hf; clear hf; refine ⟨trivial, ?_⟩; intro R hR
    have hc := he.cells
    go_simp
    (try go_ints); (try (rw [if_neg (by omega)])); (try (rw [if_pos (by omega)])); (try go_simp); (try go_ints)
    refine hR _ _ (Ext.refl _) ?_ trivial
    rfl
   ·intro γ w' he hf; clear hf; refine ⟨trivial, ?_⟩; intro R hR
    go_simp
    exact hR _ _ ((Ext.refl _).alloc _) rfl (NumV.unit _ _)
   ·intro γ w' he hf; have f4 : NumV w' (γ 4) 1 1 := hf 4 (by decide); clear hf; refine ⟨trivial, ?_⟩; intro R hR
    go_simp
    refine Calls.mono (show Calls _ _ _ w' (Gives w' fun r w'' => NumV w'' (r) (x.natAbs / y.natAbs + 1) (max (sz x.natAbs + 1) 1 + 1)) from plus_rn _ _ _ _ _ _ w' (Hq.out.ext he) f4 (by omega) (by omega)) ?_
    rintro e w2 ⟨v, rfl, hv, hx⟩
    exact ⟨v, rfl, hR v w2 hx rfl hv⟩
   ·intro γ w' he hf; have f4 : NumV w' (γ 4) 1 1 := hf 4 (by decide); have f5 : NumV w' (γ 5) (x.natAbs / y.natAbs + 1) (max (sz x.natAbs + 1) 1 + 1) := hf 5 (by decide); clear hf; refine ⟨trivial, ?_⟩; intro R hR
    go_simp
    refine Calls.mono (show Calls _ _ _ w' (Gives w' fun r w'' => IsZ w'' (r) (x / y)) from signed_r (x / y) (!by_) _ _ _ w' (by rw [H.out.1, Hb.out.2]) f5 (by omega)) ?_
    rintro e w2 ⟨v, rfl, hv, hx⟩
    exact ⟨v, rfl, hR v w2 hx rfl hv⟩
   ·intro γ w' he hf; clear hf; refine ⟨trivial, ?_⟩; intro R hR
    have hc := he.cells
    have cq0 := he.cell cea0
    have cq1 := he.cell cea1
    have cq2 := he.cell ceb0
    have cq3 := he.cell ceb1
    have cq4 := he.cell cec0
    have cq5 := he.cell cec1
    go_simp
    (try go_ints); (try (rw [if_neg (by omega)])); (try (rw [if_pos (by omega)])); (try go_simp); (try go_ints)
    refine hR _ _ (Ext.refl _) ?_ trivial
    rfl
   ·intro γ w' he hf; have f4 : NumV w' (γ 4) 1 1 := hf 4 (by decide); have f5 : NumV w' (γ 5) (x.natAbs / y.natAbs + 1) (max (sz x.natAbs + 1) 1 + 1) := hf 5 (by decide); have f6 : IsZ w' (γ 6) (x / y) := hf 6 (by decide); clear hf; refine ⟨trivial, ?_⟩; intro R hR
    go_simp
    refine Calls.mono (show Calls _ _ _ w' (Gives w' fun r w'' => IsZ w'' (r) (y.natAbs : Nat)) from abs_r _ y w' ((p3.ext he).has (by omega))) ?_
    rintro e w2 ⟨v, rfl, hv, hx⟩
    exact ⟨v, rfl, hR v w2 hx rfl hv⟩
   ·intro γ w' he hf; clear hf; refine ⟨trivial, ?_⟩; intro R hR
    have hc := he.cells
    have cq0 := he.cell cea0
    have cq1 := he.cell cea1
    have cq2 := he.cell ceb0
    have cq3 := he.cell ceb1
    have cq4 := he.cell cec0
    have cq5 := he.cell cec1
    go_simp
    (try go_ints); (try (rw [if_neg (by omega)])); (try (rw [if_pos (by omega)])); (try go_simp); (try go_ints)
    refine hR _ _ (Ext.refl _) ?_ trivial
    rfl
  case hloc2 =>
   exact ⟨⟨⟨⟨⟨⟨⟨⟨⟨⟨trivial, (fun γ γ' h => ⟨rfl, fun _ => rfl⟩)⟩, (fun γ γ' h => ⟨rfl, fun _ => rfl⟩)⟩, (fun γ γ' h => ⟨rfl, fun _ => rfl⟩)⟩, (fun γ γ' h => ⟨rfl, fun _ => rfl⟩)⟩, (fun γ γ' h => ⟨h 4 rfl, fun w' => (congrArg (fun a => NumV w' (a) 1 1) (h 4 rfl))⟩)⟩, (fun γ γ' h => ⟨h 5 rfl, fun w' => (congrArg (fun a => NumV w' (a) (x.natAbs / y.natAbs + 1) (max (sz x.natAbs + 1) 1 + 1)) (h 5 rfl))⟩)⟩, (fun γ γ' h => ⟨h 6 rfl, fun w' => (congrArg (fun a => IsZ w' (a) (x / y)) (h 6 rfl))⟩)⟩, (fun γ γ' h => ⟨rfl, fun _ => rfl⟩)⟩, (fun γ γ' h => ⟨h 8 rfl, fun w' => (congrArg (fun a => IsZ w' (a) (y.natAbs : Nat)) (h 8 rfl))⟩)⟩, (fun γ γ' h => ⟨rfl, fun _ => rfl⟩)⟩
  case hmono2 =>
   exact ⟨⟨⟨⟨⟨⟨⟨⟨⟨⟨trivial, (fun γ wA w' e h => h)⟩, (fun γ wA w' e h => h)⟩, (fun γ wA w' e h => h)⟩, (fun γ wA w' e h => h)⟩, (fun γ wA w' e h => (show NumV wA (γ 4) 1 1 from h).ext e)⟩, (fun γ wA w' e h => (show NumV wA (γ 5) (x.natAbs / y.natAbs + 1) (max (sz x.natAbs + 1) 1 + 1) from h).ext e)⟩, (fun γ wA w' e h => (show IsZ wA (γ 6) (x / y) from h).ext e)⟩, (fun γ wA w' e h => h)⟩, (fun γ wA w' e h => (show IsZ wA (γ 8) (y.natAbs : Nat) from h).ext e)⟩, (fun γ wA w' e h => h)⟩
  intro γ w6 hx6 hF
  have p4 : NumV w6 (γ 4) 1 1 := Each.get hF 4 (by decide)
  have p5 : NumV w6 (γ 5) (x.natAbs / y.natAbs + 1) (max (sz x.natAbs + 1) 1 + 1) := Each.get hF 5 (by decide)
  have p6 : IsZ w6 (γ 6) (x / y) := Each.get hF 6 (by decide)
  have p8 : IsZ w6 (γ 8) (y.natAbs : Nat) := Each.get hF 8 (by decide)
  clear hF
  simp only [fillAll, gV, kv, List.getD_cons_zero, List.getD_cons_succ, Act.put, List.setIfInBounds_toArray, List.set_cons_zero, List.set_cons_succ, List.toList_toArray, List.drop_succ_cons, List.drop_zero, List.drop_nil, Nat.zero_add, Nat.reduceAdd]
  generalize γ 4 = g4 at *
  generalize γ 5 = g5 at *
  generalize γ 6 = g6 at *
  generalize γ 8 = g8 at *
  clear γ
  go_wp2_with fail
  refine Calls.mono (sub_r _ _ (y.natAbs : Nat) (x.natAbs % y.natAbs : Nat) _ (p8.has (by rw [Int.natAbs_natCast]; omega)) ((hz.ext hx6).has (by rw [Int.natAbs_natCast]; exact Nat.le_trans (sz_mono (Nat.mod_le _ _)) (by omega))) (by rw [Int.natAbs_natCast]; omega) (by rw [Int.natAbs_natCast]; exact Nat.le_trans (sz_mono (Nat.mod_le _ _)) (by omega))) ?_
  rintro e w7 ⟨r, rfl, hr7, hx7⟩
  rw [← H.out.2] at hr7
  replace p6 := p6.ext hx7
  replace hx1 := (hx1.trans hx6).trans hx7
  clear hc1 hf1 cea0 cea1 ceb0 ceb1 cec0 cec1 fea feb fec hx6 hx7 p4 p5 p8
  obtain ⟨bq, Aq, nq, cq, rfl⟩ := p6.cells
  obtain ⟨br, Ar, nr, cr, rfl⟩ := hr7.cells
  have hc1 := hx1.cells
  have hf1 := hx1.frozens
  have Hfin := Lib.hid (fin_zz p6 hr7 hx1.a4 (NoDig.at_ hx1.a1 (g := w.heap.size + 1 + 1) (by simp) (by simp [isDig])) (NoDig.at_ hx1 (g := w.heap.size + 1 + 1 + 1) (by simp) (by simp [isDig])) (by omega) (by omega))
  clear p6 hr7
  go_wp2
  refine bodyPost_ret (v := .tuple #[.agg #[.bool bq, .slice Aq nq cq], .agg #[.bool br, .slice Ar nr cr]]) (by simp [results, Tryz.results84, go_sem, hc1]) rfl ?_
  exact Gives.mk ⟨_, _, rfl, Hfin.out.1, Hfin.out.2.1⟩ Hfin.out.2.2
 ·have H := Lib.hid (euc_plain HY.out hup)
  have hcase : bx = false ∨ (bx = true ∧ x.natAbs % y.natAbs = 0) := by
   rw [Hb.out.1]
   by_cases h : x < 0
   ·right; exact ⟨by simpa using h, Decidable.byContradiction fun e => hup ⟨h, e⟩⟩
   ·left; simpa using h
  clear hup
  have hqs : sz (x.natAbs % y.natAbs) ≤ 549755813888 := Nat.le_trans (sz_mono (Nat.mod_le _ _)) sx
  rcases hcase with h0 | ⟨h0, h1⟩
  ·have hb : bx = false := h0
   subst h0
   go_wp2_with fail
   refine wp_region_late (k := 8) (ℓ := 7) (nl := 1) (D := [44, 45, 46, 47, 48, 49, 50, 51]) (T := [[], [0], [], [2], [0, 1, 2, 3], [], [0, 1, 2, 3, 4, 5], [], [0, 1, 2, 3, 4, 5, 6], [0, 1, 2, 3, 4, 5, 6, 7, 8]]) (EK := [6, 7, 8, 10]) (EV := [?e3x0, ?e3x1, ?e3x2, ?e3x3]) (VL := [(kv ?v3x0), (kv ?v3x1), (kv ?v3x2), (kv ?v3x3), (kv ?v3x4), (kv ?v3x5), (fun γ => γ 6), (kv ?v3x7)]) (FL := fun γ w' => [True, True, True, True, True, True, IsZ w' (γ 6) (x / y), True]) _ rfl ?hE3 (by kernel_rfl) (by kernel_rfl) (by kernel_rfl) (by kernel_rfl) (by kernel_rfl) (by rfl) (by kernel_rfl) ?hloc3 ?hmono3 ?hstep3 ?htail3 ?hlate3
   case hE3 => refine ⟨?_, ?_, ?_, ?_, trivial⟩ <;> (simp only [List.getElem?_toArray, List.getElem?_cons_succ, List.getElem?_cons_zero]; rfl)
   case hstep3 =>
    refine ⟨⟨⟨⟨⟨⟨⟨⟨trivial, ?_⟩, ?_⟩, ?_⟩, ?_⟩, ?_⟩, ?_⟩, ?_⟩, ?_⟩
    ·intro γ w' he hf; clear hf; refine ⟨trivial, ?_⟩; intro R hR
     have hc := he.cells
     go_simp
     (try go_ints); (try (rw [if_neg (by omega)])); (try (rw [if_pos (by omega)])); (try go_simp); (try go_ints)
     refine hR _ _ (Ext.refl _) ?_ trivial
     rfl
    ·intro γ w' he hf; clear hf; refine ⟨trivial, ?_⟩; intro R hR
     have hc := he.cells
     have cq0 := he.cell cea0
     have cq1 := he.cell cea1
     have cq2 := he.cell ceb0
     have cq3 := he.cell ceb1
     have cq4 := he.cell cec0
     have cq5 := he.cell cec1
     go_simp
     (try go_ints); (try (rw [if_neg (by omega)])); (try (rw [if_pos (by omega)])); (try go_simp); (try go_ints)
     refine hR _ _ (Ext.refl _) ?_ trivial
     rfl
    ·intro γ w' he hf; clear hf; refine ⟨trivial, ?_⟩; intro R hR
     have hc := he.cells
     go_simp
     (try go_ints); (try (rw [if_neg (by omega)])); (try (rw [if_pos (by omega)])); (try go_simp); (try go_ints)
     refine hR _ _ (Ext.refl _) ?_ trivial
     rfl
    ·intro γ w' he hf; clear hf; refine ⟨trivial, ?_⟩; intro R hR
     have hc := he.cells
     have cq0 := he.cell cea0
     have cq1 := he.cell cea1
     have cq2 := he.cell ceb0
     have cq3 := he.cell ceb1
     have cq4 := he.cell cec0
     have cq5 := he.cell cec1
     go_simp
     (try go_ints); (try (rw [if_neg (by omega)])); (try (rw [if_pos (by omega)])); (try go_simp); (try go_ints)
     refine hR _ _ (Ext.refl _) ?_ trivial
     rfl
    ·intro γ w' he hf; clear hf; refine ⟨trivial, ?_⟩; intro R hR
     have hc := he.cells
     go_simp
     (try go_ints); (try (rw [if_neg (by omega)])); (try (rw [if_pos (by omega)])); (try go_simp); (try go_ints)
     refine hR _ _ (Ext.refl _) ?_ trivial
     rfl
    ·intro γ w' he hf; clear hf; refine ⟨trivial, ?_⟩; intro R hR
     have hc := he.cells
     go_simp
     (try go_ints); (try (rw [if_neg (by omega)])); (try (rw [if_pos (by omega)])); (try go_simp); (try go_ints)
     refine hR _ _ (Ext.refl _) ?_ trivial
     rfl
    ·intro γ w' he hf; clear hf; refine ⟨trivial, ?_⟩; intro R hR
     go_simp
     refine Calls.mono (show Calls _ _ _ w' (Gives w' fun r w'' => IsZ w'' (r) (x / y)) from signed_r (x / y) _ _ _ _ w' (by rw [H.out.1, ← Hb.out.1, ← Hb.out.2]; cases by_ <;> rfl) (Hq.out.ext he) (by omega)) ?_
     rintro e w2 ⟨v, rfl, hv, hx⟩
     exact ⟨v, rfl, hR v w2 hx rfl hv⟩
    ·intro γ w' he hf; clear hf; refine ⟨trivial, ?_⟩; intro R hR
     have hc := he.cells
     have cq0 := he.cell cea0
     have cq1 := he.cell cea1
     have cq2 := he.cell ceb0
     have cq3 := he.cell ceb1
     have cq4 := he.cell cec0
     have cq5 := he.cell cec1
     go_simp
     (try go_ints); (try (rw [if_neg (by omega)])); (try (rw [if_pos (by omega)])); (try go_simp); (try go_ints)
     refine hR _ _ (Ext.refl _) ?_ trivial
     rfl
   case hloc3 =>
    exact ⟨⟨⟨⟨⟨⟨⟨⟨trivial, (fun γ γ' h => ⟨rfl, fun _ => rfl⟩)⟩, (fun γ γ' h => ⟨rfl, fun _ => rfl⟩)⟩, (fun γ γ' h => ⟨rfl, fun _ => rfl⟩)⟩, (fun γ γ' h => ⟨rfl, fun _ => rfl⟩)⟩, (fun γ γ' h => ⟨rfl, fun _ => rfl⟩)⟩, (fun γ γ' h => ⟨rfl, fun _ => rfl⟩)⟩, (fun γ γ' h => ⟨h 6 rfl, fun w' => (congrArg (fun a => IsZ w' (a) (x / y)) (h 6 rfl))⟩)⟩, (fun γ γ' h => ⟨rfl, fun _ => rfl⟩)⟩
   case hmono3 =>
    exact ⟨⟨⟨⟨⟨⟨⟨⟨trivial, (fun γ wA w' e h => h)⟩, (fun γ wA w' e h => h)⟩, (fun γ wA w' e h => h)⟩, (fun γ wA w' e h => h)⟩, (fun γ wA w' e h => h)⟩, (fun γ wA w' e h => h)⟩, (fun γ wA w' e h => (show IsZ wA (γ 6) (x / y) from h).ext e)⟩, (fun γ wA w' e h => h)⟩
   case hlate3 =>
    intro γ w6 hx6 hF
    have p6 : IsZ w6 (γ 6) (x / y) := (Each.get hF 6 (by decide)).resolve_left (by decide)
    clear hF
    simp only [fillAll, gV, kv, List.getD_cons_zero, List.getD_cons_succ, Act.put, List.setIfInBounds_toArray, List.set_cons_zero, List.set_cons_succ, List.toList_toArray, List.drop_succ_cons, List.drop_zero, List.drop_nil, Nat.zero_add, Nat.reduceAdd, lateP, Array.getD_eq_getD_getElem?, List.getElem?_toArray, List.getElem?_cons_succ, List.getElem?_cons_zero, Option.getD_some]
    generalize γ 6 = g6 at *
    clear γ
    rw [← H.out.2] at hz
    have hr7 := hz.ext hx6
    replace hx1 := hx1.trans hx6
    have ck0 := hx6.cell cec0
    have ck1 := hx6.cell cec1
    clear hc1 hf1 cea0 cea1 ceb0 ceb1 cec0 cec1 fea feb fec hz
    obtain ⟨bq, Aq, nq, cq, rfl⟩ := p6.cells
    have hc1 := hx1.cells
    have hf1 := hx1.frozens
    have Hfin := Lib.hid (fin_zz p6 hr7 hx1.a4 (NoDig.at_ hx1.a1 (g := w.heap.size + 1 + 1) (by simp) (by simp [isDig])) (NoDig.at_ hx1 (g := w.heap.size + 1 + 1 + 1) (by simp) (by simp [isDig])) (by omega) (by omega))
    clear p6 hr7
    go_wp2
    refine ⟨?_, trivial⟩
    go_wp2
    refine bodyPost_ret (v := .tuple #[.agg #[.bool bq, .slice Aq nq cq], .agg #[.bool false, .slice A4 (sz (x.natAbs % y.natAbs)) c4]]) (by simp [results, Tryz.results84, go_sem, hc1]) rfl ?_
    exact Gives.mk ⟨_, _, rfl, Hfin.out.1, Hfin.out.2.1⟩ Hfin.out.2.2
   intro γ w6 hx6 hF
   have p6 : IsZ w6 (γ 6) (x / y) := Each.get hF 6 (by decide)
   clear hF
   simp only [fillAll, gV, kv, List.getD_cons_zero, List.getD_cons_succ, Act.put, List.setIfInBounds_toArray, List.set_cons_zero, List.set_cons_succ, List.toList_toArray, List.drop_succ_cons, List.drop_zero, List.drop_nil, Nat.zero_add, Nat.reduceAdd]
   generalize γ 6 = g6 at *
   clear γ
   rw [← H.out.2] at hz
   have hr7 := hz.ext hx6
   replace hx1 := hx1.trans hx6
   have ck0 := hx6.cell cec0
   have ck1 := hx6.cell cec1
   clear hc1 hf1 cea0 cea1 ceb0 ceb1 cec0 cec1 fea feb fec hz
   obtain ⟨bq, Aq, nq, cq, rfl⟩ := p6.cells
   have hc1 := hx1.cells
   have hf1 := hx1.frozens
   have Hfin := Lib.hid (fin_zz p6 hr7 hx1.a4 (NoDig.at_ hx1.a1 (g := w.heap.size + 1 + 1) (by simp) (by simp [isDig])) (NoDig.at_ hx1 (g := w.heap.size + 1 + 1 + 1) (by simp) (by simp [isDig])) (by omega) (by omega))
   clear p6 hr7
   go_wp2
   refine bodyPost_ret (v := .tuple #[.agg #[.bool bq, .slice Aq nq cq], .agg #[.bool false, .slice A4 (sz (x.natAbs % y.natAbs)) c4]]) (by simp [results, Tryz.results84, go_sem, hc1]) rfl ?_
   exact Gives.mk ⟨_, _, rfl, Hfin.out.1, Hfin.out.2.1⟩ Hfin.out.2.2
  ·subst h0
   have hb : decide (0 < sz (x.natAbs % y.natAbs)) = false := by rw [h1]; rfl
   clear h1
   go_wp2_with fail
   refine wp_region_late (k := 8) (ℓ := 7) (nl := 1) (D := [44, 45, 46, 47, 48, 49, 50, 51]) (T := [[], [0], [], [2], [0, 1, 2, 3], [], [0, 1, 2, 3, 4, 5], [], [0, 1, 2, 3, 4, 5, 6], [0, 1, 2, 3, 4, 5, 6, 7, 8]]) (EK := [6, 7, 8, 10]) (EV := [?e4x0, ?e4x1, ?e4x2, ?e4x3]) (VL := [(kv ?v4x0), (kv ?v4x1), (kv ?v4x2), (kv ?v4x3), (kv ?v4x4), (kv ?v4x5), (fun γ => γ 6), (kv ?v4x7)]) (FL := fun γ w' => [True, True, True, True, True, True, IsZ w' (γ 6) (x / y), True]) _ rfl ?hE4 (by kernel_rfl) (by kernel_rfl) (by kernel_rfl) (by kernel_rfl) (by kernel_rfl) (by rfl) (by kernel_rfl) ?hloc4 ?hmono4 ?hstep4 ?htail4 ?hlate4
   case hE4 => refine ⟨?_, ?_, ?_, ?_, trivial⟩ <;> (simp only [List.getElem?_toArray, List.getElem?_cons_succ, List.getElem?_cons_zero]; rfl)
   case hstep4 =>
    refine ⟨⟨⟨⟨⟨⟨⟨⟨trivial, ?_⟩, ?_⟩, ?_⟩, ?_⟩, ?_⟩, ?_⟩, ?_⟩, ?_⟩
    ·intro γ w' he hf; clear hf; refine ⟨trivial, ?_⟩; intro R hR
     have hc := he.cells
     go_simp
     (try go_ints); (try (rw [if_neg (by omega)])); (try (rw [if_pos (by omega)])); (try go_simp); (try go_ints)
     refine hR _ _ (Ext.refl _) ?_ trivial
     rfl
    ·intro γ w' he hf; clear hf; refine ⟨trivial, ?_⟩; intro R hR
     have hc := he.cells
     have cq0 := he.cell cea0
     have cq1 := he.cell cea1
     have cq2 := he.cell ceb0
     have cq3 := he.cell ceb1
     have cq4 := he.cell cec0
     have cq5 := he.cell cec1
     go_simp
     (try go_ints); (try (rw [if_neg (by omega)])); (try (rw [if_pos (by omega)])); (try go_simp); (try go_ints)
     refine hR _ _ (Ext.refl _) ?_ trivial
     rfl
    ·intro γ w' he hf; clear hf; refine ⟨trivial, ?_⟩; intro R hR
     have hc := he.cells
     go_simp
     (try go_ints); (try (rw [if_neg (by omega)])); (try (rw [if_pos (by omega)])); (try go_simp); (try go_ints)
     refine hR _ _ (Ext.refl _) ?_ trivial
     rfl
    ·intro γ w' he hf; clear hf; refine ⟨trivial, ?_⟩; intro R hR
     have hc := he.cells
     have cq0 := he.cell cea0
     have cq1 := he.cell cea1
     have cq2 := he.cell ceb0
     have cq3 := he.cell ceb1
     have cq4 := he.cell cec0
     have cq5 := he.cell cec1
     go_simp
     (try go_ints); (try (rw [if_neg (by omega)])); (try (rw [if_pos (by omega)])); (try go_simp); (try go_ints)
     refine hR _ _ (Ext.refl _) ?_ trivial
     rfl
    ·intro γ w' he hf; clear hf; refine ⟨trivial, ?_⟩; intro R hR
     have hc := he.cells
     go_simp
     (try go_ints); (try (rw [if_neg (by omega)])); (try (rw [if_pos (by omega)])); (try go_simp); (try go_ints)
     refine hR _ _ (Ext.refl _) ?_ trivial
     rfl
    ·intro γ w' he hf; clear hf; refine ⟨trivial, ?_⟩; intro R hR
     have hc := he.cells
     go_simp
     (try go_ints); (try (rw [if_neg (by omega)])); (try (rw [if_pos (by omega)])); (try go_simp); (try go_ints)
     refine hR _ _ (Ext.refl _) ?_ trivial
     rfl
    ·intro γ w' he hf; clear hf; refine ⟨trivial, ?_⟩; intro R hR
     go_simp
     refine Calls.mono (show Calls _ _ _ w' (Gives w' fun r w'' => IsZ w'' (r) (x / y)) from signed_r (x / y) _ _ _ _ w' (by rw [H.out.1, ← Hb.out.1, ← Hb.out.2]; cases by_ <;> rfl) (Hq.out.ext he) (by omega)) ?_
     rintro e w2 ⟨v, rfl, hv, hx⟩
     exact ⟨v, rfl, hR v w2 hx rfl hv⟩
    ·intro γ w' he hf; clear hf; refine ⟨trivial, ?_⟩; intro R hR
     have hc := he.cells
     have cq0 := he.cell cea0
     have cq1 := he.cell cea1
     have cq2 := he.cell ceb0
     have cq3 := he.cell ceb1
     have cq4 := he.cell cec0
     have cq5 := he.cell cec1
     go_simp
     (try go_ints); (try (rw [if_neg (by omega)])); (try (rw [if_pos (by omega)])); (try go_simp); (try go_ints)
     refine hR _ _ (Ext.refl _) ?_ trivial
     rfl
   case hloc4 =>
    exact ⟨⟨⟨⟨⟨⟨⟨⟨trivial, (fun γ γ' h => ⟨rfl, fun _ => rfl⟩)⟩, (fun γ γ' h => ⟨rfl, fun _ => rfl⟩)⟩, (fun γ γ' h => ⟨rfl, fun _ => rfl⟩)⟩, (fun γ γ' h => ⟨rfl, fun _ => rfl⟩)⟩, (fun γ γ' h => ⟨rfl, fun _ => rfl⟩)⟩, (fun γ γ' h => ⟨rfl, fun _ => rfl⟩)⟩, (fun γ γ' h => ⟨h 6 rfl, fun w' => (congrArg (fun a => IsZ w' (a) (x / y)) (h 6 rfl))⟩)⟩, (fun γ γ' h => ⟨rfl, fun _ => rfl⟩)⟩
   case hmono4 =>
    exact ⟨⟨⟨⟨⟨⟨⟨⟨trivial, (fun γ wA w' e h => h)⟩, (fun γ wA w' e h => h)⟩, (fun γ wA w' e h => h)⟩, (fun γ wA w' e h => h)⟩, (fun γ wA w' e h => h)⟩, (fun γ wA w' e h => h)⟩, (fun γ wA w' e h => (show IsZ wA (γ 6) (x / y) from h).ext e)⟩, (fun γ wA w' e h => h)⟩
   case hlate4 =>
    intro γ w6 hx6 hF
    have p6 : IsZ w6 (γ 6) (x / y) := (Each.get hF 6 (by decide)).resolve_left (by decide)
    clear hF
    simp only [fillAll, gV, kv, List.getD_cons_zero, List.getD_cons_succ, Act.put, List.setIfInBounds_toArray, List.set_cons_zero, List.set_cons_succ, List.toList_toArray, List.drop_succ_cons, List.drop_zero, List.drop_nil, Nat.zero_add, Nat.reduceAdd, lateP, Array.getD_eq_getD_getElem?, List.getElem?_toArray, List.getElem?_cons_succ, List.getElem?_cons_zero, Option.getD_some]
    generalize γ 6 = g6 at *
    clear γ
    rw [← H.out.2] at hz
    have hr7 := hz.ext hx6
    replace hx1 := hx1.trans hx6
    have ck0 := hx6.cell cec0
    have ck1 := hx6.cell cec1
    clear hc1 hf1 cea0 cea1 ceb0 ceb1 cec0 cec1 fea feb fec hz
    obtain ⟨bq, Aq, nq, cq, rfl⟩ := p6.cells
    have hc1 := hx1.cells
    have hf1 := hx1.frozens
    have Hfin := Lib.hid (fin_zz p6 hr7 hx1.a4 (NoDig.at_ hx1.a1 (g := w.heap.size + 1 + 1) (by simp) (by simp [isDig])) (NoDig.at_ hx1 (g := w.heap.size + 1 + 1 + 1) (by simp) (by simp [isDig])) (by omega) (by omega))
    clear p6 hr7
    go_wp2
    refine ⟨?_, trivial⟩
    go_wp2
    refine bodyPost_ret (v := .tuple #[.agg #[.bool bq, .slice Aq nq cq], .agg #[.bool false, .slice A4 (sz (x.natAbs % y.natAbs)) c4]]) (by simp [results, Tryz.results84, go_sem, hc1]) rfl ?_
    exact Gives.mk ⟨_, _, rfl, Hfin.out.1, Hfin.out.2.1⟩ Hfin.out.2.2
   intro γ w6 hx6 hF
   have p6 : IsZ w6 (γ 6) (x / y) := Each.get hF 6 (by decide)
   clear hF
   simp only [fillAll, gV, kv, List.getD_cons_zero, List.getD_cons_succ, Act.put, List.setIfInBounds_toArray, List.set_cons_zero, List.set_cons_succ, List.toList_toArray, List.drop_succ_cons, List.drop_zero, List.drop_nil, Nat.zero_add, Nat.reduceAdd]
   generalize γ 6 = g6 at *
   clear γ
   rw [← H.out.2] at hz
   have hr7 := hz.ext hx6
   replace hx1 := hx1.trans hx6
   have ck0 := hx6.cell cec0
   have ck1 := hx6.cell cec1
   clear hc1 hf1 cea0 cea1 ceb0 ceb1 cec0 cec1 fea feb fec hz
   obtain ⟨bq, Aq, nq, cq, rfl⟩ := p6.cells
   have hc1 := hx1.cells
   have hf1 := hx1.frozens
   have Hfin := Lib.hid (fin_zz p6 hr7 hx1.a4 (NoDig.at_ hx1.a1 (g := w.heap.size + 1 + 1) (by simp) (by simp [isDig])) (NoDig.at_ hx1 (g := w.heap.size + 1 + 1 + 1) (by simp) (by simp [isDig])) (by omega) (by omega))
   clear p6 hr7
   go_wp2
   refine bodyPost_ret (v := .tuple #[.agg #[.bool bq, .slice Aq nq cq], .agg #[.bool false, .slice A4 (sz (x.natAbs % y.natAbs)) c4]]) (by simp [results, Tryz.results84, go_sem, hc1]) rfl ?_
   exact Gives.mk ⟨_, _, rfl, Hfin.out.1, Hfin.out.2.1⟩ Hfin.out.2.2
end Go.Proofs.YtfacbpnegkjcgaaGreatDoor
namespace Go.Hp
open Go.RowKit
theorem IsZ.natform {w : World} {v : Value} {n : Nat} (h : IsZ w v (n : Int)) : ∃ A c, v = .agg #[.bool false, .slice A (sz n) c] ∧ sz n ≤ c ∧ c ≤ 9223372036854775807 := by
 obtain ⟨A, c, e, h1, h2, _⟩ := h.form
 have h0 : decide ((n : Int) < 0) = false := decide_eq_false (by omega)
 rw [h0, Int.natAbs_natCast] at e
 rw [Int.natAbs_natCast] at h1
 exact ⟨A, c, e, h1, h2⟩
theorem IsZ.natn {w : World} {A : Option Addr} {m c n : Nat} {b : Bool} (h : IsZ w (.agg #[.bool b, .slice A m c]) (n : Int)) : NatV w (.slice A m c) n := by
 obtain ⟨A', c', e, _, _, k⟩ := h.form
 simp only [Value.agg.injEq, Array.mk.injEq, List.cons.injEq, Value.slice.injEq] at e
 obtain ⟨_, ⟨rfl, rfl, rfl⟩, _⟩ := e
 rw [Int.natAbs_natCast] at k ⊢
 exact k
/-- v is the machine word n. -/
def IsU (_ : World) (v : Value) (n : Nat) : Prop := v = .int .u64 n
theorem IsU.ext {w w' : World} {v : Value} {n : Nat} (h : IsU w v n) (_ : Ext w w') : IsU w' v n := h
/-- The number behind the second cell of a box. -/
noncomputable def boxNat (g : Nat) (w : World) : Nat := natOf ((w.cell? ⟨g, 1, none⟩).getD undef) w
theorem boxNat_eq {w : World} {g : Nat} {v : Value} {n : Nat} (h : w.cell? ⟨g, 1, none⟩ = some v) (k : NatV w v n) : boxNat g w = n := by
 unfold boxNat
 rw [h]
 exact natOf_eq k
end Go.Hp
namespace Go.Proofs.YtfacbpnegkjcgaaGreatDoor
open Go.RowKit Go.Hp
set_option maxHeartbeats 1000000 in
theorem exact_r (v u : Value) (x y : Int) (w : World) (hv : HasZ w v x) (hu : HasZ w u y) (hy : y ≠ 0) (sx : sz x.natAbs ≤ 549755813888) (sy : sz y.natAbs ≤ 549755813888) : Calls Tryz.prog 77 #[v, u] w (Gives w fun r w' => IsZ w' r (x / y)) := by
 have HV := Lib.hid hv; have HU := Lib.hid hu
 obtain ⟨neg, A, n, c, N, rfl, -, -, -, -, -⟩ := hv.form
 obtain ⟨neg', A', n', c', M, rfl, -, -, -, -, -⟩ := hu.form
 clear hv hu
 go_enter Tryz.func77, Tryz.ntmps77
 go_wp2_with fail
 refine Calls.mono (euclid_r _ _ x y _ (HV.out.ext (((Ext.refl w).alloc _).alloc _ |>.alloc _)) (HU.out.ext (((Ext.refl w).alloc _).alloc _ |>.alloc _)) hy sx sy) ?_
 rintro e w1 ⟨r, rfl, ⟨a, b, rfl, ha, hb⟩, hx1⟩
 obtain ⟨b5, A5, n5, c5, rfl⟩ := ha.cells
 obtain ⟨b6, A6, n6, c6, rfl⟩ := hb.cells
 clear hb
 go_upto_region 2 with (fail)
 obtain ⟨w5, hw5⟩ : ∃ w5, w5 = (w1.alloc (.cells #[.bool b5, .slice A5 n5 c5] 28)).alloc (.cells #[.bool b6, .slice A6 n6 c6] 28) := ⟨_, rfl⟩
 have hx2 : Ext w1 w5 := by rw [hw5]; exact ((Ext.refl w1).alloc _).alloc _
 have ed : Box w5 w1.heap.size 28 #[.bool b5, .slice A5 n5 c5] := by rw [hw5]; exact (Box.new w1 _ _ (by simp [isDig])).alloc _
 rw [← hw5]
 have hr := ha.ext hx2
 replace hx1 := hx1.trans hx2
 clear hw5 hx2 ha
 obtain ⟨ced0, ced1⟩ := ed.cells2
 have fed := ed.frozen
 have hc1 := hx1.cells
 have hf1 := hx1.frozens
 have Hfin := Lib.hid (fin_z hr hx1.a3 (NoDig.at_ hx1 (g := w.heap.size + 2) (by simp) (by simp [isDig])) (by omega))
 clear hr
 go_wp2
 refine bodyPost_ret (v := .agg #[.bool b5, .slice A5 n5 c5]) (by simp [results, Tryz.results77, go_sem, hc1]) rfl ?_
 exact Hfin.out
set_option maxHeartbeats 2000000 in
theorem gcd_r (v u : Value) (x y : Int) (w : World) (hv : HasZ w v x) (hu : HasZ w u y) (sx : sz x.natAbs ≤ 549755813888) (sy : sz y.natAbs ≤ 549755813888) : Calls Tryz.prog 64 #[v, u] w (Gives w fun r w' => IsZ w' r (Int.gcd x y : Nat)) := by
 have HV := Lib.hid hv; have HU := Lib.hid hu
 obtain ⟨neg, A, n, c, N, rfl, -, -, -, -, -⟩ := hv.form
 obtain ⟨neg', A', n', c', M, rfl, -, -, -, -, -⟩ := hu.form
 clear hv hu
 obtain ⟨G, hG⟩ : ∃ G, G = Int.gcd x y := ⟨_, rfl⟩
 rw [← hG]
 have HG := Lib.hid hG; clear hG
 go_enter Tryz.func64, Tryz.ntmps64
 go_wp2_with fail
 refine wp_region_apart (k := 6) (D := [11, 12, 13, 14, 5, 6]) (T := [[], [0], [], [0, 1, 2], [], [], [0, 1, 2, 3, 4, 5], [0, 1, 2, 3, 4, 5, 6]]) (EK := [2, 3]) (EV := [?e1x0, ?e1x1]) (VL := [(kv ?v1x0), (fun γ => γ 1), (kv ?v1x2), (fun γ => γ 3), (fun γ => γ 4), (fun γ => γ 5)]) (FL := fun γ w' => [True, IsZ w' (γ 1) (x.natAbs : Nat), True, IsZ w' (γ 3) (y.natAbs : Nat), NewAt w' (γ 4) (w.heap.size + 3) #[.bool false, .slice none 0 0] 28, NewAt w' (γ 5) (w.heap.size + 3) #[.bool false, .slice none 0 0] 28]) ?hE1 (by kernel_rfl) (by kernel_rfl) (by rfl) (by kernel_rfl) ?hloc1 ?hmono1 ?hstep1 ?htail1
 case hE1 => refine ⟨?_, ?_, trivial⟩ <;> (simp only [List.getElem?_toArray, List.getElem?_cons_succ, List.getElem?_cons_zero]; rfl)
 case hstep1 =>
  refine ⟨⟨⟨⟨⟨⟨trivial, ?_⟩, ?_⟩, ?_⟩, ?_⟩, ?_⟩, ?_⟩
  ·intro γ w' he hf; clear hf; refine ⟨trivial, ?_⟩; intro R hR
   have hc := he.cells
   go_simp
   (try go_ints); (try (rw [if_neg (by omega)])); (try (rw [if_pos (by omega)])); (try go_simp); (try go_ints)
   refine hR _ _ (Ext.refl _) ?_ trivial
   rfl
  ·intro γ w' he hf; clear hf; refine ⟨trivial, ?_⟩; intro R hR
   go_simp
   refine Calls.mono (show Calls _ _ _ w' (Gives w' fun r w'' => IsZ w'' (r) (x.natAbs : Nat)) from abs_r _ x w' (HV.out.ext he.a3)) ?_
   rintro e w2 ⟨v, rfl, hv, hx⟩
   exact ⟨v, rfl, hR v w2 hx rfl hv⟩
  ·intro γ w' he hf; clear hf; refine ⟨trivial, ?_⟩; intro R hR
   have hc := he.cells
   go_simp
   (try go_ints); (try (rw [if_neg (by omega)])); (try (rw [if_pos (by omega)])); (try go_simp); (try go_ints)
   refine hR _ _ (Ext.refl _) ?_ trivial
   rfl
  ·intro γ w' he hf; have f1 : IsZ w' (γ 1) (x.natAbs : Nat) := hf 1 (by decide); clear hf; refine ⟨trivial, ?_⟩; intro R hR
   go_simp
   refine Calls.mono (show Calls _ _ _ w' (Gives w' fun r w'' => IsZ w'' (r) (y.natAbs : Nat)) from abs_r _ y w' (HU.out.ext he.a3)) ?_
   rintro e w2 ⟨v, rfl, hv, hx⟩
   exact ⟨v, rfl, hR v w2 hx rfl hv⟩
  ·intro γ w' he hf; clear hf; refine ⟨trivial, ?_⟩; intro R hR
   go_simp
   exact hR _ _ ((Ext.refl _).alloc _) rfl (NewAt.mk (Nat.le_trans (by simp) he.size) (by simp [isDig]))
  ·intro γ w' he hf; clear hf; refine ⟨trivial, ?_⟩; intro R hR
   go_simp
   exact hR _ _ ((Ext.refl _).alloc _) rfl (NewAt.mk (Nat.le_trans (by simp) he.size) (by simp [isDig]))
 case hloc1 =>
  exact ⟨⟨⟨⟨⟨⟨trivial, (fun γ γ' h => ⟨rfl, fun _ => rfl⟩)⟩, (fun γ γ' h => ⟨h 1 rfl, fun w' => (congrArg (fun a => IsZ w' (a) (x.natAbs : Nat)) (h 1 rfl))⟩)⟩, (fun γ γ' h => ⟨rfl, fun _ => rfl⟩)⟩, (fun γ γ' h => ⟨h 3 rfl, fun w' => (congrArg (fun a => IsZ w' (a) (y.natAbs : Nat)) (h 3 rfl))⟩)⟩, (fun γ γ' h => ⟨h 4 rfl, fun w' => (congrArg (fun a => NewAt w' (a) (w.heap.size + 3) #[.bool false, .slice none 0 0] 28) (h 4 rfl))⟩)⟩, (fun γ γ' h => ⟨h 5 rfl, fun w' => (congrArg (fun a => NewAt w' (a) (w.heap.size + 3) #[.bool false, .slice none 0 0] 28) (h 5 rfl))⟩)⟩
 case hmono1 =>
  exact ⟨⟨⟨⟨⟨⟨trivial, (fun γ wA w' e h => h)⟩, (fun γ wA w' e h => (show IsZ wA (γ 1) (x.natAbs : Nat) from h).ext e)⟩, (fun γ wA w' e h => h)⟩, (fun γ wA w' e h => (show IsZ wA (γ 3) (y.natAbs : Nat) from h).ext e)⟩, (fun γ wA w' e h => (show NewAt wA (γ 4) (w.heap.size + 3) #[.bool false, .slice none 0 0] 28 from h).ext e)⟩, (fun γ wA w' e h => (show NewAt wA (γ 5) (w.heap.size + 3) #[.bool false, .slice none 0 0] 28 from h).ext e)⟩
 intro γ w1 hx1 hF hA
 have na4x5 : γ 4 ≠ γ 5 := hA 4 5 (by decide) (by decide) (by decide) ⟨_, _, rfl, rfl⟩ ⟨_, _, rfl, rfl⟩
 clear hA
 have p1 : IsZ w1 (γ 1) (x.natAbs : Nat) := Each.get hF 1 (by decide)
 have p3 : IsZ w1 (γ 3) (y.natAbs : Nat) := Each.get hF 3 (by decide)
 have p4 : NewAt w1 (γ 4) (w.heap.size + 3) #[.bool false, .slice none 0 0] 28 := Each.get hF 4 (by decide)
 have p5 : NewAt w1 (γ 5) (w.heap.size + 3) #[.bool false, .slice none 0 0] 28 := Each.get hF 5 (by decide)
 clear hF
 simp only [fillAll, gV, kv, List.getD_cons_zero, List.getD_cons_succ, Act.put, List.setIfInBounds_toArray, List.set_cons_zero, List.set_cons_succ, List.toList_toArray, List.drop_succ_cons, List.drop_zero, List.drop_nil, Nat.zero_add, Nat.reduceAdd]
 generalize γ 1 = g1 at *
 generalize γ 3 = g3 at *
 generalize γ 4 = g4 at *
 generalize γ 5 = g5 at *
 clear γ
 obtain ⟨ga, rfl, hga, ea⟩ := p4
 obtain ⟨gb, rfl, hgb, eb⟩ := p5
 have hab : ga ≠ gb := fun e => na4x5 (by rw [e])
 clear na4x5
 obtain ⟨A1, c1, rfl, q1, q2⟩ := p1.natform
 obtain ⟨A2, c2, rfl, q3, q4⟩ := p3.natform
 obtain ⟨cea0, cea1⟩ := ea.cells2
 have fea := ea.frozen
 obtain ⟨ceb0, ceb1⟩ := eb.cells2
 have feb := eb.frozen
 go_upto_region 2 with (fail)
 obtain ⟨W1, eW, ea', U⟩ := ea.put2 (.bool false) (.slice A1 (sz x.natAbs) c1) rfl rfl
 rw [← eW]
 clear eW ea
 replace p1 := p1.kd U.kd
 replace p3 := p3.kd U.kd
 replace eb := eb.upd U (by simp <;> omega)
 replace hx1 := U.from_ hx1 (by simp <;> omega)
 have ea := ea'
 clear U ea'
 obtain ⟨W2, eW, eb', U⟩ := eb.put2 (.bool false) (.slice A2 (sz y.natAbs) c2) rfl rfl
 rw [← eW]
 clear eW eb
 replace p1 := p1.kd U.kd
 replace p3 := p3.kd U.kd
 replace ea := ea.upd U (by simp <;> omega)
 replace hx1 := U.from_ hx1 (by simp <;> omega)
 have eb := eb'
 clear U eb'
 clear cea0 cea1 ceb0 ceb1 fea feb
 have Hg : Hid (Nat.gcd x.natAbs y.natAbs = G) := Lib.hid HG.out.symm
 clear HV HU HG
 generalize x.natAbs = aa at *
 generalize y.natAbs = bb at *
 by_cases hsm : sz aa ≤ 2 ∧ sz bb ≤ 2
 ·obtain ⟨s1, s2⟩ := hsm
  have hA64 : aa < 18446744073709551616 := by rw [← bp_two]; exact Nat.lt_of_lt_of_le (lt_bp_sz aa) (bp_le s1)
  have hB64 : bb < 18446744073709551616 := by rw [← bp_two]; exact Nat.lt_of_lt_of_le (lt_bp_sz bb) (bp_le s2)
  obtain ⟨cea0, cea1⟩ := ea.cells2
  have fea := ea.frozen
  obtain ⟨ceb0, ceb1⟩ := eb.cells2
  have feb := eb.frozen
  have hc1 := hx1.cells
  have hf1 := hx1.frozens
  go_wp2_with fail
  refine wp_region_par (k := 5) (D := [25, 26, 27, 28, 29]) (T := [[], [0], [0, 1], [], [3], [0, 1, 2, 3, 4], [0, 1, 2, 3, 4, 5], [0, 1, 2, 3, 4, 5, 6]]) (EK := [5, 6]) (EV := [?e2x0, ?e2x1]) (VL := [(kv ?v2x0), (kv ?v2x1), (fun γ => γ 2), (kv ?v2x3), (kv ?v2x4)]) (FL := fun γ w' => [True, True, IsU w' (γ 2) aa, True, True]) ?hE2 (by kernel_rfl) (by kernel_rfl) (by rfl) (by kernel_rfl) ?hloc2 ?hmono2 ?hstep2 ?htail2
  case hE2 => refine ⟨?_, ?_, trivial⟩ <;> (simp only [List.getElem?_toArray, List.getElem?_cons_succ, List.getElem?_cons_zero]; rfl)
  case hstep2 =>
   refine ⟨⟨⟨⟨⟨trivial, ?_⟩, ?_⟩, ?_⟩, ?_⟩, ?_⟩
   ·intro γ w' he hf; clear hf; refine ⟨trivial, ?_⟩; intro R hR
    have hc := he.cells
    go_simp
    (try go_ints); (try (rw [if_neg (by omega)])); (try (rw [if_pos (by omega)])); (try go_simp); (try go_ints)
    refine hR _ _ (Ext.refl _) ?_ trivial
    rfl
   ·intro γ w' he hf; clear hf; refine ⟨trivial, ?_⟩; intro R hR
    have hc := he.cells
    have cq0 := he.cell cea0
    have cq1 := he.cell cea1
    have cq2 := he.cell ceb0
    have cq3 := he.cell ceb1
    go_simp
    (try go_ints); (try (rw [if_neg (by omega)])); (try (rw [if_pos (by omega)])); (try go_simp); (try go_ints)
    refine hR _ _ (Ext.refl _) ?_ trivial
    rfl
   ·intro γ w' he hf; clear hf; refine ⟨trivial, ?_⟩; intro R hR
    go_simp
    refine Calls.mono (show Calls _ _ _ w' (Gives w' fun r w'' => IsU w'' (r) aa) from Gives.imp (word_rn _ aa w' ((p1.ext he).natn) s1) fun _ _ h => h) ?_
    rintro e w2 ⟨v, rfl, hv, hx⟩
    exact ⟨v, rfl, hR v w2 hx rfl hv⟩
   ·intro γ w' he hf; clear hf; refine ⟨trivial, ?_⟩; intro R hR
    have hc := he.cells
    go_simp
    (try go_ints); (try (rw [if_neg (by omega)])); (try (rw [if_pos (by omega)])); (try go_simp); (try go_ints)
    refine hR _ _ (Ext.refl _) ?_ trivial
    rfl
   ·intro γ w' he hf; clear hf; refine ⟨trivial, ?_⟩; intro R hR
    have hc := he.cells
    have cq0 := he.cell cea0
    have cq1 := he.cell cea1
    have cq2 := he.cell ceb0
    have cq3 := he.cell ceb1
    go_simp
    (try go_ints); (try (rw [if_neg (by omega)])); (try (rw [if_pos (by omega)])); (try go_simp); (try go_ints)
    refine hR _ _ (Ext.refl _) ?_ trivial
    rfl
  case hloc2 =>
   exact ⟨⟨⟨⟨⟨trivial, (fun γ γ' h => ⟨rfl, fun _ => rfl⟩)⟩, (fun γ γ' h => ⟨rfl, fun _ => rfl⟩)⟩, (fun γ γ' h => ⟨h 2 rfl, fun w' => (congrArg (fun a => IsU w' (a) aa) (h 2 rfl))⟩)⟩, (fun γ γ' h => ⟨rfl, fun _ => rfl⟩)⟩, (fun γ γ' h => ⟨rfl, fun _ => rfl⟩)⟩
  case hmono2 =>
   exact ⟨⟨⟨⟨⟨trivial, (fun γ wA w' e h => h)⟩, (fun γ wA w' e h => h)⟩, (fun γ wA w' e h => (show IsU wA (γ 2) aa from h).ext e)⟩, (fun γ wA w' e h => h)⟩, (fun γ wA w' e h => h)⟩
  intro γ w3 hx3 hF
  have p2 : IsU w3 (γ 2) aa := Each.get hF 2 (by decide)
  clear hF
  simp only [fillAll, gV, kv, List.getD_cons_zero, List.getD_cons_succ, Act.put, List.setIfInBounds_toArray, List.set_cons_zero, List.set_cons_succ, List.toList_toArray, List.drop_succ_cons, List.drop_zero, List.drop_nil, Nat.zero_add, Nat.reduceAdd]
  generalize γ 2 = g2 at *
  clear γ
  obtain rfl : g2 = .int .u64 aa := p2
  go_wp2_with fail
  refine Calls.mono (word_rn _ bb _ ((p3.ext hx3).natn) s2) ?_
  rintro e w4 ⟨r, rfl, rfl, hx4⟩
  replace hx1 := (hx1.trans hx3).trans hx4
  clear hc1 hf1 cea0 cea1 ceb0 ceb1 fea feb hx3 hx4 ea eb p1 p3 q1 q2 q3 q4
  go_wp2
  go_loopw [7, 8] (fun av bv wx => ∃ A' B' : Nat, av = .int .u64 A' ∧ bv = .int .u64 B' ∧ Nat.gcd A' B' = G ∧ A' < 18446744073709551616 ∧ B' < 18446744073709551616 ∧ Ext w4 wx) (fun _ bv _ => (intOf bv).toNat)
  case atStart => exact ⟨aa, bb, rfl, rfl, Hg.out, hA64, hB64, Ext.refl _⟩
  case round =>
   obtain ⟨A', B', rfl, rfl, hg, k1, k2, hx'⟩ := hrel
   have Hg' := Lib.hid hg; clear hg
   by_cases hB0 : B' = 0
   ·subst hB0
    go_wp2_with fail
    refine Calls.mono (split_r A' _ k1) ?_
    rintro e w5 ⟨r, rfl, hr, hx5⟩
    have hg := Hg'.out
    rw [Nat.gcd_zero_right] at hg
    subst hg
    replace hx1 := (hx1.trans hx').trans hx5
    clear hx' hx5
    have hc1 := hx1.cells
    have hf1 := hx1.frozens
    have hs2 : sz A' ≤ 2 := sz_le_of_lt (by rw [bp_two]; exact k1)
    go_wp2_with fail
    refine Calls.mono (signed_r (A' : Int) false _ A' _ _ rfl (hr.num hs2) (by omega)) ?_
    rintro e w6 ⟨r, rfl, hr, hx6⟩
    replace hx1 := hx1.trans hx6
    clear hc1 hf1 hx6
    obtain ⟨b5, A5, n5, c5, rfl⟩ := hr.cells
    have hc1 := hx1.cells
    have hf1 := hx1.frozens
    have Hfin := Lib.hid (fin_z hr hx1.a3 (NoDig.at_ hx1 (g := w.heap.size + 2) (by simp) (by simp [isDig])) (by omega))
    clear hr
    go_wp2
    refine bodyPost_ret (v := .agg #[.bool b5, .slice A5 n5 c5]) (by simp [results, Tryz.results64, go_sem, hc1]) rfl ?_
    exact Hfin.out
   ·have hp : (1 : Int) ≤ B' := by omega
    have hb : ((B' : Int) != 0) = true := by simp; omega
    go_wp2
    go_quiet (fail)
    go_wp2
    go_roundw
    case rel => exact ⟨B', A' % B', by simp, by simp, by rw [gcd_step, Hg'.out], k2, by have := Nat.mod_lt A' (show 0 < B' by omega); omega, hx'.drewN _⟩
    case measure =>
     have := Nat.mod_lt A' (show 0 < B' by omega)
     simp only [intOf, Array.getD, Int.toNat_natCast] <;> simp <;> omega
 ·have hcase : 2 < sz aa ∨ (sz aa ≤ 2 ∧ 2 < sz bb) := by omega
  clear hsm
  obtain ⟨cea0, cea1⟩ := ea.cells2
  have fea := ea.frozen
  obtain ⟨ceb0, ceb1⟩ := eb.cells2
  have feb := eb.frozen
  rcases hcase with hcase | ⟨hcase, hcase2⟩
  all_goals
   go_wp2
   clear cea0 cea1 ceb0 ceb1 fea feb hcase
   go_loopw [] (fun wr => ∃ (a b : Nat) (A1 A2 : Option Addr) (c1 c2 : Nat), Box wr ga 28 #[.bool false, .slice A1 (sz a) c1] ∧ Box wr gb 28 #[.bool false, .slice A2 (sz b) c2] ∧ IsZ wr (.agg #[.bool false, .slice A1 (sz a) c1]) (a : Nat) ∧ IsZ wr (.agg #[.bool false, .slice A2 (sz b) c2]) (b : Nat) ∧ sz a ≤ 549755813888 ∧ sz b ≤ 549755813888 ∧ Nat.gcd a b = G ∧ Ext (((w.alloc (.cells #[.bool neg, .slice A n c] 28)).alloc (.cells #[.bool neg', .slice A' n' c'] 28)).alloc (.cells #[.bool false, .slice none 0 0] 28)) wr) (fun wr => boxNat gb wr)
   case atStart => exact ⟨aa, bb, A1, A2, c1, c2, ea, eb, p1, p3, sx, sy, Hg.out, hx1⟩
   case round =>
    clear ea eb p1 p3 sx sy q1 q2 q3 q4 Hg hx1
    obtain ⟨a, b, B1, B2, d1, d2, ea, eb, p1, p3, sx, sy, hg, hx1⟩ := hrel
    have Hg := Lib.hid hg; clear hg
    obtain ⟨cea0, cea1⟩ := ea.cells2
    have fea := ea.frozen
    obtain ⟨ceb0, ceb1⟩ := eb.cells2
    have feb := eb.frozen
    have hc1 := hx1.cells
    have hf1 := hx1.frozens
    by_cases hb0 : b = 0
    ·have hb : decide (0 < sz b) = false := by rw [hb0]; rfl
     have hga : a = G := by rw [← Hg.out, hb0, Nat.gcd_zero_right]
     rw [hga] at p1 cea1
     have Hfin := Lib.hid (fin_z p1 hx1.a3 (NoDig.at_ hx1 (g := w.heap.size + 2) (by simp) (by simp [isDig])) (by omega))
     clear p1 p3 hga hb0
     go_wp2
     refine bodyPost_ret (v := .agg #[.bool false, .slice B1 (sz G) d1]) (by simp [results, Tryz.results64, go_sem, hc1]) rfl ?_
     exact Hfin.out
    ·have hb : decide (0 < sz b) = true := by have := sz_pos hb0; simpa using this
     have hbz : (b : Int) ≠ 0 := by omega
     have hm0 := boxNat_eq ceb1 p3.natn
     have hmod := Nat.mod_lt a (show 0 < b by omega)
     have Hm := Lib.hid (And.intro hm0 hmod); clear hm0 hmod hb0
     go_wp2_with fail
     refine Calls.mono (euclid_r _ _ a b _ (p1.has (by rw [Int.natAbs_natCast]; omega)) (p3.has (by rw [Int.natAbs_natCast]; omega)) hbz (by rw [Int.natAbs_natCast]; exact sx) (by rw [Int.natAbs_natCast]; exact sy)) ?_
     rintro e w3 ⟨r, rfl, ⟨q, r3, rfl, hq, hr⟩, hx2⟩
     rw [← Int.natCast_emod] at hr
     obtain ⟨A3, c3, rfl, e1, e2⟩ := hr.natform
     obtain ⟨b6, A6, n6, c6, rfl⟩ := hq.cells
     clear hc1 hf1 cea0 cea1 ceb0 ceb1 fea feb hq
     replace p1 := p1.ext hx2
     replace p3 := p3.ext hx2
     replace ea := ea.ext hx2
     replace eb := eb.ext hx2
     replace hx1 := hx1.trans hx2
     clear hx2
     go_upto_region 9 with (fail)
     obtain ⟨w5, hw5⟩ : ∃ w5, w5 = (w3.alloc (.cells #[.bool b6, .slice A6 n6 c6] 28)).alloc (.cells #[.bool false, .slice A3 (sz (a % b)) c3] 28) := ⟨_, rfl⟩
     have hx2 : Ext w3 w5 := by rw [hw5]; exact ((Ext.refl w3).alloc _).alloc _
     have hs3 : (w3.alloc (.cells #[.bool b6, .slice A6 n6 c6] 28)).heap.size = w3.heap.size + 1 := by simp
     have ed : Box w5 (w3.heap.size + 1) 28 #[.bool false, .slice A3 (sz (a % b)) c3] := by rw [hw5, ← hs3]; exact Box.new _ _ _ (by simp [isDig])
     rw [← hw5]
     have hda : w3.heap.size + 1 ≠ ga := by have := ea.lt; omega
     have hdb : w3.heap.size + 1 ≠ gb := by have := eb.lt; omega
     generalize w3.heap.size + 1 = gd at *
     generalize w3.heap.size = ge at *
     clear hw5 hs3
     replace p1 := p1.ext hx2
     replace p3 := p3.ext hx2
     replace hr := hr.ext hx2
     replace ea := ea.ext hx2
     replace eb := eb.ext hx2
     replace hx1 := hx1.trans hx2
     clear hx2
     obtain ⟨cea0, cea1⟩ := ea.cells2
     have fea := ea.frozen
     obtain ⟨ceb0, ceb1⟩ := eb.cells2
     have feb := eb.frozen
     obtain ⟨ced0, ced1⟩ := ed.cells2
     have fed := ed.frozen
     go_upto_region 10 with (fail)
     obtain ⟨W1, eW, ea', U⟩ := ea.put2 (.bool false) (.slice B2 (sz b) d2) rfl rfl
     rw [← eW]
     clear eW ea
     replace p3 := p3.kd U.kd
     replace hr := hr.kd U.kd
     replace eb := eb.upd U (by simp <;> omega)
     replace ed := ed.upd U (by simp <;> omega)
     replace hx1 := U.from_ hx1 (by simp <;> omega)
     have ea := ea'
     clear U ea'
     clear cea0 cea1 ceb0 ceb1 fea feb ced0 ced1 fed
     obtain ⟨cea0, cea1⟩ := ea.cells2
     have fea := ea.frozen
     obtain ⟨ceb0, ceb1⟩ := eb.cells2
     have feb := eb.frozen
     obtain ⟨ced0, ced1⟩ := ed.cells2
     have fed := ed.frozen
     go_wp2
     obtain ⟨W2, eW, eb', U⟩ := eb.put2 (.bool false) (.slice A3 (sz (a % b)) c3) rfl rfl
     rw [← eW]
     clear eW eb
     replace p3 := p3.kd U.kd
     replace hr := hr.kd U.kd
     replace ea := ea.upd U (by simp <;> omega)
     replace hx1 := U.from_ hx1 (by simp <;> omega)
     have eb := eb'
     clear U eb'
     clear cea0 cea1 ceb0 ceb1 fea feb ced0 ced1 fed ed
     obtain ⟨ceb0, ceb1⟩ := eb.cells2
     have feb := eb.frozen
     go_roundw
     case rel => exact ⟨b, a % b, B2, A3, d2, c3, ea, eb, p3, hr, sy, Nat.le_trans (sz_mono (Nat.mod_le _ _)) sx, by rw [gcd_step, Hg.out], hx1⟩
     case measure => rw [Hm.out.1, boxNat_eq ceb1 hr.natn]; exact Hm.out.2
end Go.Proofs.YtfacbpnegkjcgaaGreatDoor
