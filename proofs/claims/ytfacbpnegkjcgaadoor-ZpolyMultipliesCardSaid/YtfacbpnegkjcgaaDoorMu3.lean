/- Lemmas: Gauss: the content of a product. Plain. Determinants by expansion along the first column. Plain. Resultants: Sylvester's determinant with formal degrees. Plain. The resultant by pseudo-division: the state of the rounds. Plain. The walks of the reference's integers: trim, Norm, signed, Neg, Abs, Sign. The contracts of the reference's integers: Norm, signed, Of, Sign, Neg, Abs, Same. The walks of the reference's integers: Same, SameInt. The walks of the reference's integers: below, plus, minus. The walks of the reference's integers: minus, Add, Sub, Mul. The contracts of the reference's integers: Add, Sub, Mul. The walks of the reference's integers: Mul. The walks of the reference's integers: Bits, shifted. The walk of the reference's long division. The contracts of the reference's integers: Euclid, Divided, Gcd. The contracts of the reference's integers: Divided, Gcd. The contracts of rational's functions. The contracts of the reference's fractions. The contracts of the reference's fractions: the operations. The walk of zpoly.Mul. The walks of zpoly: lead, power, PseudoDiv. The walks of zpoly: Content, Primitive. The walk of zpoly.PseudoDiv. The walk of zpoly.Resultant. The walks of bigint.Abs, and of bigint.Format at one digit. The walk of slices.Backward over a slice of integers. -/
import Derived.Test.YtfacbpnegkjcgaaDoorMu1
import Derived.Test.YtfacbpnegkjcgaaDoorMu2
import Derived.Deep.Cut
import Derived.Deep.DeepCutAuto
import Derived.Laws.IdiomStrings
import Derived.RangeFuncNested
import Derived.RangeFuncBound
import Derived.RangeFuncCalls
import Derived.RangeFuncLeaves
import Derived.Shelf.Abstract
import Derived.Shelf.RegionOpen
import Derived.WalkKit
import Derived.OwnWalkIn
import Derived.TacticsInMore
import Derived.LoopNIn
import Derived.LoopIn
set_option linter.unusedVariables false
set_option linter.unusedSimpArgs false
namespace Go.Hp
theorem first_of {P : Nat → Prop} (h : ∃ i, P i) : ∃ i, P i ∧ ∀ j, j < i → ¬ P j := least h
def Prm (p : Nat) : Prop := 1 < p ∧ ∀ k, k ∣ p → k = 1 ∨ k = p
theorem prm_of {d : Nat} (h : 1 < d) : ∃ p, Prm p ∧ p ∣ d := by
  obtain ⟨p, ⟨h1, h2⟩, h3⟩ := first_of (P := fun p => 1 < p ∧ p ∣ d) ⟨d, h, Nat.dvd_refl d⟩
  refine ⟨p, ⟨h1, fun k hk => ?_⟩, h2⟩
  have hkp := Nat.le_of_dvd (by omega) hk
  have hk0 : k ≠ 0 := fun e => by subst e; have := Nat.eq_zero_of_zero_dvd hk; omega
  by_cases e : k = p
  · exact .inr e
  · exact .inl (by
      by_cases e1 : 1 < k
      · exact absurd ⟨e1, Nat.dvd_trans hk h2⟩ (h3 k (by omega))
      · omega)
theorem Prm.mul {p : Nat} (h : Prm p) {a b : Int} (k : (p : Int) ∣ a * b) : (p : Int) ∣ a ∨ (p : Int) ∣ b := by
  rw [Int.ofNat_dvd_left, Int.natAbs_mul] at k
  rw [Int.ofNat_dvd_left, Int.ofNat_dvd_left]
  rcases h.2 _ (Nat.gcd_dvd_left p a.natAbs) with e | e
  · exact .inr (Nat.Coprime.dvd_of_dvd_mul_left e k)
  · exact .inl (by rw [← e]; exact Nat.gcd_dvd_right _ _)
/-- Multiples of p. -/
def Dz (p : Nat) (x : Rat) : Prop := ∃ z : Int, x = (p : Rat) * (z : Rat)
theorem Dz.add {p : Nat} {x y : Rat} (h : Dz p x) (k : Dz p y) : Dz p (x + y) := by
  obtain ⟨a, rfl⟩ := h; obtain ⟨b, rfl⟩ := k; exact ⟨a + b, by rw [Rat.intCast_add]; grind⟩
theorem Dz.sub {p : Nat} {x y : Rat} (h : Dz p x) (k : Dz p y) : Dz p (x - y) := by
  obtain ⟨a, rfl⟩ := h; obtain ⟨b, rfl⟩ := k; exact ⟨a - b, by rw [Rat.intCast_sub]; grind⟩
theorem Dz.zero (p : Nat) : Dz p 0 := ⟨0, by simp⟩
theorem Dz.mul {p : Nat} {x : Rat} (h : Dz p x) (y : Int) : Dz p (x * (y : Rat)) := by
  obtain ⟨a, rfl⟩ := h; exact ⟨a * y, by rw [Rat.intCast_mul]; grind⟩
theorem dz_int {p : Nat} {n : Int} : Dz p (n : Rat) ↔ (p : Int) ∣ n := by
  constructor
  · rintro ⟨z, h⟩
    refine ⟨z, ?_⟩
    rw [show ((p : Nat) : Rat) = (((p : Nat) : Int) : Rat) from rfl, ← Rat.intCast_mul] at h
    exact int_cast_inj h
  · rintro ⟨z, rfl⟩
    exact ⟨z, by rw [Rat.intCast_mul]; rfl⟩
theorem sm_dz {p n i : Nat} {f : Nat → Rat} (hi : i < n) (h : ∀ k, k < n → k ≠ i → Dz p (f k)) : Dz p (sm n f - f i) := by
  induction n with
  | zero => omega
  | succ n ih =>
    rw [sm_succ]
    by_cases e : i = n
    · subst e
      rw [show sm i f + f i - f i = sm i f from by grind]
      clear ih hi
      have : ∀ m, m ≤ i → Dz p (sm m f) := fun m => by
        induction m with
        | zero => intro _; exact Dz.zero p
        | succ m ih => intro hm; rw [sm_succ]; exact (ih (by omega)).add (h m (by omega) (by omega))
      exact this i (Nat.le_refl _)
    · have h1 := ih (by omega) fun k hk => h k (by omega)
      rw [show sm n f + f n - f i = (sm n f - f i) + f n from by grind]
      exact h1.add (h n (by omega) fun q => e q.symm)
theorem ZI.cv {F G : Nat → Rat} (h : ZI F) (k : ZI G) : ZI (cv F G) := fun i => by
  rw [cv_sm]
  have : ∀ n (f : Nat → Rat), (∀ j, ∃ z : Int, f j = (z : Rat)) → ∃ z : Int, sm n f = (z : Rat) := fun n f hf => by
    induction n with
    | zero => exact ⟨0, rfl⟩
    | succ n ih =>
      obtain ⟨a, ha⟩ := ih; obtain ⟨b, hb⟩ := hf n
      exact ⟨a + b, by rw [sm_succ, ha, hb, Rat.intCast_add]⟩
  refine this _ _ fun j => ?_
  obtain ⟨a, ha⟩ := h j; obtain ⟨b, hb⟩ := k (i - j)
  exact ⟨a * b, by rw [ha, hb, Rat.intCast_mul]⟩
theorem cn_dvd_all {F : Nat → Rat} (h : Fin_ F) {d : Nat} : d ∣ cn F ↔ ∀ i, (d : Int) ∣ (F i).num :=
  ⟨fun k i => Int.dvd_trans (Int.natCast_dvd_natCast.2 k) (cn_dvd h i), fun k => Int.natCast_dvd_natCast.1 (dvd_cn k)⟩
theorem gauss1 {F G : Nat → Rat} (zF : ZI F) (zG : ZI G) (fF : Fin_ F) (fG : Fin_ G) (hF : cn F = 1) (hG : cn G = 1) : cn (cv F G) = 1 := by
  have nF : F ≠ pz := fun e => by rw [e, cn_pz] at hF; omega
  have nG : G ≠ pz := fun e => by rw [e, cn_pz] at hG; omega
  have h0 : cn (cv F G) ≠ 0 := cn_ne (zF.cv zG) (fF.cv fG) fun e => by
    have := pl_cv fF fG nF nG; have a := pl_pos fF nF; have b := pl_pos fG nG
    rw [e, pl_pz] at this; omega
  by_cases h1 : cn (cv F G) = 1
  · exact h1
  · obtain ⟨p, hp, hd⟩ := prm_of (d := cn (cv F G)) (by omega)
    have hall := (cn_dvd_all (fF.cv fG)).1 hd
    have ex : ∀ {H : Nat → Rat}, Fin_ H → cn H = 1 → ∃ i, ¬ (p : Int) ∣ (H i).num := fun {H} fH hH => by
      by_cases k : ∃ i, ¬ (p : Int) ∣ (H i).num
      · exact k
      · have := (cn_dvd_all fH (d := p)).2 fun i => by
          by_cases q : (p : Int) ∣ (H i).num
          · exact q
          · exact absurd ⟨i, q⟩ k
        rw [hH] at this; have := Nat.le_of_dvd (by omega) this; have := hp.1; omega
    obtain ⟨i, hi, hi'⟩ := first_of (ex fF hF)
    obtain ⟨j, hj, hj'⟩ := first_of (ex fG hG)
    have hs := sm_dz (p := p) (n := i + j + 1) (i := i) (f := fun k => F k * G (i + j - k)) (by omega) fun k hk hne => by
      rcases Nat.lt_or_ge k i with a | a
      · have : Dz p (F k) := by
          rw [zF.num k]; refine dz_int.2 ?_
          by_cases q : (p : Int) ∣ (F k).num
          · exact q
          · exact absurd q (hi' k a)
        show Dz p (F k * G (i + j - k))
        rw [zG.num (i + j - k)]; exact this.mul _
      · have : Dz p (G (i + j - k)) := by
          rw [zG.num]; refine dz_int.2 ?_
          by_cases q : (p : Int) ∣ (G (i + j - k)).num
          · exact q
          · exact absurd q (hj' _ (by omega))
        show Dz p (F k * G (i + j - k))
        rw [Rat.mul_comm, zF.num k]; exact this.mul _
    rw [← cv_sm] at hs
    simp only [show i + j - i = j from by omega] at hs
    have ht : Dz p (cv F G (i + j)) := by rw [(zF.cv zG).num]; exact dz_int.2 (hall _)
    have hu := ht.sub hs
    rw [show cv F G (i + j) - (cv F G (i + j) - F i * G j) = F i * G j from by grind, zF.num i, zG.num j, ← Rat.intCast_mul] at hu
    rcases hp.mul (dz_int.1 hu) with q | q
    · exact absurd q hi
    · exact absurd q hj
theorem ct_psc (a : Int) {F : Nat → Rat} (z : ZI F) : ∀ n, ct n (psc (a : Rat) F) = a.natAbs * ct n F
  | 0 => by show 0 = _ * 0; omega
  | n + 1 => by
    rw [ct_succ, ct_succ, ct_psc a z n]
    have : (psc (a : Rat) F n).num = a * (F n).num := by show ((a : Rat) * F n).num = _; rw [z.num n, num_mul]; rfl
    rw [this]
    show Nat.gcd _ _ = _ * Nat.gcd _ _
    rw [Int.natAbs_mul, Int.natAbs_natCast, Int.natAbs_natCast, Nat.gcd_mul_left]
theorem cn_psc {a : Int} (h : a ≠ 0) {F : Nat → Rat} (z : ZI F) (f : Fin_ F) : cn (psc (a : Rat) F) = a.natAbs * cn F := by
  unfold cn
  rw [pl_psc (fun e => h (by exact_mod_cast e)) f, ct_psc a z]
theorem gauss {F G : Nat → Rat} (zF : ZI F) (zG : ZI G) (fF : Fin_ F) (fG : Fin_ G) : cn (cv F G) = cn F * cn G := by
  by_cases hF : F = pz
  · rw [hF, pz_cv, cn_pz]; omega
  by_cases hG : G = pz
  · rw [hG, cv_pz, cn_pz]; omega
  have nF := pcn_ne zF fF hF
  have nG := pcn_ne zG fG hG
  have e : cv F G = psc ((pcn F * pcn G : Int) : Rat) (cv (pp F) (pp G)) := by
    have e1 := pp_eq zF fF hF
    have e2 := pp_eq zG fG hG
    have : cv F G = cv (psc (pcn F : Rat) (pp F)) (psc (pcn G : Rat) (pp G)) := by rw [← e1, ← e2]
    rw [this, psc_cv, cv_psc, psc_psc, Rat.intCast_mul]
  rw [e, cn_psc (Int.mul_ne_zero nF nG) ((pp_zi zF fF).cv (pp_zi zG fG)) ((pp_fin fF).cv (pp_fin fG)), gauss1 (pp_zi zF fF) (pp_zi zG fG) (pp_fin fF) (pp_fin fG) (cn_pp zF fF hF) (cn_pp zG fG hG), Int.natAbs_mul, pcn_abs, pcn_abs]; omega
end Go.Hp
namespace Go.Hp
/-- The sign of an index. -/
def sg (i : Nat) : Rat := if i % 2 = 0 then 1 else -1
theorem sg_zero : sg 0 = 1 := rfl
theorem sg_succ (i : Nat) : sg (i + 1) = - sg i := by
  unfold sg
  rcases Nat.mod_two_eq_zero_or_one i with h | h
  · rw [if_neg (by omega), if_pos h]
  · rw [if_pos (by omega), if_neg (by omega)]; rfl
theorem sg_add (i j : Nat) : sg (i + j) = sg i * sg j := by
  induction j with
  | zero => rw [Nat.add_zero, sg_zero]; grind
  | succ j ih => rw [← Nat.add_assoc, sg_succ, sg_succ, ih]; grind
theorem sg_sq (i : Nat) : sg i * sg i = 1 := by
  induction i with
  | zero => rw [sg_zero]; grind
  | succ i ih => rw [sg_succ]; grind
/-- The indices without i. -/
def sk (i k : Nat) : Nat := if k < i then k else k + 1
theorem sk_ne (i k : Nat) : sk i k ≠ i := by unfold sk; split <;> omega
theorem sk_lt {i k n : Nat} (h : k < n) : sk i k < n + 1 := by unfold sk; split <;> omega
def minor (i : Nat) (A : Nat → Nat → Rat) : Nat → Nat → Rat := fun r c => A (sk i r) (c + 1)
def det : Nat → (Nat → Nat → Rat) → Rat
  | 0, _ => 1
  | n + 1, A => sm (n + 1) fun i => sg i * A i 0 * det n (minor i A)
theorem det_zero (A : Nat → Nat → Rat) : det 0 A = 1 := rfl
theorem det_succ (n : Nat) (A : Nat → Nat → Rat) : det (n + 1) A = sm (n + 1) fun i => sg i * A i 0 * det n (minor i A) := by rw [det]
theorem det_congr : ∀ {n : Nat} {A B : Nat → Nat → Rat}, (∀ i j, i < n → j < n → A i j = B i j) → det n A = det n B
  | 0, _, _, _ => rfl
  | n + 1, A, B, h => by
    rw [det_succ, det_succ]
    refine sm_congr fun i hi => ?_
    rw [h i 0 hi (by omega), det_congr (n := n) (A := minor i A) (B := minor i B) fun r c hr hc => h _ _ (sk_lt hr) (by omega)]
/-- A with another row i. -/
def rw_ (A : Nat → Nat → Rat) (i : Nat) (v : Nat → Rat) : Nat → Nat → Rat := fun r c => if r = i then v c else A r c
theorem rw_self (A : Nat → Nat → Rat) (i : Nat) : rw_ A i (A i) = A := by
  funext r c; unfold rw_; split
  · rename_i h; rw [h]
  · rfl
theorem minor_rw_same (A : Nat → Nat → Rat) (i : Nat) (v : Nat → Rat) : minor i (rw_ A i v) = minor i A := by
  funext r c; unfold minor rw_; rw [if_neg (sk_ne i r)]
theorem minor_rw_other (A : Nat → Nat → Rat) {i k : Nat} (h : i ≠ k) (v : Nat → Rat) : minor k (rw_ A i v) = rw_ (minor k A) (if i < k then i else i - 1) (fun c => v (c + 1)) := by
  funext r c
  unfold minor rw_
  have : sk k r = i ↔ r = (if i < k then i else i - 1) := by unfold sk; split <;> split <;> omega
  by_cases e : sk k r = i
  · rw [if_pos e, if_pos (this.1 e)]
  · rw [if_neg e, if_neg (fun q => e (this.2 q))]
theorem det_lin : ∀ {n : Nat} (A : Nat → Nat → Rat) {i : Nat}, i < n → ∀ (a b : Rat) (u v : Nat → Rat), det n (rw_ A i fun c => a * u c + b * v c) = a * det n (rw_ A i u) + b * det n (rw_ A i v)
  | 0, _, _, h, _, _, _, _ => absurd h (by omega)
  | n + 1, A, i, h, a, b, u, v => by
    rw [det_succ, det_succ, det_succ, ← sm_mul, ← sm_mul, ← sm_add]
    refine sm_congr fun k hk => ?_
    by_cases e : i = k
    · subst e
      rw [minor_rw_same, minor_rw_same, minor_rw_same]
      simp only [rw_, if_pos]
      grind
    · rw [minor_rw_other A e, minor_rw_other A e, minor_rw_other A e]
      have := det_lin (n := n) (minor k A) (i := if i < k then i else i - 1) (by split <;> omega) a b (fun c => u (c + 1)) (fun c => v (c + 1))
      rw [this]
      simp only [rw_, if_neg (Ne.symm e)]
      grind
/-- A with the rows i and i + 1 exchanged. -/
def sw (i : Nat) (A : Nat → Nat → Rat) : Nat → Nat → Rat := fun r => A (if r = i then i + 1 else if r = i + 1 then i else r)
theorem sm_swap {f g : Nat → Rat} {i : Nat} (h1 : f i = - g (i + 1)) (h2 : f (i + 1) = - g i) : ∀ {n : Nat}, i + 1 < n → (∀ k, k < n → k ≠ i → k ≠ i + 1 → f k = - g k) → sm n f = - sm n g
  | 0, h, _ => absurd h (by omega)
  | n + 1, h, k => by
    by_cases e : i + 1 = n
    · subst e
      have : sm i f = sm i (fun k => (-1) * g k) := sm_congr fun j hj => by rw [k j (by omega) (by omega) (by omega)]; grind
      rw [sm_succ, sm_succ, sm_succ, sm_succ, this, sm_mul, h1, h2]; grind
    · rw [sm_succ, sm_succ, sm_swap h1 h2 (n := n) (by omega) fun j hj => k j (by omega), k n (by omega) (by omega) (by omega)]; grind
theorem det_sw : ∀ {n : Nat} (A : Nat → Nat → Rat) {i : Nat}, i + 1 < n → det n (sw i A) = - det n A
  | 0, _, _, h => absurd h (by omega)
  | n + 1, A, i, h => by
    rw [det_succ, det_succ]
    refine sm_swap (i := i) ?_ ?_ h fun k hk h1 h2 => ?_
    · have : minor i (sw i A) = minor (i + 1) A := by
        funext r c; unfold minor sw sk
        refine congrArg (fun x => A x (c + 1)) ?_
        repeat' split
        all_goals omega
      rw [this, sg_succ]
      have : sw i A i 0 = A (i + 1) 0 := by unfold sw; rw [if_pos rfl]
      rw [this]; grind
    · have : minor (i + 1) (sw i A) = minor i A := by
        funext r c; unfold minor sw sk
        refine congrArg (fun x => A x (c + 1)) ?_
        repeat' split
        all_goals omega
      rw [this, sg_succ]
      have : sw i A (i + 1) 0 = A i 0 := by unfold sw; rw [if_neg (by omega), if_pos rfl]
      rw [this]; grind
    · have e : minor k (sw i A) = sw (if i < k then i else i - 1) (minor k A) := by
        funext r c; unfold minor sw sk
        refine congrArg (fun x => A x (c + 1)) ?_
        repeat' split
        all_goals omega
      rw [e, det_sw (n := n) (minor k A) (i := if i < k then i else i - 1) (by split <;> omega)]
      have : sw i A k 0 = A k 0 := by unfold sw; rw [if_neg h1, if_neg h2]
      rw [this]; grind
theorem det_same : ∀ (d : Nat) {n : Nat} (A : Nat → Nat → Rat) {i : Nat}, i + d + 1 < n → A i = A (i + d + 1) → det n A = 0
  | 0, n, A, i, h, e => by
    have : sw i A = A := by
      funext r; unfold sw
      by_cases a : r = i
      · subst a; rw [if_pos rfl]; exact e.symm
      · rw [if_neg a]
        by_cases b : r = i + 1
        · subst b; rw [if_pos rfl]; exact e
        · rw [if_neg b]
    have h2 := det_sw A (i := i) (by omega : i + 1 < n)
    rw [this] at h2; grind
  | d + 1, n, A, i, h, e => by
    have h2 := det_sw A (i := i + d + 1) (by omega : i + d + 1 + 1 < n)
    have h3 := det_same d (n := n) (sw (i + d + 1) A) (i := i) (by omega) (by
      unfold sw; rw [if_neg (by omega), if_neg (by omega), if_pos rfl]; exact e)
    grind
theorem det_equal {n i j : Nat} {A : Nat → Nat → Rat} (hi : i < n) (hj : j < n) (h : i ≠ j) (e : A i = A j) : det n A = 0 := by
  rcases Nat.lt_or_gt_of_ne h with h | h
  · exact det_same (j - i - 1) A (i := i) (by omega) (by rw [show i + (j - i - 1) + 1 = j from by omega]; exact e)
  · exact det_same (i - j - 1) A (i := j) (by omega) (by rw [show j + (i - j - 1) + 1 = i from by omega]; exact e.symm)
theorem det_add {n i j : Nat} (A : Nat → Nat → Rat) (hi : i < n) (hj : j < n) (h : i ≠ j) (t : Rat) : det n (rw_ A i fun c => A i c + t * A j c) = det n A := by
  have h1 := det_lin A hi 1 t (A i) (A j)
  rw [rw_self, det_equal (A := rw_ A i (A j)) hi hj h (by funext c; simp only [rw_, if_pos]; rw [if_neg (Ne.symm h)])] at h1
  rw [show (fun c => A i c + t * A j c) = fun c => 1 * A i c + t * A j c from by funext c; grind, h1]; grind
theorem rw_rw (A : Nat → Nat → Rat) (i : Nat) (u v : Nat → Rat) : rw_ (rw_ A i u) i v = rw_ A i v := by funext r c; unfold rw_; split <;> rfl
theorem det_adds {n i : Nat} (A : Nat → Nat → Rat) (hi : i < n) (t : Nat → Rat) (p : Nat → Nat) : ∀ k, (∀ j, j < k → p j < n ∧ p j ≠ i) → det n (rw_ A i fun c => A i c + sm k fun j => t j * A (p j) c) = det n A
  | 0, _ => by
    rw [show (fun c => A i c + sm 0 fun j => t j * A (p j) c) = A i from by funext c; rw [sm_zero]; grind, rw_self]
  | k + 1, h => by
    have h1 := det_adds A hi t p k fun j hj => h j (by omega)
    obtain ⟨h2, h3⟩ := h k (by omega)
    have h4 := det_add (rw_ A i fun c => A i c + sm k fun j => t j * A (p j) c) hi h2 (Ne.symm h3) (t k)
    rw [h1, rw_rw] at h4
    rw [← h4]
    congr 2; funext c
    simp only [rw_, if_pos, if_neg h3, sm_succ]; grind
/-- Multiples of rows outside P added to the rows in P. -/
theorem det_rows {n : Nat} (A : Nat → Nat → Rat) (P : Nat → Bool) (k : Nat → Nat) (t : Nat → Nat → Rat) (p : Nat → Nat → Nat) (h : ∀ i j, i < n → P i = true → j < k i → p i j < n ∧ P (p i j) = false) :
    det n (fun r c => if P r then A r c + sm (k r) (fun j => t r j * A (p r j) c) else A r c) = det n A := by
  have key : ∀ s, s ≤ n → det n (fun r c => if P r && decide (r < s) then A r c + sm (k r) (fun j => t r j * A (p r j) c) else A r c) = det n A := by
    intro s
    induction s with
    | zero => intro _; refine det_congr fun i j _ _ => ?_; rw [if_neg (by simp)]
    | succ s ih =>
      intro hs
      have h1 := ih (by omega)
      cases hP : P s with
      | false =>
        rw [← h1]
        refine det_congr fun i j _ _ => ?_
        by_cases e : i = s
        · subst e; rw [if_neg (by simp [hP]), if_neg (by simp [hP])]
        · have : decide (i < s + 1) = decide (i < s) := by simp; omega
          rw [this]
      | true =>
        obtain ⟨B, hB⟩ : ∃ B : Nat → Nat → Rat, B = fun r c => if P r && decide (r < s) then A r c + sm (k r) (fun j => t r j * A (p r j) c) else A r c := ⟨_, rfl⟩
        rw [← hB] at h1
        have hs0 : B s = A s := by funext c; rw [hB]; show (if _ then _ else _) = _; rw [if_neg (by simp)]
        have hp : ∀ j, j < k s → B (p s j) = A (p s j) := fun j hj => by
          obtain ⟨_, h3⟩ := h s j (by omega) hP hj
          funext c; rw [hB]; show (if _ then _ else _) = _; rw [if_neg (by simp [h3])]
        have h2 := det_adds B (i := s) (by omega : s < n) (t s) (p s) (k s) fun j hj => by
          obtain ⟨h2, h3⟩ := h s j (by omega) hP hj
          exact ⟨h2, fun e => by rw [e, hP] at h3; cases h3⟩
        rw [← h1, ← h2]
        refine det_congr fun i c _ _ => ?_
        unfold rw_
        by_cases e : i = s
        · subst e
          rw [if_pos (by simp [hP]), if_pos rfl, hs0]
          congr 1
          exact sm_congr fun j hj => by rw [hp j hj]
        · have : decide (i < s + 1) = decide (i < s) := by simp; omega
          rw [this, if_neg e, hB]
  rw [← key n (Nat.le_refl n)]
  refine det_congr fun i j hi _ => ?_
  rw [show decide (i < n) = true from by simpa using hi, Bool.and_true]
/-- The first s rows scaled. -/
theorem det_scale {n : Nat} (A : Nat → Nat → Rat) (a : Rat) : ∀ s, s ≤ n → det n (fun r c => if r < s then a * A r c else A r c) = a ^ s * det n A
  | 0, _ => by
    rw [show (fun r c => if r < 0 then a * A r c else A r c) = A from by funext r c; rw [if_neg (by omega)]]
    rw [Rat.pow_zero]; grind
  | s + 1, h => by
    obtain ⟨B, hB⟩ : ∃ B : Nat → Nat → Rat, B = fun r c => if r < s then a * A r c else A r c := ⟨_, rfl⟩
    have h1 := det_scale (n := n) A a s (by omega)
    rw [← hB] at h1
    have h2 := det_lin B (i := s) (by omega : s < n) a 0 (B s) (B s)
    rw [rw_self, h1] at h2
    rw [Rat.pow_succ]
    rw [show det n (fun r c => if r < s + 1 then a * A r c else A r c) = det n (rw_ B s fun c => a * B s c + 0 * B s c) from ?_, h2]
    · grind
    · refine det_congr fun i c _ _ => ?_
      unfold rw_
      by_cases e : i = s
      · subst e; rw [if_pos (by omega), if_pos rfl, hB]; simp only; rw [if_neg (by omega)]; grind
      · rw [if_neg e, hB]; simp only
        by_cases e2 : i < s
        · rw [if_pos e2, if_pos (by omega)]
        · rw [if_neg e2, if_neg (by omega)]
theorem sm_one {n k : Nat} {f : Nat → Rat} (hk : k < n) (h : ∀ i, i < n → i ≠ k → f i = 0) : sm n f = f k := by
  induction n with
  | zero => omega
  | succ n ih =>
    rw [sm_succ]
    by_cases e : k = n
    · subst e
      have : sm k f = sm k (fun _ => 0) := sm_congr fun j hj => h j (by omega) (by omega)
      rw [this, sm_nil]; grind
    · rw [ih (by omega) fun i hi => h i (by omega), h n (by omega) (fun q => e q.symm)]; grind
/-- Only one entry of the first column is not 0. -/
theorem det_col {n k : Nat} {A : Nat → Nat → Rat} (hk : k < n + 1) (h : ∀ i, i < n + 1 → i ≠ k → A i 0 = 0) : det (n + 1) A = sg k * A k 0 * det n (minor k A) := by
  rw [det_succ, sm_one (f := fun i => sg i * A i 0 * det n (minor i A)) hk fun i hi e => by rw [h i hi e]; grind]
end Go.Hp
namespace Go.Hp
/-- Sylvester's matrix with formal degrees. -/
def syl (m : Nat) (F : Nat → Rat) (n : Nat) (G : Nat → Rat) : Nat → Nat → Rat := fun r c => if r < n then (if c ≤ m + r then F (m + r - c) else 0) else (if c ≤ r then G (r - c) else 0)
def rsf (m : Nat) (F : Nat → Rat) (n : Nat) (G : Nat → Rat) : Rat := det (m + n) (syl m F n G)
theorem sk_0 (r : Nat) : sk 0 r = r + 1 := by unfold sk; rw [if_neg (by omega)]
/-- The first polynomial is shorter than its formal degree says. -/
theorem rsf_f0 {m n : Nat} {F G : Nat → Rat} (hF : Sup (m + 1) F) (hG : Sup (n + 1) G) : rsf (m + 1) F n G = sg n * G n * rsf m F n G := by
  unfold rsf
  rw [show m + 1 + n = m + n + 1 from by omega, det_col (k := n) (by omega)]
  · congr 1
    · congr 1
      show (if n < n then _ else _) = _
      rw [if_neg (by omega), if_pos (by omega)]; rfl
    · refine det_congr fun r c hr hc => ?_
      unfold minor syl sk
      by_cases h : r < n
      · rw [if_pos h, if_pos h, if_pos h]
        by_cases h2 : c ≤ m + r
        · rw [if_pos h2, if_pos (by omega)]; congr 1; omega
        · rw [if_neg h2, if_neg (by omega)]
      · rw [if_neg h, if_neg (by omega), if_neg h]
        by_cases h2 : c ≤ r
        · rw [if_pos h2, if_pos (by omega)]; congr 1; omega
        · rw [if_neg h2, if_neg (by omega)]
  · intro i hi hne
    unfold syl
    by_cases h : i < n
    · rw [if_pos h, if_pos (by omega)]; exact hF _ (by omega)
    · rw [if_neg h, if_pos (by omega)]; exact hG _ (by omega)
theorem rsf_g0 {m n : Nat} {F G : Nat → Rat} (hF : Sup (m + 1) F) (hG : m = 0 ∨ Sup (n + 1) G) : rsf m F (n + 1) G = F m * rsf m F n G := by
  unfold rsf
  rw [show m + (n + 1) = m + n + 1 from by omega, det_col (k := 0) (by omega)]
  · rw [sg_zero, show syl m F (n + 1) G 0 0 = F m from by unfold syl; rw [if_pos (by omega), if_pos (by omega)]; rfl]
    rw [show (1 : Rat) * F m = F m from by grind]
    congr 1
    refine det_congr fun r c hr hc => ?_
    unfold minor
    rw [sk_0]
    unfold syl
    by_cases h : r < n
    · rw [if_pos (by omega), if_pos h]
      by_cases h2 : c ≤ m + r
      · rw [if_pos h2, if_pos (by omega)]; congr 1; omega
      · rw [if_neg h2, if_neg (by omega)]
    · rw [if_neg (by omega), if_neg h]
      by_cases h2 : c ≤ r
      · rw [if_pos h2, if_pos (by omega)]; congr 1; omega
      · rw [if_neg h2, if_neg (by omega)]
  · intro i hi hne
    unfold syl
    by_cases h : i < n + 1
    · rw [if_pos h, if_pos (by omega)]; exact hF _ (by omega)
    · rw [if_neg h, if_pos (by omega)]
      rcases hG with rfl | hG
      · omega
      · exact hG _ (by omega)
theorem sm_tail {f : Nat → Rat} {a : Nat} (h : ∀ i, a ≤ i → f i = 0) : ∀ {b}, a ≤ b → sm b f = sm a f := by
  intro b hb
  obtain ⟨k, rfl⟩ : ∃ k, b = a + k := ⟨b - a, by omega⟩
  clear hb
  induction k with
  | zero => rfl
  | succ k ih => rw [← Nat.add_assoc, sm_succ, ih, h _ (by omega)]; grind
theorem cv_at {Q G : Nat → Rat} {k : Nat} (h : Sup k Q) (d : Nat) : cv Q G d = sm k fun j => Q j * if j ≤ d then G (d - j) else 0 := by
  obtain ⟨f, hf⟩ : ∃ f : Nat → Rat, f = fun j => Q j * if j ≤ d then G (d - j) else 0 := ⟨_, rfl⟩
  rw [← hf]
  have h1 : cv Q G d = sm (d + 1) f := by
    rw [cv_sm]
    refine sm_congr fun i hi => ?_
    rw [hf]; simp only; rw [if_pos (by omega)]
  have h2 : sm (max k (d + 1)) f = sm k f := sm_tail (fun i hi => by rw [hf]; simp only; rw [h i hi]; grind) (by omega)
  have h3 : sm (max k (d + 1)) f = sm (d + 1) f := sm_tail (fun i hi => by rw [hf]; simp only; rw [if_neg (by omega)]; grind) (by omega)
  rw [h1, ← h3, h2]
theorem rsf_red {m n : Nat} {F G Q : Nat → Rat} (h : n ≤ m) (hQ : Sup (m - n + 1) Q) : rsf m (pad F (cv Q G)) n G = rsf m F n G := by
  unfold rsf
  rw [← det_rows (syl m F n G) (fun r => decide (r < n)) (fun _ => m - n + 1) (fun _ j => Q j) (fun r j => m + r - j) fun i j hi hp hj => by
    simp only [decide_eq_true_eq] at hp
    exact ⟨by omega, by simp; omega⟩]
  refine det_congr fun r c hr hc => ?_
  by_cases h1 : r < n
  · rw [if_pos (by simpa using h1)]
    unfold syl
    rw [if_pos h1, if_pos h1]
    by_cases h2 : c ≤ m + r
    · rw [if_pos h2, if_pos h2]
      show F _ + cv Q G _ = _
      rw [cv_at hQ]
      congr 1
      refine sm_congr fun j hj => ?_
      rw [if_neg (show ¬ m + r - j < n by omega)]
      by_cases h3 : j ≤ m + r - c
      · rw [if_pos h3, if_pos (by omega)]; congr 2; omega
      · rw [if_neg h3, if_neg (by omega)]
    · rw [if_neg h2, if_neg h2]
      have : sm (m - n + 1) (fun j => Q j * if m + r - j < n then (if c ≤ m + (m + r - j) then F (m + (m + r - j) - c) else 0) else if c ≤ m + r - j then G (m + r - j - c) else 0) = sm (m - n + 1) (fun _ => 0) := sm_congr fun j hj => by
        rw [if_neg (by omega), if_neg (by omega)]; grind
      rw [this, sm_nil]; grind
  · rw [if_neg (by simpa using h1)]
    unfold syl
    rw [if_neg h1, if_neg h1]
theorem rsf_red' {m n : Nat} {F G Q : Nat → Rat} (h : m ≤ n) (hQ : Sup (n - m + 1) Q) : rsf m F n (pad G (cv Q F)) = rsf m F n G := by
  unfold rsf
  rw [← det_rows (syl m F n G) (fun r => decide (n ≤ r)) (fun _ => n - m + 1) (fun _ j => Q j) (fun r j => r - j - m) fun i j hi hp hj => by
    simp only [decide_eq_true_eq] at hp
    exact ⟨by omega, by simp; omega⟩]
  refine det_congr fun r c hr hc => ?_
  by_cases h1 : r < n
  · rw [if_neg (by simp; omega)]
    unfold syl
    rw [if_pos h1, if_pos h1]
  · rw [if_pos (by simp; omega)]
    unfold syl
    rw [if_neg h1, if_neg h1]
    by_cases h2 : c ≤ r
    · rw [if_pos h2, if_pos h2]
      show G _ + cv Q F _ = _
      rw [cv_at hQ]
      congr 1
      refine sm_congr fun j hj => ?_
      rw [if_pos (show r - j - m < n by omega)]
      by_cases h3 : j ≤ r - c
      · rw [if_pos h3, if_pos (by omega)]; congr 2; omega
      · rw [if_neg h3, if_neg (by omega)]
    · rw [if_neg h2, if_neg h2]
      have : sm (n - m + 1) (fun j => Q j * if r - j - m < n then (if c ≤ m + (r - j - m) then F (m + (r - j - m) - c) else 0) else if c ≤ r - j - m then G (r - j - m - c) else 0) = sm (n - m + 1) (fun _ => 0) := sm_congr fun j hj => by
        rw [if_pos (by omega), if_neg (by omega)]; grind
      rw [this, sm_nil]; grind
theorem rsf_fc {F : Nat → Rat} (hF : Sup 1 F) (G : Nat → Rat) : ∀ n, rsf 0 F n G = F 0 ^ n
  | 0 => by rw [Rat.pow_zero]; rfl
  | n + 1 => by rw [rsf_g0 hF (.inl rfl), rsf_fc hF G n, Rat.pow_succ]; grind
theorem rsf_gc (F : Nat → Rat) {G : Nat → Rat} (hG : Sup 1 G) : ∀ m, rsf m F 0 G = G 0 ^ m
  | 0 => by rw [Rat.pow_zero]; rfl
  | m + 1 => by
    have : rsf (m + 1) F 0 G = sg 0 * G 0 * rsf m F 0 G := by
      unfold rsf
      rw [show m + 1 + 0 = m + 0 + 1 from by omega, det_col (k := 0) (by omega)]
      · rw [show syl (m + 1) F 0 G 0 0 = G 0 from by unfold syl; rw [if_neg (by omega), if_pos (by omega)]]
        congr 1
        refine det_congr fun r c hr hc => ?_
        unfold minor
        rw [sk_0]
        unfold syl
        rw [if_neg (show ¬ r + 1 < 0 by omega), if_neg (show ¬ r < 0 by omega)]
        by_cases h2 : c ≤ r
        · rw [if_pos h2, if_pos (show c + 1 ≤ r + 1 by omega)]; congr 1; omega
        · rw [if_neg h2, if_neg (show ¬ c + 1 ≤ r + 1 by omega)]
      · intro i hi hne
        unfold syl
        rw [if_neg (by omega), if_pos (by omega)]; exact hG _ (by omega)
    rw [this, rsf_gc F hG m, Rat.pow_succ, sg_zero]; grind
theorem sg_mul_succ (m n : Nat) : sg ((m + 1) * n) = sg (m * n) * sg n := by rw [Nat.succ_mul, sg_add]
theorem red_top {m n : Nat} {F G : Nat → Rat} (h : n ≤ m) (hF : Sup (m + 1) F) (hG : Sup (n + 1) G) (h0 : G n ≠ 0) : ∃ Q, Sup (m - n + 1) Q ∧ Sup m (pad F (cv Q G)) := by
  refine ⟨mono (m - n) (-(F m / G n)), mono_sup _ _, fun i hi => ?_⟩
  rw [mono_cv]
  show F i + _ * sh (m - n) G i = 0
  rcases Nat.eq_or_lt_of_le hi with e | e
  · subst e; unfold sh; rw [if_neg (by omega), show m - (m - n) = n from by omega]; grind
  · unfold sh; rw [hF i (by omega), if_neg (by omega), hG (i - (m - n)) (by omega)]; grind
theorem rsf_symm : ∀ (s : Nat) {m n : Nat} {F G : Nat → Rat}, m + n ≤ s → Sup (m + 1) F → Sup (n + 1) G → rsf n G m F = sg (m * n) * rsf m F n G
  | s, 0, n, F, G, _, hF, _ => by rw [rsf_gc G hF, rsf_fc hF G, Nat.zero_mul, sg_zero]; grind
  | s, m + 1, 0, F, G, _, _, hG => by rw [rsf_fc hG F, rsf_gc F hG, Nat.mul_zero, sg_zero]; grind
  | 0, m + 1, n + 1, _, _, h, _, _ => absurd h (by omega)
  | s + 1, m + 1, n + 1, F, G, hs, hF, hG => by
    have hf : ∀ {F : Nat → Rat}, Sup (m + 1) F → rsf (n + 1) G (m + 1) F = sg ((m + 1) * (n + 1)) * rsf (m + 1) F (n + 1) G := fun {F} h => by
      rw [rsf_g0 hG (.inr h), rsf_f0 h hG, rsf_symm s (m := m) (n := n + 1) (by omega) h hG, sg_mul_succ]
      have := sg_sq (n + 1)
      grind
    have hg : ∀ {G : Nat → Rat}, Sup (n + 1) G → rsf (n + 1) G (m + 1) F = sg ((m + 1) * (n + 1)) * rsf (m + 1) F (n + 1) G := fun {G} h => by
      rw [rsf_f0 h hF, rsf_g0 hF (.inr h), rsf_symm s (m := m + 1) (n := n) (by omega) hF h, Nat.mul_comm (m + 1) (n + 1), sg_mul_succ n (m + 1), Nat.mul_comm n (m + 1)]
      have := sg_sq (m + 1)
      grind
    by_cases h1 : F (m + 1) = 0
    · exact hf fun i hi => by
        rcases Nat.eq_or_lt_of_le hi with e | e
        · rw [← e]; exact h1
        · exact hF i (by omega)
    · by_cases h2 : G (n + 1) = 0
      · exact hg fun i hi => by
          rcases Nat.eq_or_lt_of_le hi with e | e
          · rw [← e]; exact h2
          · exact hG i (by omega)
      · rcases Nat.le_total (n + 1) (m + 1) with h3 | h3
        · obtain ⟨Q, hQ, hR⟩ := red_top h3 hF hG h2
          rw [← rsf_red h3 hQ, ← rsf_red' h3 hQ]
          exact hf hR
        · obtain ⟨Q, hQ, hR⟩ := red_top h3 hG hF h1
          rw [← rsf_red h3 hQ, ← rsf_red' h3 hQ]
          exact hg hR
theorem rsf_sym {m n : Nat} {F G : Nat → Rat} (hF : Sup (m + 1) F) (hG : Sup (n + 1) G) : rsf n G m F = sg (m * n) * rsf m F n G := rsf_symm (m + n) (Nat.le_refl _) hF hG
theorem rsf_down {r n : Nat} {R G : Nat → Rat} (hR : Sup (r + 1) R) (hG : Sup (n + 1) G) : ∀ k, rsf (r + k) R n G = sg (n * k) * G n ^ k * rsf r R n G
  | 0 => by rw [Nat.mul_zero, sg_zero, Rat.pow_zero]; show rsf r R n G = _; grind
  | k + 1 => by
    rw [← Nat.add_assoc, rsf_f0 (hR.mono (by omega)) hG, rsf_down hR hG k, Nat.mul_succ, sg_add, Rat.pow_succ]; grind
/-- A round of Euclid. -/
theorem rsf_step {m n r : Nat} {F G Q R : Nat → Rat} (h : n ≤ m) (hr : r ≤ m) (hG : Sup (n + 1) G) (hQ : Sup (m - n + 1) Q) (hR : Sup (r + 1) R) (e : F = pad (cv Q G) R) : rsf m F n G = sg (m * n) * G n ^ (m - r) * rsf n G r R := by
  rw [show F = pad R (cv Q G) from by rw [e]; funext i; simp only [pad]; grind, rsf_red h hQ]
  have h1 := rsf_down hR hG (m - r)
  rw [show r + (m - r) = m from by omega] at h1
  rw [h1, rsf_sym hR hG, show m * n = n * (m - r) + r * n from by rw [Nat.mul_sub, Nat.mul_comm n m, Nat.mul_comm n r]; have := Nat.mul_le_mul_right n hr; omega, sg_add]
  have := sg_sq (r * n)
  grind
theorem rsf_pz {m n : Nat} (G : Nat → Rat) (h : 0 < n) : rsf m pz n G = 0 := by
  unfold rsf
  have h1 := det_lin (n := m + n) (syl m pz n G) (i := 0) (by omega) 0 0 (syl m pz n G 0) (syl m pz n G 0)
  rw [show rw_ (syl m pz n G) 0 (fun c => 0 * syl m pz n G 0 c + 0 * syl m pz n G 0 c) = syl m pz n G from ?_] at h1
  · rw [h1]; grind
  · funext r c
    unfold rw_
    by_cases e : r = 0
    · subst e; rw [if_pos rfl]; unfold syl; rw [if_pos h]
      have : (if c ≤ m + 0 then pz (m + 0 - c) else 0) = 0 := by split <;> rfl
      rw [this]; grind
    · rw [if_neg e]
theorem rsf_psc {m n : Nat} (a : Rat) (F G : Nat → Rat) : rsf m (psc a F) n G = a ^ n * rsf m F n G := by
  unfold rsf
  rw [← det_scale (syl m F n G) a n (by omega)]
  refine det_congr fun r c _ _ => ?_
  unfold syl
  by_cases h : r < n
  · rw [if_pos h, if_pos h, if_pos h]
    split
    · rfl
    · grind
  · rw [if_neg h, if_neg h, if_neg h]
theorem rsf_psc' {m n : Nat} (a : Rat) {F G : Nat → Rat} (hF : Sup (m + 1) F) (hG : Sup (n + 1) G) : rsf m F n (psc a G) = a ^ m * rsf m F n G := by
  have h1 := rsf_sym (hG.psc a) hF
  have h2 := rsf_sym hG hF
  rw [h1, h2, rsf_psc]; grind
/-- The resultant. -/
noncomputable def res (F G : Nat → Rat) : Rat := if pl F = 0 ∨ pl G = 0 then 0 else rsf (pl F - 1) F (pl G - 1) G
/-- Integers. -/
theorem sm_int {f : Nat → Rat} : ∀ {n : Nat}, (∀ i, i < n → ∃ z : Int, f i = (z : Rat)) → ∃ z : Int, sm n f = (z : Rat)
  | 0, _ => ⟨0, rfl⟩
  | n + 1, h => by
    obtain ⟨a, ha⟩ := sm_int (n := n) fun i hi => h i (by omega)
    obtain ⟨b, hb⟩ := h n (by omega)
    exact ⟨a + b, by rw [sm_succ, ha, hb, Rat.intCast_add]⟩
theorem sg_int (i : Nat) : ∃ z : Int, sg i = (z : Rat) := by
  unfold sg; split
  · exact ⟨1, rfl⟩
  · exact ⟨-1, rfl⟩
theorem det_int : ∀ {n : Nat} {A : Nat → Nat → Rat}, (∀ i j, ∃ z : Int, A i j = (z : Rat)) → ∃ z : Int, det n A = (z : Rat)
  | 0, _, _ => ⟨1, rfl⟩
  | n + 1, A, h => by
    rw [det_succ]
    refine sm_int fun i hi => ?_
    obtain ⟨a, ha⟩ := sg_int i
    obtain ⟨b, hb⟩ := h i 0
    obtain ⟨c, hc⟩ := det_int (n := n) (A := minor i A) fun r c => h _ _
    exact ⟨a * b * c, by rw [ha, hb, hc, Rat.intCast_mul, Rat.intCast_mul]⟩
theorem res_int {F G : Nat → Rat} (hF : ∀ i, ∃ z : Int, F i = (z : Rat)) (hG : ∀ i, ∃ z : Int, G i = (z : Rat)) : ∃ z : Int, res F G = (z : Rat) := by
  unfold res
  split
  · exact ⟨0, rfl⟩
  · refine det_int fun i j => ?_
    unfold syl
    split
    · split
      · exact hF _
      · exact ⟨0, rfl⟩
    · split
      · exact hG _
      · exact ⟨0, rfl⟩
end Go.Hp
namespace Go.Hp
theorem res_eq {F G : Nat → Rat} (hF : Fin_ F) (hG : Fin_ G) (h : F ≠ pz) (k : G ≠ pz) : res F G = rsf (pl F - 1) F (pl G - 1) G := by
  have := pl_pos hF h; have := pl_pos hG k
  unfold res; rw [if_neg (by omega)]
theorem sup_top {F : Nat → Rat} (h : Fin_ F) : Sup (pl F - 1 + 1) F := (pl_sup h).mono (by omega)
theorem qsz_nm (q : Rat) : sz q.num.natAbs ≤ qsz q := by unfold qsz; omega
theorem pow_int (a : Int) : ∀ n : Nat, ((a : Rat)) ^ n = ((a ^ n : Int) : Rat)
  | 0 => by rw [Rat.pow_zero, Int.pow_zero]; rfl
  | n + 1 => by rw [Rat.pow_succ, pow_int a n, Int.pow_succ, Rat.intCast_mul]
theorem pow_ne {a : Rat} (h : a ≠ 0) : ∀ n : Nat, a ^ n ≠ 0
  | 0 => by rw [Rat.pow_zero]; decide
  | n + 1 => by
    rw [Rat.pow_succ]; intro e
    rcases Rat.mul_eq_zero.1 e with e | e
    · exact pow_ne h n e
    · exact h e
theorem pow_mul_ (a : Rat) (m : Nat) : ∀ n : Nat, (a ^ m) ^ n = a ^ (m * n)
  | 0 => by rw [Rat.pow_zero, Nat.mul_zero, Rat.pow_zero]
  | n + 1 => by
    rw [Rat.pow_succ, pow_mul_ a m n, Nat.mul_succ]
    generalize m * n = k
    induction m with
    | zero => rw [Rat.pow_zero]; grind
    | succ m ih => rw [Rat.pow_succ, ← Nat.add_assoc, Rat.pow_succ, ← ih]; grind
theorem sz_powz (x : Int) (s : Nat) (h : sz x.natAbs ≤ s) : ∀ n : Nat, sz (x ^ n).natAbs ≤ 1 + n * s
  | 0 => by rw [Int.pow_zero]; have : sz (1 : Int).natAbs ≤ 1 := by decide
            omega
  | n + 1 => by
    rw [Int.pow_succ, Int.natAbs_mul, Nat.succ_mul]
    have h1 := sz_mul (x ^ n).natAbs x.natAbs; have h2 := sz_powz x s h n
    omega
theorem sz_powz' (x : Int) (s : Nat) (h : sz x.natAbs ≤ s) {n : Nat} (hn : 0 < n) : sz (x ^ n).natAbs ≤ n * s := by
  obtain ⟨n, rfl⟩ : ∃ k, n = k + 1 := ⟨n - 1, by omega⟩
  clear hn
  induction n with
  | zero => rw [Int.pow_succ, Int.pow_zero, Int.one_mul]; omega
  | succ n ih =>
    rw [Int.pow_succ, Int.natAbs_mul, Nat.succ_mul]
    have h1 := sz_mul (x ^ (n + 1)).natAbs x.natAbs
    omega
/-- A round: what it does to the resultant. -/
theorem res_round {F G : Nat → Rat} (hF : Fin_ F) (hG : Fin_ G) (hf : F ≠ pz) (hg : G ≠ pz) (h : pl G ≤ pl F) (hzF : ZI F) (hzG : ZI G) {R : Nat → Rat} (hR : R = psR F G (pl F + 1 - pl G)) (h0 : R ≠ pz) :
    res F G * ld G ^ ((pl F + 1 - pl G) * (pl G - 1)) = sg ((pl F - 1) * (pl G - 1)) * ((pcn R : Int) : Rat) ^ (pl G - 1) * ld G ^ (pl F - 1 - (pl R - 1)) * res G (pp R) := by
  have hp := pl_pos hG hg
  have hRz : ZI R := hR ▸ psR_zi hzF hzG _
  have hRs : Sup (pl G - 1) R := by
    rw [hR]; exact (psR_sup hF hG hg _ (Nat.le_refl _)).mono (by omega)
  have hRf : Fin_ R := ⟨_, hRs⟩
  have hrl := pl_le hRs
  have hrp := pl_pos hRf h0
  have hP := pp_ne hRz hRf h0
  have hPf := pp_fin hRf
  have hPl := pp_pl hRz hRf
  rw [res_eq hF hG hf hg, res_eq hG hPf hg hP, hPl, ← pow_mul_, Rat.mul_comm, ← rsf_psc]
  have e := psQR_eq (F := F) (G := G) (pl F + 1 - pl G)
  rw [← hR] at e
  rw [rsf_step (r := pl R - 1) (by omega) (by omega) (sup_top hG) ((psQ_sup h _ (Nat.le_refl _)).1.mono (by omega)) (sup_top hRf) e]
  have e2 : rsf (pl G - 1) G (pl R - 1) R = ((pcn R : Int) : Rat) ^ (pl G - 1) * rsf (pl G - 1) G (pl R - 1) (pp R) := by
    have := rsf_psc' ((pcn R : Int) : Rat) (m := pl G - 1) (n := pl R - 1) (sup_top hG) (G := pp R) (by have := sup_top hPf; rw [hPl] at this; exact this)
    rw [← pp_eq hRz hRf h0] at this
    exact this
  rw [e2]
  show _ * G (pl G - 1) ^ _ * _ = _ * _ * G (pl G - 1) ^ _ * _
  grind
theorem res_swap {F G : Nat → Rat} (hF : Fin_ F) (hG : Fin_ G) (hf : F ≠ pz) (hg : G ≠ pz) : res F G = sg ((pl F - 1) * (pl G - 1)) * res G F := by
  rw [res_eq hF hG hf hg, res_eq hG hF hg hf, rsf_sym (sup_top hF) (sup_top hG)]
  have := sg_sq ((pl F - 1) * (pl G - 1))
  grind
theorem res_zero {F G : Nat → Rat} (hF : Fin_ F) (hG : Fin_ G) (hf : F ≠ pz) (h : pl G ≤ pl F) (h1 : 1 < pl G) (hR : psR F G (pl F + 1 - pl G) = pz) : res F G = 0 := by
  have hg : G ≠ pz := fun e => by rw [e, pl_pz] at h1; omega
  have e := psQR_eq (F := F) (G := G) (pl F + 1 - pl G)
  rw [hR] at e
  have e2 : psc (ld G ^ (pl F + 1 - pl G)) F = pad pz (cv (psQ F G (pl F + 1 - pl G)) G) := by rw [e]; funext i; simp only [pad, pz]; grind
  have h3 := rsf_psc (m := pl F - 1) (n := pl G - 1) (ld G ^ (pl F + 1 - pl G)) F G
  rw [e2, rsf_red (by omega) ((psQ_sup h _ (Nat.le_refl _)).1.mono (by omega)), rsf_pz G (by omega)] at h3
  rw [res_eq hF hG hf hg]
  rcases Rat.mul_eq_zero.1 h3.symm with h4 | h4
  · exact absurd h4 (pow_ne (pow_ne (ld_ne hG hg) _) _)
  · exact h4
theorem res_const {F G : Nat → Rat} (hF : Fin_ F) (hG : Fin_ G) (hf : F ≠ pz) (h : pl G = 1) : res F G = G 0 ^ (pl F - 1) := by
  have hg : G ≠ pz := fun e => by rw [e, pl_pz] at h; omega
  rw [res_eq hF hG hf hg, h]
  exact rsf_gc F (h ▸ pl_sup hG) _
/-- The state: what has been gone through stands in x over y. D bounds the lengths, S the digits. -/
structure RsSt (F0 G0 : Nat → Rat) (D S : Nat) (F G : Nat → Rat) (x y : Int) : Prop where
  fF : Fin_ F
  fG : Fin_ G
  nF : F ≠ pz
  nG : G ≠ pz
  zF : ZI F
  zG : ZI G
  eq : res F0 G0 * (y : Rat) = (x : Rat) * res F G
  ny : y ≠ 0
  len : pl F + pl G ≤ D
  qF : ∀ i, qsz (F i) + 1 ≤ (S + 1) * 2 ^ (D - (pl F + pl G))
  qG : ∀ i, qsz (G i) + 1 ≤ (S + 1) * 2 ^ (D - (pl F + pl G))
  sx : sz x.natAbs ≤ 1 + (D - (pl F + pl G)) * (D * ((S + 1) * 2 ^ D))
  sy : sz y.natAbs ≤ 1 + (D - (pl F + pl G)) * (D * ((S + 1) * 2 ^ D))
theorem RsSt.start {F G : Nat → Rat} {S : Nat} (hF : Fin_ F) (hG : Fin_ G) (hf : F ≠ pz) (hg : G ≠ pz) (zF : ZI F) (zG : ZI G) (qF : ∀ i, qsz (F i) ≤ S) (qG : ∀ i, qsz (G i) ≤ S) : RsSt F G (pl F + pl G) S F G 1 1 :=
  ⟨hF, hG, hf, hg, zF, zG, by grind, by decide, Nat.le_refl _, fun i => by have := qF i; rw [Nat.sub_self, Nat.pow_zero]; omega, fun i => by have := qG i; rw [Nat.sub_self, Nat.pow_zero]; omega,
    by have : sz (1 : Int).natAbs ≤ 1 := by decide
       omega, by have : sz (1 : Int).natAbs ≤ 1 := by decide
                 omega⟩
/-- A number with the sign of an index. -/
def sgz (k : Nat) (x : Int) : Int := if k % 2 = 1 then -x else x
theorem sgz_q (k : Nat) (x : Int) : ((sgz k x : Int) : Rat) = sg k * (x : Rat) := by
  unfold sgz sg
  rcases Nat.mod_two_eq_zero_or_one k with h | h
  · rw [if_neg (by omega), if_pos h]; grind
  · rw [if_pos h, if_neg (by omega), Rat.intCast_neg]; grind
theorem sgz_abs (k : Nat) (x : Int) : (sgz k x).natAbs = x.natAbs := by unfold sgz; split <;> simp
theorem RsSt.swap {F0 G0 F G : Nat → Rat} {D S : Nat} {x y : Int} (h : RsSt F0 G0 D S F G x y) : RsSt F0 G0 D S G F (sgz ((pl F - 1) * (pl G - 1)) x) y :=
  ⟨h.fG, h.fF, h.nG, h.nF, h.zG, h.zF, by rw [h.eq, res_swap h.fF h.fG h.nF h.nG, sgz_q]; grind, h.ny, by have := h.len; omega, by rw [Nat.add_comm (pl G)]; exact h.qG, by rw [Nat.add_comm (pl G)]; exact h.qF,
    by rw [sgz_abs, Nat.add_comm (pl G)]; exact h.sx, by rw [Nat.add_comm (pl G)]; exact h.sy⟩
theorem two_le_pow (d : Nat) : d + 1 ≤ 2 ^ d := by
  induction d with
  | zero => decide
  | succ d ih => rw [Nat.pow_succ]; omega
/-- The bounds of a round. -/
theorem RsSt.room {F0 G0 F G : Nat → Rat} {D S : Nat} {x y : Int} (h : RsSt F0 G0 D S F G x y) (hl : pl G ≤ pl F) {R : Nat → Rat} (hR : R = psR F G (pl F + 1 - pl G)) :
    (∀ i, qsz (F i) ≤ (S + 1) * 2 ^ D) ∧ (∀ i, qsz (G i) ≤ (S + 1) * 2 ^ D) ∧ (∀ i, qsz (R i) + 1 ≤ (S + 1) * 2 ^ (D - (pl F + pl G) + (pl F + 1 - pl G))) := by
  have up : ∀ a : Nat, a ≤ D → (S + 1) * 2 ^ a ≤ (S + 1) * 2 ^ D := fun a ha => Nat.mul_le_mul_left _ (Nat.pow_le_pow_right (by decide) ha)
  have h1 := up (D - (pl F + pl G)) (by omega)
  refine ⟨fun i => by have := h.qF i; omega, fun i => by have := h.qG i; omega, fun i => ?_⟩
  obtain ⟨M, hM⟩ : ∃ M, M = (S + 1) * 2 ^ (D - (pl F + pl G)) := ⟨_, rfl⟩
  have hp : 0 < M := by rw [hM]; exact Nat.mul_pos (by omega) (Nat.pow_pos (by decide))
  have h2 := psR_qsz (s := M - 1) (t := M - 1) h.zF h.zG (fun i => by have := h.qF i; omega) (fun i => by have := h.qG i; omega) (pl F + 1 - pl G) i
  rw [← hR] at h2
  rw [Nat.pow_add, ← Nat.mul_assoc, ← hM]
  have h3 := two_le_pow (pl F + 1 - pl G)
  have h4 : M * (pl F + 1 - pl G + 1) ≤ M * 2 ^ (pl F + 1 - pl G) := Nat.mul_le_mul_left _ h3
  rw [Nat.mul_succ, Nat.mul_comm M] at h4
  rw [show M - 1 + 1 = M from by omega] at h2
  omega
theorem RsSt.step {F0 G0 F G : Nat → Rat} {D S : Nat} {x y : Int} (h : RsSt F0 G0 D S F G x y) (h1 : 1 < pl G) (hl : pl G ≤ pl F) {R : Nat → Rat} (hR : R = psR F G (pl F + 1 - pl G)) (h0 : R ≠ pz) :
    RsSt F0 G0 D S G (pp R) (sgz ((pl F - 1) * (pl G - 1)) x * pcn R ^ (pl G - 1) * (ld G).num ^ (pl F - 1 - (pl R - 1))) (y * (ld G).num ^ ((pl F + 1 - pl G) * (pl G - 1))) := by
  have hRz : ZI R := hR ▸ psR_zi h.zF h.zG _
  have hRs : Sup (pl G - 1) R := by rw [hR]; exact (psR_sup h.fF h.fG h.nG _ (Nat.le_refl _)).mono (by omega)
  have hRf : Fin_ R := ⟨_, hRs⟩
  have hrl := pl_le hRs
  have hrp := pl_pos hRf h0
  have hPl := pp_pl hRz hRf
  have hld : ld G = ((ld G).num : Rat) := h.zG.num _
  have hldn : (ld G).num ≠ 0 := fun e => ld_ne h.fG h.nG (by rw [hld, e]; rfl)
  obtain ⟨b1, b2, b3⟩ := h.room hl hR
  have hlen := h.len
  obtain ⟨M, hM⟩ : ∃ M, M = (S + 1) * 2 ^ D := ⟨_, rfl⟩
  have hup : ∀ a : Nat, a ≤ D → (S + 1) * 2 ^ a ≤ M := fun a ha => by rw [hM]; exact Nat.mul_le_mul_left _ (Nat.pow_le_pow_right (by decide) ha)
  have hRq : ∀ i, qsz (R i) ≤ M := fun i => by
    have a := b3 i; have b := hup (D - (pl F + pl G) + (pl F + 1 - pl G)) (by omega); omega
  have hmono : ∀ a b : Nat, a ≤ b → (S + 1) * 2 ^ a ≤ (S + 1) * 2 ^ b := fun a b hab => Nat.mul_le_mul_left _ (Nat.pow_le_pow_right (by decide) hab)
  have hsld : sz (ld G).num.natAbs ≤ M := by
    have a := qsz_nm (G (pl G - 1)); have b := b2 (pl G - 1); show sz (G (pl G - 1)).num.natAbs ≤ M; omega
  have hspc : sz (pcn R).natAbs ≤ M := by rw [pcn_abs]; exact cn_sz hRq _
  obtain ⟨d, hd⟩ : ∃ d, d = pl F - pl R := ⟨_, rfl⟩
  have hD : D - (pl G + pl R) = D - (pl F + pl G) + d := by omega
  refine ⟨h.fG, pp_fin hRf, h.nG, pp_ne hRz hRf h0, h.zG, pp_zi hRz hRf, ?_, ?_, by rw [hPl]; omega, fun i => ?_, fun i => ?_, ?_, ?_⟩
  · have e := res_round h.fF h.fG h.nF h.nG hl h.zF h.zG hR h0
    have e2 := h.eq
    rw [Rat.intCast_mul, Rat.intCast_mul, Rat.intCast_mul, ← pow_int, ← pow_int, ← pow_int, ← hld, sgz_q]
    grind
  · exact Int.mul_ne_zero h.ny (Int.pow_ne_zero hldn)
  · rw [hPl, hD]; exact Nat.le_trans (h.qG i) (hmono _ _ (by omega))
  · have a := pp_qsz hRz hRf (s := (S + 1) * 2 ^ (D - (pl F + pl G) + (pl F + 1 - pl G)) - 1) (fun i => by have := b3 i; omega) i
    have b := hmono (D - (pl F + pl G) + (pl F + 1 - pl G)) (D - (pl F + pl G) + d) (by omega)
    have c := qsz_pos (pp R i)
    have p : 0 < (S + 1) * 2 ^ (D - (pl F + pl G) + (pl F + 1 - pl G)) := Nat.mul_pos (by omega) (Nat.pow_pos (by decide))
    rw [hPl, hD]; omega
  · rw [hPl, hD, Nat.add_mul, ← hM, Int.natAbs_mul, Int.natAbs_mul, sgz_abs]
    have a1 := h.sx
    rw [← hM] at a1
    have a2 := sz_mul (x.natAbs * (pcn R ^ (pl G - 1)).natAbs) ((ld G).num ^ (pl F - 1 - (pl R - 1))).natAbs
    have a3 := sz_mul x.natAbs (pcn R ^ (pl G - 1)).natAbs
    have a4 := sz_powz' _ _ hspc (n := pl G - 1) (by omega)
    have a5 := sz_powz' _ _ hsld (n := pl F - 1 - (pl R - 1)) (by omega)
    rw [show pl F - 1 - (pl R - 1) = d from by omega] at a2 a5 ⊢
    have a6 : (pl G - 1) * M + d * M ≤ d * (D * M) := by
      have c1 : (pl G - 1 + d) * M ≤ (d * D) * M := Nat.mul_le_mul_right _ (by
        have c2 : d * (pl G) ≤ d * D := Nat.mul_le_mul_left _ (by omega)
        have c3 : 1 * (pl G - 1) ≤ d * (pl G - 1) := Nat.mul_le_mul_right _ (by omega)
        have c4 : d * (pl G) = d * (pl G - 1) + d := by rw [← Nat.mul_succ]; congr 1; omega
        omega)
      rw [Nat.add_mul, Nat.mul_assoc] at c1; exact c1
    omega
  · rw [hPl, hD, Nat.add_mul, ← hM, Int.natAbs_mul]
    have a1 := h.sy
    rw [← hM] at a1
    have a2 := sz_mul y.natAbs ((ld G).num ^ ((pl F + 1 - pl G) * (pl G - 1))).natAbs
    have a4 := sz_powz' _ _ hsld (n := (pl F + 1 - pl G) * (pl G - 1)) (Nat.mul_pos (by omega) (by omega))
    have a6 : (pl F + 1 - pl G) * (pl G - 1) * M ≤ d * (D * M) := by
      rw [Nat.mul_assoc]
      exact Nat.mul_le_mul (by omega) (Nat.mul_le_mul_right _ (by omega))
    omega
theorem RsSt.end_ {F0 G0 F G : Nat → Rat} {D S : Nat} {x y : Int} (h : RsSt F0 G0 D S F G x y) (h1 : pl G = 1) (hz : ∃ z : Int, res F0 G0 = (z : Rat)) :
    y ∣ x * (G 0).num ^ (pl F - 1) ∧ x * (G 0).num ^ (pl F - 1) / y = (res F0 G0).num := by
  obtain ⟨z, hz⟩ := hz
  have e := h.eq
  rw [res_const h.fF h.fG h.nF h1, h.zG.num 0, pow_int, ← Rat.intCast_mul, hz, ← Rat.intCast_mul] at e
  have e2 := int_cast_inj e
  rw [← e2, hz]
  exact ⟨⟨z, Int.mul_comm _ _⟩, by rw [Int.mul_ediv_cancel _ h.ny]; rfl⟩
end Go.Hp
namespace Go.Hp
theorem take_of_trim {ds : List Nat} {m : Nat} (h : ds.take m = trim ds) (hm : m ≤ ds.length) : (trim ds).length = m := by rw [← h, List.length_take]; omega
end Go.Hp
namespace Go.Proofs.YtfacbpnegkjcgaaDoor
open Go.RowKit Go.Hp
/-- Digits in a block from base on. -/
def DigO (base : Nat) (w : World) (v : Value) (ds : List Nat) : Prop := DigV w v ds ∧ (0 < ds.length → ∀ a n c, v = .slice (some a) n c → base ≤ a.block)
theorem DigO.of_own {w : World} {base e n : Nat} {v : Value} {ds : List Nat} (h : w.ownsRow base e 1 v n (ds.map fun d => Value.int .u32 (d : Nat))) (hd : ∀ d ∈ ds, d < 4294967296) : DigO base w v ds :=
  ⟨DigV.of_own h hd, fun _ a n c e => by
    obtain ⟨_, h | ⟨g, cap, cur, h1, h2, _⟩⟩ := h
    · rw [h.1] at e; cases e
    · rw [h1] at e; cases e; exact h2⟩
theorem append_nothing {P : Program} (w : World) (t ty e : TypeId) (i : TypeInfo) (ht : P.underlying t = some (.slice e)) (hi : P.info? e = some i) (g c : Nat) :
    (Builtin.append_ #[t, t] ty #[.slice (some ⟨g, 0, none⟩) 0 0, .slice none 0 c]).run P w = .ok (.slice (some ⟨g, 0, none⟩) 0 0) w := by
  simp [Builtin.append_, run_underlying ht, sizeOf, typeInfo, hi, Builtin.lenOf, run_firstCells_none, storeCells]
set_option maxHeartbeats 1000000 in
theorem trim_own (v : Value) (ds : List Nat) (w : World) (h : DigV w v ds) (hn : ds.length ≤ 8796093022208) : Calls Tryd.prog 32 #[v] w (Gives w fun r w' => DigO w.heap.size w' r (trim ds)) := by
  obtain ⟨A, c, rfl, hl, hc, hd, hA⟩ := h
  have HA := Lib.hid hA; have HD := Lib.hid hd; clear hA hd
  obtain ⟨i0, hi, hz0, hz1, hz2⟩ := info_parts info_u32
  have HI := Lib.hid (And.intro hi (And.intro hz0 (And.intro hz1 hz2))); clear hi hz0 hz1 hz2
  go_enter Tryd.func32, Tryd.ntmps32
  go_wp2
  go_loop [3] (fun v => ∃ m : Nat, m ≤ ds.length ∧ v = .int .i64 m ∧ ∀ j, m ≤ j → (h : j < ds.length) → ds[j] = 0) (fun v => (intOf v).toNat)
  case atStart => exact ⟨ds.length, Nat.le_refl _, rfl, fun j h1 h2 => by omega⟩
  case round =>
    obtain ⟨m, hm, rfl, hz⟩ := hrel
    have Hz := Lib.hid hz; clear hz
    by_cases hgo : ∃ h : 0 < m, ds[m - 1]'(by omega) = 0
    · obtain ⟨h0, hd0⟩ := hgo
      obtain ⟨m, rfl⟩ : ∃ k, m = k + 1 := ⟨m - 1, by omega⟩
      obtain ⟨a, rfl, hcell⟩ := HA.out (by omega)
      have hcm := hcell m (by omega)
      have hb : (((ds[m]'(by omega) : Nat) : Int) == 0) = true := by simpa using hd0
      clear hcell
      have Hd0 := Lib.hid hd0; clear hd0
      go_wp2
      go_round
      case rel => exact ⟨m, by omega, by go_num, fun j h1 h2 => by
        rcases Nat.eq_or_lt_of_le h1 with e | e
        · subst e; exact Hd0.out
        · exact Hz.out j (by omega) h2⟩
      case measure => simp [intOf] <;> omega
    · have ht := trim_take hm Hz.out (fun h hh e => hgo ⟨hh, e⟩)
      have hlen := take_of_trim ht hm
      have HT := Lib.hid (And.intro ht hlen); clear ht hlen
      have hcase : m = 0 ∨ ∃ k, m = k + 1 ∧ ∃ h : k < ds.length, ds[k] ≠ 0 := by
        rcases Nat.eq_zero_or_pos m with h | h
        · exact .inl h
        · exact .inr ⟨m - 1, by omega, by omega, fun e => hgo ⟨h, e⟩⟩
      clear hgo
      obtain ⟨news, hnw⟩ : ∃ news : List Value, news = (trim ds).map fun d => Value.int .u32 (d : Nat) := ⟨_, rfl⟩
      have fin : ∀ (v' : Value) (w' : World), w'.ownsRow w.heap.size 57 1 v' m news → DigO w.heap.size w' v' (trim ds) := by
        intro v' w' h
        rw [hnw] at h
        exact DigO.of_own h (trim_digs HD.out)
      have Hfin := Lib.hid fin; clear fin
      have hnews : ∀ a, A = some a → ∀ (j : Nat) (u : Value), news[j]? = some u → w.cell? (a.add j) = some u := by
        intro a ha j u hu
        rw [hnw, ← HT.out.1, List.getElem?_map] at hu
        rcases Nat.lt_or_ge j (ds.take m).length with h | h
        · rw [List.getElem?_eq_getElem h] at hu
          have hj : j < ds.length := by have := List.length_take_le' m ds; omega
          obtain ⟨a', ha', hc⟩ := HA.out (by omega)
          rw [ha] at ha'; cases ha'
          rw [hc j hj]; simpa using hu
        · rw [List.getElem?_eq_none h] at hu; cases hu
      have Hn := Lib.hid hnews; clear hnews
      have hone : news.length = m * 1 ∧ ∀ u ∈ news, u.oneCell' = true := by
        rw [hnw]
        refine ⟨by simp [HT.out.2], fun u hu => ?_⟩
        simp at hu; obtain ⟨d, _, rfl⟩ := hu; rfl
      have Ho := Lib.hid hone; clear hone hnw
      rcases hcase with h0 | ⟨k, h0, hk, hd0⟩
      · obtain rfl : m = 0 := h0
        cases A with
        | none =>
          have hds : ds = [] := by
            rcases Nat.eq_zero_or_pos ds.length with h | h
            · exact List.eq_nil_of_length_eq_zero h
            · obtain ⟨a, ha, _⟩ := HA.out h; cases ha
          clear Hfin Hn HT HA Hz HD hl hm hn Ho
          subst hds
          have hap := fun W ty g c' => append_nothing (P := Tryd.prog) W 26 ty 57 i0 Tryd.underlying26 HI.out.1 g c'
          go_wp2
          go_ret
          exact Gives.mk ⟨⟨_, 0, rfl, Nat.le_refl _, by omega, Digs.nil, fun h => absurd h (by simp [trim_nil])⟩, fun h => absurd h (by simp [trim_nil])⟩ ((Ext.refl _).alloc _)
        | some a =>
          clear Hz hm
          go_wp2_with (at_builtin; refine wpList_append_own _ rfl _ _ 26 rfl w.heap.size 57 i0 (.int .u32 0) 1 4 Tryd.underlying26 HI.out.1 HI.out.2.1 HI.out.2.2.1 HI.out.2.2.2 rfl (by decide) _ _ _ rfl (World.ownsRow_made w #[] 0 (Nat.le_refl _) (by simp [maxLen]) rfl) a (0) c news rfl Ho.out.1 ?c1 ?c2 ?c3 ?c4 ?c5 ?_)
          case c1 => intro j u hu; exact ((Ext.refl w).alloc _).cell (Hn.out a rfl j u hu)
          case c2 => exact Ho.out.2
          try (case c3 => simp only [maxLen]; omega)
          try (case c4 => omega)
          try (case c5 => simp)
          intro v' w' hown hg _
          have Hown := Lib.hid hown; clear hown
          go_wp2
          go_ret
          refine Gives.mk (Hfin.out _ _ Hown.out) (((Ext.refl w).alloc _).grown hg ?_)
          intro k hk
          simp [Value.ownBlock] at hk
          omega
      · obtain rfl : m = k + 1 := h0
        obtain ⟨a, rfl, hcell⟩ := HA.out (by omega)
        have hcm := hcell k (by omega)
        have hb : (((ds[k]'(by omega) : Nat) : Int) == 0) = false := by simpa using hd0
        clear hcell hd0 Hz
        go_wp2_with (at_builtin; refine wpList_append_own _ rfl _ _ 26 rfl w.heap.size 57 i0 (.int .u32 0) 1 4 Tryd.underlying26 HI.out.1 HI.out.2.1 HI.out.2.2.1 HI.out.2.2.2 rfl (by decide) _ _ _ rfl (World.ownsRow_made w #[] 0 (Nat.le_refl _) (by simp [maxLen]) rfl) a (k + 1) c news rfl Ho.out.1 ?d1 ?d2 ?d3 ?d4 ?d5 ?_)
        case d1 => intro j u hu; exact ((Ext.refl w).alloc _).cell (Hn.out a rfl j u hu)
        case d2 => exact Ho.out.2
        try (case d3 => simp only [maxLen]; omega)
        try (case d4 => omega)
        try (case d5 => simp)
        intro v' w' hown hg _
        have Hown := Lib.hid hown; clear hown
        go_wp2
        go_ret
        refine Gives.mk (Hfin.out _ _ Hown.out) (((Ext.refl w).alloc _).grown hg ?_)
        intro k hk
        simp [Value.ownBlock] at hk
        omega
theorem trim_ref (v : Value) (ds : List Nat) (w : World) (h : DigV w v ds) (hn : ds.length ≤ 8796093022208) : Calls Tryd.prog 32 #[v] w (Gives w fun r w' => DigV w' r (trim ds)) :=
  Gives.imp (trim_own v ds w h hn) fun _ _ h => h.1
end Go.Proofs.YtfacbpnegkjcgaaDoor
namespace Go.Proofs.YtfacbpnegkjcgaaDoor
open Go.RowKit Go.Hp
theorem trim_num (v : Value) (N l : Nat) (w : World) (h : NumV w v N l) (hl : l ≤ 8796093022208) : Calls Tryd.prog 32 #[v] w (Gives w fun r w' => NatV w' r N) := by
  obtain ⟨ds, h1, rfl, h3⟩ := h
  exact Gives.imp (trim_ref v ds w h1 (by omega)) fun _ _ h => ⟨trim ds, h, trim_nv ds, trim_top ds⟩
set_option maxHeartbeats 1000000 in
theorem norm_r (v : Value) (x : Int) (w : World) (hv : HasZ w v x) : Calls Tryd.prog 38 #[v] w (Gives w fun r w' => IsZ w' r x) := by
  obtain ⟨neg, A, n, c, N, rfl, h1, h2, h3, hN, hx⟩ := hv.form
  have HN := Lib.hid hN; clear hN hv
  have Hx := Lib.hid hx; clear hx
  go_enter Tryd.func38, Tryd.ntmps38
  go_wp2_with fail
  refine Calls.mono (trim_num _ N n _ (HN.out.ext (((Ext.refl w).alloc _).alloc _)) (by omega)) ?_
  rintro e w1 ⟨r, rfl, hr, hx1⟩
  obtain ⟨A', c', rfl, q1, q2⟩ := hr.form
  have hc1 := hx1.cells
  have hf1 := hx1.frozens
  cases neg
  · skip
    have hz := IsZ.mk (neg := false) hr (fun h => by cases h)
    have ez : (if false = true then -(N : Int) else (N : Int)) = x := (by rw [Hx.out])
    rw [ez] at hz
    have Hfin := Lib.hid (fin_z hz hx1.a2 (NoDig.at_ hx1 (g := w.heap.size + 1) (by simp) (by simp [isDig])) (by omega))
    clear hr hz ez
    go_wp2
    refine bodyPost_ret (v := .agg #[.bool false, .slice A' (sz N) c']) (by simp [results, Tryd.results38, go_sem, hc1]) rfl ?_
    exact Hfin.out
  · by_cases h0 : N = 0
    · have hb : decide (0 < sz N) = false := by subst h0; rfl
      have H0 := Lib.hid h0; clear h0
      have hz := IsZ.mk (neg := false) hr (fun h => by cases h)
      have ez : (if false = true then -(N : Int) else (N : Int)) = x := (by rw [Hx.out, H0.out]; simp)
      rw [ez] at hz
      have Hfin := Lib.hid (fin_z hz hx1.a2 (NoDig.at_ hx1 (g := w.heap.size + 1) (by simp) (by simp [isDig])) (by omega))
      clear hr hz ez
      go_wp2
      refine bodyPost_ret (v := .agg #[.bool false, .slice A' (sz N) c']) (by simp [results, Tryd.results38, go_sem, hc1]) rfl ?_
      exact Hfin.out
    · have hb : decide (0 < sz N) = true := by have := sz_pos h0; simpa using this
      have H0 := Lib.hid h0; clear h0
      have hz := IsZ.mk (neg := true) hr (fun _ => H0.out)
      have ez : (if true = true then -(N : Int) else (N : Int)) = x := (by rw [Hx.out])
      rw [ez] at hz
      have Hfin := Lib.hid (fin_z hz hx1.a2 (NoDig.at_ hx1 (g := w.heap.size + 1) (by simp) (by simp [isDig])) (by omega))
      clear hr hz ez
      go_wp2
      refine bodyPost_ret (v := .agg #[.bool true, .slice A' (sz N) c']) (by simp [results, Tryd.results38, go_sem, hc1]) rfl ?_
      exact Hfin.out
theorem signed_r (x : Int) (neg : Bool) (v : Value) (N l : Nat) (w : World) (hx : x = if neg then -(N : Int) else N) (hv : NumV w v N l) (hl : l ≤ 1099511627776) : Calls Tryd.prog 33 #[.bool neg, v] w (Gives w fun r w' => IsZ w' r x) := by
  obtain ⟨ds, h1, hnv, h3⟩ := hv
  have hz : HasZ w (.agg #[.bool neg, v]) x := ⟨neg, ds, ⟨v, rfl, h1⟩, by unfold iv; rw [hnv, hx], by omega⟩
  have Hz := Lib.hid hz; clear hz
  obtain ⟨A, c, rfl, hl', hc, hA⟩ := h1
  clear hx hnv hA
  go_enter Tryd.func33, Tryd.ntmps33
  go_wp2_with fail
  refine Calls.mono (norm_r _ x _ (Hz.out.ext ((Ext.refl w).alloc _))) ?_
  rintro e w1 ⟨r, rfl, hr, hx1⟩
  obtain ⟨b5, A5, n5, c5, rfl⟩ := hr.cells
  have hc1 := hx1.cells
  have hf1 := hx1.frozens
  have Hfin := Lib.hid (fin_z hr hx1.a1 (NoDig.at_ hx1 (g := w.heap.size + 0) (by simp) (by simp [isDig])) (by omega))
  clear hr
  go_wp2
  refine bodyPost_ret (v := .agg #[.bool b5, .slice A5 n5 c5]) (by simp [results, Tryd.results33, go_sem, hc1]) rfl ?_
  exact Hfin.out
theorem sign_r (v : Value) (x : Int) (w : World) (hv : HasZ w v x) : Calls Tryd.prog 14 #[v] w (Gives w fun r _ => r = .int .i64 x.sign) := by
  have HV := Lib.hid hv
  obtain ⟨neg, A, n, c, N, rfl, h1, h2, h3, hN, hx⟩ := hv.form
  clear hN hv hx
  go_enter Tryd.func14, Tryd.ntmps14
  go_wp2_with fail
  refine Calls.mono (norm_r _ x _ (HV.out.ext ((Ext.refl w).alloc _))) ?_
  rintro e w1 ⟨r, rfl, hr, hx1⟩
  obtain ⟨A5, c5, rfl, q1, q2, hr2⟩ := hr.form
  clear hr hr2
  rcases Int.lt_trichotomy x 0 with h | h | h
  · have hb : (((sz x.natAbs : Nat) : Int) == 0) = false := by have := sz_pos (n := x.natAbs) (by omega); simp; omega
    have hb2 : decide (x < 0) = true := by simpa using h
    have Hs := Lib.hid (Int.sign_eq_neg_one_of_neg h); clear h
    go_wp2
    go_ret
    exact Gives.mk (by rw [Hs.out]; rfl) (hx1.a1.alloc _)
  · have hb : (((sz x.natAbs : Nat) : Int) == 0) = true := by subst h; rfl
    have Hs := Lib.hid (show x.sign = 0 by rw [h]; rfl); clear h
    go_wp2
    go_ret
    exact Gives.mk (by rw [Hs.out]; rfl) (hx1.a1.alloc _)
  · have hb : (((sz x.natAbs : Nat) : Int) == 0) = false := by have := sz_pos (n := x.natAbs) (by omega); simp; omega
    have hb2 : decide (x < 0) = false := by simp; omega
    have Hs := Lib.hid (Int.sign_eq_one_of_pos h); clear h
    go_wp2
    go_ret
    exact Gives.mk (by rw [Hs.out]; rfl) (hx1.a1.alloc _)
theorem neg_r (v : Value) (x : Int) (w : World) (hv : HasZ w v x) : Calls Tryd.prog 12 #[v] w (Gives w fun r w' => IsZ w' r (-x)) := by
  obtain ⟨neg, A, n, c, N, rfl, h1, h2, h3, hN, hx⟩ := hv.form
  have HN := Lib.hid hN; clear hN hv
  have Hx := Lib.hid (show -x = if (!neg) = true then -(N : Int) else N by rw [hx]; cases neg <;> simp); clear hx
  go_enter Tryd.func12, Tryd.ntmps12
  go_wp2_with fail
  refine Calls.mono (signed_r (-x) (!neg) _ N n _ Hx.out (HN.out.ext (((Ext.refl w).alloc _).alloc _)) h3) ?_
  rintro e w1 ⟨r, rfl, hr, hx1⟩
  obtain ⟨b5, A5, n5, c5, rfl⟩ := hr.cells
  have hc1 := hx1.cells
  have hf1 := hx1.frozens
  have Hfin := Lib.hid (fin_z hr hx1.a2 (NoDig.at_ hx1 (g := w.heap.size + 1) (by simp) (by simp [isDig])) (by omega))
  clear hr
  go_wp2
  refine bodyPost_ret (v := .agg #[.bool b5, .slice A5 n5 c5]) (by simp [results, Tryd.results12, go_sem, hc1]) rfl ?_
  exact Hfin.out
end Go.Proofs.YtfacbpnegkjcgaaDoor
namespace Go.Hp
open Go.RowKit
/-- The form of a normal integer, with its digits. -/
theorem IsZ.digs {w : World} {v : Value} {x : Int} (h : IsZ w v x) : ∃ A c ds, v = .agg #[.bool (decide (x < 0)), .slice A (sz x.natAbs) c] ∧ DigAt w A ds ∧ ds.length = sz x.natAbs ∧ nv ds = x.natAbs ∧ Digs ds ∧ sz x.natAbs ≤ c ∧ c ≤ 9223372036854775807 := by
  obtain ⟨A, c, e, h1, h2, hN⟩ := h.form
  obtain ⟨ds, hD, hn, ht, hl⟩ := hN.len
  obtain ⟨A', c', he, q1, q2, q3⟩ := hD
  simp only [Value.slice.injEq] at he
  obtain ⟨rfl, _, _⟩ := he
  exact ⟨A, c, ds, e, q3, hl, hn, q3.1, h1, h2⟩
theorem same_abs {x y : Int} (h : x.natAbs = y.natAbs) (hs : decide (x < 0) = decide (y < 0)) : x = y := by
  by_cases hx : x < 0 <;> by_cases hy : y < 0 <;> simp [hx, hy] at hs <;> omega
theorem digs_eq {ds es : List Nat} (hl : ds.length = es.length) (h : ∀ j, j < ds.length → dg ds j = dg es j) : ds = es := by
  apply List.ext_getElem hl
  intro i h1 h2
  have := h i h1
  rwa [dg_lt h1, dg_lt h2] at this
end Go.Hp
namespace Go.Proofs.YtfacbpnegkjcgaaDoor
open Go.RowKit Go.Hp
set_option maxHeartbeats 1000000 in
theorem sameint_b (v u : Value) (x y : Int) (w : World) (hv : IsZ w v x) (hu : IsZ w u y) : Calls Tryd.prog 8 #[v, u] w (Gives w fun r _ => r = .bool (decide (x = y))) := by
  obtain ⟨A, c, ds, rfl, hA, hl, hn, hd, hc, hm⟩ := hv.digs
  obtain ⟨E, d, es, rfl, hE, kl, kn, he, kc, km⟩ := hu.digs
  have HA := Lib.hid hA; have HE := Lib.hid hE
  have HL := Lib.hid (And.intro hl (And.intro hn (And.intro kl (And.intro kn (And.intro hd he)))))
  clear hA hE hl hn kl kn hd he hv hu
  obtain ⟨sx, hsx⟩ : ∃ sx, sx = decide (x < 0) := ⟨_, rfl⟩
  obtain ⟨sy, hsy⟩ : ∃ sy, sy = decide (y < 0) := ⟨_, rfl⟩
  rw [← hsx, ← hsy]
  have Hs := Lib.hid (And.intro hsx hsy); clear hsx hsy
  obtain ⟨bx, hbx⟩ : ∃ bx, bx = decide (x = y) := ⟨_, rfl⟩
  rw [← hbx]
  have Hb := Lib.hid hbx; clear hbx
  by_cases hs : sx = sy
  · obtain rfl : sx = sy := hs
    by_cases hsz : sz x.natAbs = sz y.natAbs
    · have Hz := Lib.hid hsz
      generalize hny : sz y.natAbs = ny at *
      subst hsz
      generalize hnx : sz x.natAbs = nx at *
      have Hnn := Lib.hid (And.intro hnx hny); clear hnx hny
      go_enter Tryd.func8, Tryd.ntmps8
      go_wp2
      go_loopw [5] (fun iv wr => ∃ k : Nat, k ≤ nx ∧ iv = .int .i64 k ∧ (∀ j, j < k → dg ds j = dg es j) ∧ Ext ((w.alloc (.cells #[.bool sx, .slice A nx c] 28)).alloc (.cells #[.bool sx, .slice E nx d] 28)) wr) (fun iv _ => nx - (intOf iv).toNat)
      case atStart => exact ⟨0, Nat.zero_le _, rfl, fun j h => by omega, Ext.refl _⟩
      case round =>
        obtain ⟨k, hk, rfl, heq, hx⟩ := hrel
        have Heq := Lib.hid heq; clear heq
        have ca0 := hx.a1.box (g := w.heap.size) (i := 0) rfl rfl
        have ca1 := hx.a1.box (g := w.heap.size) (i := 1) rfl rfl
        have cb0 := hx.box (g := w.heap.size + 1) (i := 0) (by simp) rfl
        have cb1 := hx.box (g := w.heap.size + 1) (i := 1) (by simp) rfl
        by_cases hkn : k < nx
        · obtain ⟨a, rfl, q0⟩ := dig_at HA.out (k := k) (by have := HL.out.1; omega)
          obtain ⟨b, rfl, q1⟩ := dig_at HE.out (k := k) (by have := HL.out.2.2.1; omega)
          replace q0 := hx.a2.cell q0
          replace q1 := hx.a2.cell q1
          generalize hxx : dg ds k = p at *
          generalize hyy : dg es k = q at *
          have Hx := Lib.hid hxx; have Hy := Lib.hid hyy; clear hxx hyy
          by_cases hpq : p = q
          · have hb3 : (((p : Nat) : Int) != (q : Nat)) = false := by simp [hpq]
            have Hpq := Lib.hid hpq; clear hpq
            go_wp2_with fail
            refine wp_region_par (k := 10) (D := [27, 28, 29, 30, 31, 32, 33, 34, 35, 36]) (T := [[], [0], [], [0, 1, 2], [0, 1, 2, 3], [], [5], [], [5, 6, 7], [5, 6, 7, 8], [0, 1, 2, 3, 4, 5, 6, 7, 8, 9]]) (EK := [2, 5, 3]) (EV := [?e1x0, ?e1x1, ?e1x2]) (VL := [(kv ?v1x0), (kv ?v1x1), (kv ?v1x2), (kv ?v1x3), (kv ?v1x4), (kv ?v1x5), (kv ?v1x6), (kv ?v1x7), (kv ?v1x8), (kv ?v1x9)]) (FL := fun γ w' => [True, True, True, True, True, True, True, True, True, True]) ?hE1 (by kernel_rfl) (by kernel_rfl) (by rfl) (by kernel_rfl) ?hloc1 ?hmono1 ?hstep1 ?htail1
            case hE1 => refine ⟨?_, ?_, ?_, trivial⟩ <;> (simp only [List.getElem?_toArray, List.getElem?_cons_succ, List.getElem?_cons_zero]; rfl)
            case hstep1 =>
              refine ⟨⟨⟨⟨⟨⟨⟨⟨⟨⟨trivial, ?_⟩, ?_⟩, ?_⟩, ?_⟩, ?_⟩, ?_⟩, ?_⟩, ?_⟩, ?_⟩, ?_⟩
              · intro γ w' he hf; clear hf; refine ⟨trivial, ?_⟩; intro R hR
                have hc := he.cells
                go_simp
                (try go_ints); (try (rw [if_neg (by omega)])); (try (rw [if_pos (by omega)])); (try go_simp); (try go_ints)
                refine hR _ _ (Ext.refl _) ?_ trivial
                rfl
              · intro γ w' he hf; clear hf; refine ⟨trivial, ?_⟩; intro R hR
                have hc := he.cells
                have cq0 := he.cell ca0
                have cq1 := he.cell ca1
                have cq2 := he.cell cb0
                have cq3 := he.cell cb1
                have cq4 := he.cell q0
                have cq5 := he.cell q1
                go_simp
                (try go_ints); (try (rw [if_neg (by omega)])); (try (rw [if_pos (by omega)])); (try go_simp); (try go_ints)
                refine hR _ _ (Ext.refl _) ?_ trivial
                rfl
              · intro γ w' he hf; clear hf; refine ⟨trivial, ?_⟩; intro R hR
                have hc := he.cells
                go_simp
                (try go_ints); (try (rw [if_neg (by omega)])); (try (rw [if_pos (by omega)])); (try go_simp); (try go_ints)
                refine hR _ _ (Ext.refl _) ?_ trivial
                rfl
              · intro γ w' he hf; clear hf; refine ⟨trivial, ?_⟩; intro R hR
                have hc := he.cells
                go_simp
                (try go_ints); (try (rw [if_neg (by omega)])); (try (rw [if_pos (by omega)])); (try go_simp); (try go_ints)
                refine hR _ _ (Ext.refl _) ?_ trivial
                rfl
              · intro γ w' he hf; clear hf; refine ⟨trivial, ?_⟩; intro R hR
                have hc := he.cells
                have cq0 := he.cell ca0
                have cq1 := he.cell ca1
                have cq2 := he.cell cb0
                have cq3 := he.cell cb1
                have cq4 := he.cell q0
                have cq5 := he.cell q1
                go_simp
                (try go_ints); (try (rw [if_neg (by omega)])); (try (rw [if_pos (by omega)])); (try go_simp); (try go_ints)
                refine hR _ _ (Ext.refl _) ?_ trivial
                rfl
              · intro γ w' he hf; clear hf; refine ⟨trivial, ?_⟩; intro R hR
                have hc := he.cells
                go_simp
                (try go_ints); (try (rw [if_neg (by omega)])); (try (rw [if_pos (by omega)])); (try go_simp); (try go_ints)
                refine hR _ _ (Ext.refl _) ?_ trivial
                rfl
              · intro γ w' he hf; clear hf; refine ⟨trivial, ?_⟩; intro R hR
                have hc := he.cells
                have cq0 := he.cell ca0
                have cq1 := he.cell ca1
                have cq2 := he.cell cb0
                have cq3 := he.cell cb1
                have cq4 := he.cell q0
                have cq5 := he.cell q1
                go_simp
                (try go_ints); (try (rw [if_neg (by omega)])); (try (rw [if_pos (by omega)])); (try go_simp); (try go_ints)
                refine hR _ _ (Ext.refl _) ?_ trivial
                rfl
              · intro γ w' he hf; clear hf; refine ⟨trivial, ?_⟩; intro R hR
                have hc := he.cells
                go_simp
                (try go_ints); (try (rw [if_neg (by omega)])); (try (rw [if_pos (by omega)])); (try go_simp); (try go_ints)
                refine hR _ _ (Ext.refl _) ?_ trivial
                rfl
              · intro γ w' he hf; clear hf; refine ⟨trivial, ?_⟩; intro R hR
                have hc := he.cells
                go_simp
                (try go_ints); (try (rw [if_neg (by omega)])); (try (rw [if_pos (by omega)])); (try go_simp); (try go_ints)
                refine hR _ _ (Ext.refl _) ?_ trivial
                rfl
              · intro γ w' he hf; clear hf; refine ⟨trivial, ?_⟩; intro R hR
                have hc := he.cells
                have cq0 := he.cell ca0
                have cq1 := he.cell ca1
                have cq2 := he.cell cb0
                have cq3 := he.cell cb1
                have cq4 := he.cell q0
                have cq5 := he.cell q1
                go_simp
                (try go_ints); (try (rw [if_neg (by omega)])); (try (rw [if_pos (by omega)])); (try go_simp); (try go_ints)
                refine hR _ _ (Ext.refl _) ?_ trivial
                rfl
            case hloc1 =>
              exact ⟨⟨⟨⟨⟨⟨⟨⟨⟨⟨trivial, (fun γ γ' h => ⟨rfl, fun _ => rfl⟩)⟩, (fun γ γ' h => ⟨rfl, fun _ => rfl⟩)⟩, (fun γ γ' h => ⟨rfl, fun _ => rfl⟩)⟩, (fun γ γ' h => ⟨rfl, fun _ => rfl⟩)⟩, (fun γ γ' h => ⟨rfl, fun _ => rfl⟩)⟩, (fun γ γ' h => ⟨rfl, fun _ => rfl⟩)⟩, (fun γ γ' h => ⟨rfl, fun _ => rfl⟩)⟩, (fun γ γ' h => ⟨rfl, fun _ => rfl⟩)⟩, (fun γ γ' h => ⟨rfl, fun _ => rfl⟩)⟩, (fun γ γ' h => ⟨rfl, fun _ => rfl⟩)⟩
            case hmono1 =>
              exact ⟨⟨⟨⟨⟨⟨⟨⟨⟨⟨trivial, (fun γ wA w' e h => h)⟩, (fun γ wA w' e h => h)⟩, (fun γ wA w' e h => h)⟩, (fun γ wA w' e h => h)⟩, (fun γ wA w' e h => h)⟩, (fun γ wA w' e h => h)⟩, (fun γ wA w' e h => h)⟩, (fun γ wA w' e h => h)⟩, (fun γ wA w' e h => h)⟩, (fun γ wA w' e h => h)⟩
            intro γ w1 hx1 hF
            clear hF
            simp only [fillAll, gV, kv, List.getD_cons_zero, List.getD_cons_succ, Act.put, List.setIfInBounds_toArray, List.set_cons_zero, List.set_cons_succ, List.toList_toArray, List.drop_succ_cons, List.drop_zero, List.drop_nil, Nat.zero_add, Nat.reduceAdd]
            clear γ
            go_wp2
            go_roundw
            case rel => exact ⟨k + 1, by omega, by go_num, fun j h => by
              rcases Nat.eq_or_lt_of_le (Nat.le_of_lt_succ h) with e | e
              · rw [e, Hx.out, Hy.out]; exact Hpq.out
              · exact Heq.out j e, hx.trans hx1⟩
            case measure => simp [intOf]; omega
          · have hb3 : (((p : Nat) : Int) != (q : Nat)) = true := by simp; omega
            have Hpq := Lib.hid hpq; clear hpq
            go_wp2_with fail
            refine wp_region_par (k := 10) (D := [27, 28, 29, 30, 31, 32, 33, 34, 35, 36]) (T := [[], [0], [], [0, 1, 2], [0, 1, 2, 3], [], [5], [], [5, 6, 7], [5, 6, 7, 8], [0, 1, 2, 3, 4, 5, 6, 7, 8, 9]]) (EK := [2, 5, 3]) (EV := [?e2x0, ?e2x1, ?e2x2]) (VL := [(kv ?v2x0), (kv ?v2x1), (kv ?v2x2), (kv ?v2x3), (kv ?v2x4), (kv ?v2x5), (kv ?v2x6), (kv ?v2x7), (kv ?v2x8), (kv ?v2x9)]) (FL := fun γ w' => [True, True, True, True, True, True, True, True, True, True]) ?hE2 (by kernel_rfl) (by kernel_rfl) (by rfl) (by kernel_rfl) ?hloc2 ?hmono2 ?hstep2 ?htail2
            case hE2 => refine ⟨?_, ?_, ?_, trivial⟩ <;> (simp only [List.getElem?_toArray, List.getElem?_cons_succ, List.getElem?_cons_zero]; rfl)
            case hstep2 =>
              refine ⟨⟨⟨⟨⟨⟨⟨⟨⟨⟨trivial, ?_⟩, ?_⟩, ?_⟩, ?_⟩, ?_⟩, ?_⟩, ?_⟩, ?_⟩, ?_⟩, ?_⟩
              · intro γ w' he hf; clear hf; refine ⟨trivial, ?_⟩; intro R hR
                have hc := he.cells
                go_simp
                (try go_ints); (try (rw [if_neg (by omega)])); (try (rw [if_pos (by omega)])); (try go_simp); (try go_ints)
                refine hR _ _ (Ext.refl _) ?_ trivial
                rfl
              · intro γ w' he hf; clear hf; refine ⟨trivial, ?_⟩; intro R hR
                have hc := he.cells
                have cq0 := he.cell ca0
                have cq1 := he.cell ca1
                have cq2 := he.cell cb0
                have cq3 := he.cell cb1
                have cq4 := he.cell q0
                have cq5 := he.cell q1
                go_simp
                (try go_ints); (try (rw [if_neg (by omega)])); (try (rw [if_pos (by omega)])); (try go_simp); (try go_ints)
                refine hR _ _ (Ext.refl _) ?_ trivial
                rfl
              · intro γ w' he hf; clear hf; refine ⟨trivial, ?_⟩; intro R hR
                have hc := he.cells
                go_simp
                (try go_ints); (try (rw [if_neg (by omega)])); (try (rw [if_pos (by omega)])); (try go_simp); (try go_ints)
                refine hR _ _ (Ext.refl _) ?_ trivial
                rfl
              · intro γ w' he hf; clear hf; refine ⟨trivial, ?_⟩; intro R hR
                have hc := he.cells
                go_simp
                (try go_ints); (try (rw [if_neg (by omega)])); (try (rw [if_pos (by omega)])); (try go_simp); (try go_ints)
                refine hR _ _ (Ext.refl _) ?_ trivial
                rfl
              · intro γ w' he hf; clear hf; refine ⟨trivial, ?_⟩; intro R hR
                have hc := he.cells
                have cq0 := he.cell ca0
                have cq1 := he.cell ca1
                have cq2 := he.cell cb0
                have cq3 := he.cell cb1
                have cq4 := he.cell q0
                have cq5 := he.cell q1
                go_simp
                (try go_ints); (try (rw [if_neg (by omega)])); (try (rw [if_pos (by omega)])); (try go_simp); (try go_ints)
                refine hR _ _ (Ext.refl _) ?_ trivial
                rfl
              · intro γ w' he hf; clear hf; refine ⟨trivial, ?_⟩; intro R hR
                have hc := he.cells
                go_simp
                (try go_ints); (try (rw [if_neg (by omega)])); (try (rw [if_pos (by omega)])); (try go_simp); (try go_ints)
                refine hR _ _ (Ext.refl _) ?_ trivial
                rfl
              · intro γ w' he hf; clear hf; refine ⟨trivial, ?_⟩; intro R hR
                have hc := he.cells
                have cq0 := he.cell ca0
                have cq1 := he.cell ca1
                have cq2 := he.cell cb0
                have cq3 := he.cell cb1
                have cq4 := he.cell q0
                have cq5 := he.cell q1
                go_simp
                (try go_ints); (try (rw [if_neg (by omega)])); (try (rw [if_pos (by omega)])); (try go_simp); (try go_ints)
                refine hR _ _ (Ext.refl _) ?_ trivial
                rfl
              · intro γ w' he hf; clear hf; refine ⟨trivial, ?_⟩; intro R hR
                have hc := he.cells
                go_simp
                (try go_ints); (try (rw [if_neg (by omega)])); (try (rw [if_pos (by omega)])); (try go_simp); (try go_ints)
                refine hR _ _ (Ext.refl _) ?_ trivial
                rfl
              · intro γ w' he hf; clear hf; refine ⟨trivial, ?_⟩; intro R hR
                have hc := he.cells
                go_simp
                (try go_ints); (try (rw [if_neg (by omega)])); (try (rw [if_pos (by omega)])); (try go_simp); (try go_ints)
                refine hR _ _ (Ext.refl _) ?_ trivial
                rfl
              · intro γ w' he hf; clear hf; refine ⟨trivial, ?_⟩; intro R hR
                have hc := he.cells
                have cq0 := he.cell ca0
                have cq1 := he.cell ca1
                have cq2 := he.cell cb0
                have cq3 := he.cell cb1
                have cq4 := he.cell q0
                have cq5 := he.cell q1
                go_simp
                (try go_ints); (try (rw [if_neg (by omega)])); (try (rw [if_pos (by omega)])); (try go_simp); (try go_ints)
                refine hR _ _ (Ext.refl _) ?_ trivial
                rfl
            case hloc2 =>
              exact ⟨⟨⟨⟨⟨⟨⟨⟨⟨⟨trivial, (fun γ γ' h => ⟨rfl, fun _ => rfl⟩)⟩, (fun γ γ' h => ⟨rfl, fun _ => rfl⟩)⟩, (fun γ γ' h => ⟨rfl, fun _ => rfl⟩)⟩, (fun γ γ' h => ⟨rfl, fun _ => rfl⟩)⟩, (fun γ γ' h => ⟨rfl, fun _ => rfl⟩)⟩, (fun γ γ' h => ⟨rfl, fun _ => rfl⟩)⟩, (fun γ γ' h => ⟨rfl, fun _ => rfl⟩)⟩, (fun γ γ' h => ⟨rfl, fun _ => rfl⟩)⟩, (fun γ γ' h => ⟨rfl, fun _ => rfl⟩)⟩, (fun γ γ' h => ⟨rfl, fun _ => rfl⟩)⟩
            case hmono2 =>
              exact ⟨⟨⟨⟨⟨⟨⟨⟨⟨⟨trivial, (fun γ wA w' e h => h)⟩, (fun γ wA w' e h => h)⟩, (fun γ wA w' e h => h)⟩, (fun γ wA w' e h => h)⟩, (fun γ wA w' e h => h)⟩, (fun γ wA w' e h => h)⟩, (fun γ wA w' e h => h)⟩, (fun γ wA w' e h => h)⟩, (fun γ wA w' e h => h)⟩, (fun γ wA w' e h => h)⟩
            intro γ w1 hx1 hF
            clear hF
            simp only [fillAll, gV, kv, List.getD_cons_zero, List.getD_cons_succ, Act.put, List.setIfInBounds_toArray, List.set_cons_zero, List.set_cons_succ, List.toList_toArray, List.drop_succ_cons, List.drop_zero, List.drop_nil, Nat.zero_add, Nat.reduceAdd]
            clear γ
            go_wp2
            go_ret
            refine Gives.mk ?_ (hx.a2.trans hx1)
            rw [Hb.out]
            have : ¬ x = y := by
              rintro rfl
              have e : ds = es := digs_inj HL.out.2.2.2.2.1 HL.out.2.2.2.2.2 (by have := HL.out.1; have := HL.out.2.2.1; have := Hz.out; omega) (by rw [HL.out.2.1, HL.out.2.2.2.1])
              exact Hpq.out (by rw [← Hx.out, ← Hy.out, e])
            simp [this]
        · obtain rfl : k = nx := by omega
          have hdone : x = y := by
            have e := digs_eq (ds := ds) (es := es) (by have := HL.out.1; have := HL.out.2.2.1; have := Hz.out; omega) (fun j hj => Heq.out j (by have := HL.out.1; omega))
            exact same_abs (by rw [← HL.out.2.1, ← HL.out.2.2.2.1, e]) (Hs.out.1 ▸ Hs.out.2)
          have Hd := Lib.hid hdone; clear hdone
          go_wp2
          go_ret
          exact Gives.mk (by rw [Hb.out, decide_eq_true Hd.out]; rfl) hx.a2
    · have hb2 : (((sz x.natAbs : Nat) : Int) != (sz y.natAbs : Nat)) = true := by simp; omega
      have hne : bx = false := by rw [Hb.out]; simp; rintro rfl; exact hsz rfl
      subst hne
      clear hsz
      go_enter Tryd.func8, Tryd.ntmps8
      go_wp2
      go_ret
      exact Gives.mk rfl (((Ext.refl w).alloc _).alloc _)
  · have hne : bx = false := by rw [Hb.out]; simp; rintro rfl; exact hs (Hs.out.1.trans Hs.out.2.symm)
    subst hne
    obtain rfl : sy = !sx := by cases sx <;> cases sy <;> simp_all
    clear hs
    cases sx
    all_goals
      go_enter Tryd.func8, Tryd.ntmps8
      go_wp2
      go_ret
      exact Gives.mk rfl (((Ext.refl w).alloc _).alloc _)
end Go.Proofs.YtfacbpnegkjcgaaDoor
namespace Go.Proofs.YtfacbpnegkjcgaaDoor
open Go.RowKit Go.Hp
/-- A row of digits of the call's own. -/
def OwnD (base : Nat) (w : World) (v : Value) (ds : List Nat) : Prop := w.ownsRow base 57 1 v ds.length (ds.map fun d => Value.int .u32 (d : Nat))
theorem OwnD.nil (base : Nat) (w : World) : OwnD base w (.slice none 0 0) [] := World.ownsRow_nil w base _ 1
theorem OwnD.digv {base : Nat} {w : World} {v : Value} {ds : List Nat} (h : OwnD base w v ds) (hd : Digs ds) : DigV w v ds := DigV.of_own h hd
theorem OwnD.from_ {base : Nat} {a w w' : World} {v : Value} {ds : List Nat} (h : OwnD base w v ds) (hg : w.grownBy w' v.ownBlock) (x : Ext a w) (hb : a.heap.size ≤ base) : Ext a w' :=
  x.grown hg fun k hk => Nat.le_trans hb (World.ownsRow.lt h k hk).1
theorem OwnD.alloc {base : Nat} {w : World} {v : Value} {ds : List Nat} (h : OwnD base w v ds) (o : Obj) : OwnD base (w.alloc o) v ds := World.ownsRow.alloc h o
theorem append_d (W : World) (base ty : Nat) (v : Value) (ds : List Nat) (d g : Nat) (z : Int) (h : OwnD base W v ds) (hz : z = (d : Nat)) (hn : ds.length ≤ 8796093022208) (hb : base ≤ W.heap.size) (hg : g = W.heap.size) :
    ∃ v' w', (Builtin.append_ #[26, 26] ty #[v, .slice (some ⟨g, 0, none⟩) 1 1]).run Tryd.prog (W.alloc (.cells #[.int .u32 z] 57)) = .ok v' w' ∧ (OwnD base w' v' (ds ++ [d]) ∧ (W.alloc (.cells #[.int .u32 z] 57)).grownBy w' v.ownBlock) := by
  subst hz hg
  obtain ⟨i0, hi, hz0, hz1, hz2⟩ := info_parts info_u32
  obtain ⟨v', w', a, b, c, _⟩ := run_append_own (P := Tryd.prog) (W.alloc (.cells #[.int .u32 (d : Nat)] 57)) base 26 ty 57 i0 (.int .u32 0) 1 4 Tryd.underlying26 hi hz0 hz1 hz2 rfl (by decide) v ds.length _ (h.alloc _) ⟨W.heap.size, 0, none⟩ 1 1 [.int .u32 (d : Nat)] rfl (news_new W _ _) (by intro u hu; simp at hu; subst hu; rfl) (by simp only [maxLen]; omega) (by omega) (by simp; omega)
  refine ⟨v', w', a, ?_, c⟩
  unfold OwnD
  rw [List.length_append, List.map_append]
  exact b
end Go.Proofs.YtfacbpnegkjcgaaDoor
namespace Go.Hp
end Go.Hp
namespace Go.Proofs.YtfacbpnegkjcgaaDoor
open Go.RowKit Go.Hp
end Go.Proofs.YtfacbpnegkjcgaaDoor
namespace Go.Hp
open Go.RowKit
end Go.Hp
namespace Go.Proofs.YtfacbpnegkjcgaaDoor
open Go.RowKit Go.Hp
end Go.Proofs.YtfacbpnegkjcgaaDoor
namespace Go.Proofs.YtfacbpnegkjcgaaDoor
open Go.RowKit Go.Hp
set_option maxHeartbeats 2000000 in
theorem mul_r (v u : Value) (x y : Int) (w : World) (hv : HasZ w v x) (hu : HasZ w u y) (sx : sz x.natAbs ≤ 549755813888) (sy : sz y.natAbs ≤ 549755813888) : Calls Tryd.prog 10 #[v, u] w (Gives w fun r w' => IsZ w' r (x * y)) := by
  obtain ⟨neg, A, n, c, N, rfl, h1, h2, h3, hN, hx⟩ := hv.form
  obtain ⟨neg', A', n', c', M, rfl, k1, k2, k3, kN, hy⟩ := hu.form
  have HN := Lib.hid hN; have HM := Lib.hid kN; clear hN hv hu kN
  have sN : sz N ≤ 549755813888 := by rw [hx] at sx; cases neg <;> simpa using sx
  have sM : sz M ≤ 549755813888 := by rw [hy] at sy; cases neg' <;> simpa using sy
  have Hz := Lib.hid (show x * y = if (neg != neg') = true then -((N * M : Nat) : Int) else ((N * M : Nat) : Int) by rw [hx, hy]; cases neg <;> cases neg' <;> simp [Int.neg_mul, Int.mul_neg])
  clear hx hy sx sy
  go_enter Tryd.func10, Tryd.ntmps10
  go_wp2_with fail
  refine wp_region_par (k := 5) (D := [12, 13, 14, 15, 16]) (T := [[], [0], [0, 1], [], [3], [0, 1, 2, 3, 4], [0, 1, 2, 3, 4, 5], [0, 1, 2, 3, 4, 5, 6]]) (EK := [2, 3]) (EV := [?e1x0, ?e1x1]) (VL := [(kv ?v1x0), (kv ?v1x1), (fun γ => γ 2), (kv ?v1x3), (kv ?v1x4)]) (FL := fun γ w' => [True, True, NatV w' (γ 2) N, True, True]) ?hE1 (by kernel_rfl) (by kernel_rfl) (by rfl) (by kernel_rfl) ?hloc1 ?hmono1 ?hstep1 ?htail1
  case hE1 => refine ⟨?_, ?_, trivial⟩ <;> (simp only [List.getElem?_toArray, List.getElem?_cons_succ, List.getElem?_cons_zero]; rfl)
  case hstep1 =>
    refine ⟨⟨⟨⟨⟨trivial, ?_⟩, ?_⟩, ?_⟩, ?_⟩, ?_⟩
    · intro γ w' he hf; clear hf; refine ⟨trivial, ?_⟩; intro R hR
      have hc := he.cells
      go_simp
      (try go_ints); (try (rw [if_neg (by omega)])); (try (rw [if_pos (by omega)])); (try go_simp); (try go_ints)
      refine hR _ _ (Ext.refl _) ?_ trivial
      rfl
    · intro γ w' he hf; clear hf; refine ⟨trivial, ?_⟩; intro R hR
      have hc := he.cells
      go_simp
      (try go_ints); (try (rw [if_neg (by omega)])); (try (rw [if_pos (by omega)])); (try go_simp); (try go_ints)
      refine hR _ _ (Ext.refl _) ?_ trivial
      rfl
    · intro γ w' he hf; clear hf; refine ⟨trivial, ?_⟩; intro R hR
      go_simp
      refine Calls.mono (show Calls _ _ _ w' (Gives w' fun r w'' => NatV w'' (r) N) from trim_num _ N n w' (HN.out.ext he.a3) (by omega)) ?_
      rintro e w2 ⟨v, rfl, hv, hx⟩
      exact ⟨v, rfl, hR v w2 hx rfl hv⟩
    · intro γ w' he hf; clear hf; refine ⟨trivial, ?_⟩; intro R hR
      have hc := he.cells
      go_simp
      (try go_ints); (try (rw [if_neg (by omega)])); (try (rw [if_pos (by omega)])); (try go_simp); (try go_ints)
      refine hR _ _ (Ext.refl _) ?_ trivial
      rfl
    · intro γ w' he hf; clear hf; refine ⟨trivial, ?_⟩; intro R hR
      have hc := he.cells
      go_simp
      (try go_ints); (try (rw [if_neg (by omega)])); (try (rw [if_pos (by omega)])); (try go_simp); (try go_ints)
      refine hR _ _ (Ext.refl _) ?_ trivial
      rfl
  case hloc1 =>
    exact ⟨⟨⟨⟨⟨trivial, (fun γ γ' h => ⟨rfl, fun _ => rfl⟩)⟩, (fun γ γ' h => ⟨rfl, fun _ => rfl⟩)⟩, (fun γ γ' h => ⟨h 2 rfl, fun w' => (congrArg (fun a => NatV w' (a) N) (h 2 rfl))⟩)⟩, (fun γ γ' h => ⟨rfl, fun _ => rfl⟩)⟩, (fun γ γ' h => ⟨rfl, fun _ => rfl⟩)⟩
  case hmono1 =>
    exact ⟨⟨⟨⟨⟨trivial, (fun γ wA w' e h => h)⟩, (fun γ wA w' e h => h)⟩, (fun γ wA w' e h => (show NatV wA (γ 2) N from h).ext e)⟩, (fun γ wA w' e h => h)⟩, (fun γ wA w' e h => h)⟩
  intro γ w1 hx1 hF
  have p2 : NatV w1 (γ 2) N := Each.get hF 2 (by decide)
  clear hF
  simp only [fillAll, gV, kv, List.getD_cons_zero, List.getD_cons_succ, Act.put, List.setIfInBounds_toArray, List.set_cons_zero, List.set_cons_succ, List.toList_toArray, List.drop_succ_cons, List.drop_zero, List.drop_nil, Nat.zero_add, Nat.reduceAdd]
  generalize γ 2 = g2 at *
  clear γ
  go_wp2_with fail
  refine Calls.mono (trim_num _ M n' _ (HM.out.ext hx1.a3) (by omega)) ?_
  rintro e w2 ⟨r, rfl, p5, hx2⟩
  replace p2 := p2.ext hx2
  replace hx1 := hx1.trans hx2
  clear hx2
  obtain ⟨ds, hd, hnv, -, hl⟩ := p2.len
  obtain ⟨es, he, hnv', -, hl'⟩ := p5.len
  clear p2 p5
  obtain ⟨E, r1, rfl, hdl, hdc, hE⟩ := hd
  obtain ⟨F, r2, rfl, hel, hec, hF⟩ := he
  have hdn : ds.length ≤ 549755813888 := by omega
  have hen : es.length ≤ 549755813888 := by omega
  rw [← hnv, ← hnv'] at Hz
  clear hnv hnv' hl hl' sN sM HN HM h1 h2 h3 k1 k2 k3
  have hmk := fun W => make_u32 (ds.length + es.length) ((ds.length : Int) + es.length) (by omega) (by omega) W
  go_wp2
  go_loopw [8] (fun iv wr => ∃ (i : Nat) (l : List Nat), i ≤ ds.length ∧ iv = .int .i64 i ∧ l.length = ds.length + es.length ∧ DBlk wr w2.heap.size 57 l ∧ Digs l ∧ (∀ q, i + es.length ≤ q → dg l q = 0) ∧ nv l = nv (ds.take i) * nv es ∧ Ext w2 wr) (fun iv _ => ds.length - (intOf iv).toNat)
  case atStart => exact ⟨0, _, Nat.zero_le _, rfl, List.length_replicate, DBlk.new _ _ _, Digs.zeros _, fun q _ => by unfold dg; rw [List.getD_eq_getElem?_getD, List.getElem?_replicate]; split <;> rfl, by rw [nv_zeros]; simp [nv_nil], (Ext.refl w2).alloc _⟩
  case round =>
    obtain ⟨i, l, hi, rfl, hll, hblk, hdl, hz, hval, hx⟩ := hrel
    have Hll := Lib.hid hll; clear hll
    have Hval := Lib.hid hval; clear hval
    have Hz' := Lib.hid hz; clear hz
    by_cases hil : i < ds.length
    · obtain ⟨a, rfl, hca⟩ := dig_at hE hil
      have x1 := dg_bound hE.1 i
      generalize hxx : dg ds i = x at *
      have Hx := Lib.hid hxx; clear hxx
      go_wp2
      obtain ⟨wo, rfl⟩ : ∃ wo : World, wo = wr := ⟨_, rfl⟩
      go_loopw [9, 10] (fun cv jv wr => ∃ (j c0 : Nat) (m : List Nat), j ≤ es.length ∧ jv = .int .i64 j ∧ cv = .int .u64 c0 ∧ c0 < 4294967296 ∧ m.length = ds.length + es.length ∧ DBlk wr w2.heap.size 57 m ∧ Digs m ∧ (∀ q, i + es.length ≤ q → dg m q = 0) ∧ nv m + c0 * (bp i * bp j) = nv l + x * bp i * nv (es.take j) ∧ Ext w2 wr) (fun _ jv _ => es.length - (intOf jv).toNat)
      case atStart => exact ⟨0, 0, l, Nat.zero_le _, rfl, rfl, by omega, Hll.out, hblk, hdl, Hz'.out, by simp [nv_nil], hx⟩
      case round =>
        obtain ⟨j, c0, m, hj, rfl, rfl, hc0, hml, hbm, hdm, hzm, hvm, hxm⟩ := hrel
        have Hml := Lib.hid hml; clear hml
        have Hvm := Lib.hid hvm; clear hvm
        have Hzm := Lib.hid hzm; clear hzm
        by_cases hje : j < es.length
        · obtain ⟨b, rfl, hcb⟩ := dig_at hF hje
          replace hcb := hxm.cell hcb
          have hcar := hxm.cell hca
          have y1 := dg_bound hF.1 j
          generalize hyy : dg es j = y at *
          have Hy := Lib.hid hyy; clear hyy
          have hmc := hbm.celld (i := i + j) (by have := Hml.out; omega)
          have z1 := dg_bound hdm (i + j)
          have hfz := hbm.frozen (i + j)
          generalize hzz : dg m (i + j) = z at *
          have Hzz := Lib.hid hzz; clear hzz
          have hxy : x * y ≤ 4294967295 * 4294967295 := Nat.mul_le_mul (by omega) (by omega)
          have hxy2 : x * y ≤ 18446744065119617025 := hxy
          clear hxy
          have k1 : (0 : Int) ≤ (x : Int) * y := by rw [← Int.natCast_mul]; omega
          have k2 : (x : Int) * y ≤ 18446744065119617025 := by rw [← Int.natCast_mul]; omega
          have Hxy := Lib.hid hxy2; clear hxy2
          go_wp2
          refine wp_region_par (k := 20) (D := [36, 37, 38, 39, 40, 41, 42, 43, 44, 45, 46, 47, 48, 49, 50, 51, 52, 53, 54, 55]) (T := [[], [], [0, 1], [0, 1, 2], [0, 1, 2, 3], [], [], [5, 6], [5, 6, 7], [5, 6, 7, 8], [0, 1, 2, 3, 4, 5, 6, 7, 8, 9], [], [], [], [12, 13], [11, 12, 13, 14], [11, 12, 13, 14, 15], [11, 12, 13, 14, 15, 16], [0, 1, 2, 3, 4, 5, 6, 7, 8, 9, 10, 11, 12, 13, 14, 15, 16, 17], [], [0, 1, 2, 3, 4, 5, 6, 7, 8, 9, 10, 11, 12, 13, 14, 15, 16, 17, 18, 19], [0, 1, 2, 3, 4, 5, 6, 7, 8, 9, 10, 11, 12, 13, 14, 15, 16, 17, 18, 19, 20]]) (EK := [5, 8, 6, 10, 7, 9]) (EV := [?e2x0, ?e2x1, ?e2x2, ?e2x3, ?e2x4, ?e2x5]) (VL := [(kv ?v2x0), (kv ?v2x1), (kv ?v2x2), (kv ?v2x3), (kv ?v2x4), (kv ?v2x5), (kv ?v2x6), (kv ?v2x7), (kv ?v2x8), (kv ?v2x9), (kv ?v2x10), (kv ?v2x11), (kv ?v2x12), (kv ?v2x13), (kv ?v2x14), (kv ?v2x15), (kv ?v2x16), (kv ?v2x17), (kv ?v2x18), (kv ?v2x19)]) (FL := fun γ w' => [True, True, True, True, True, True, True, True, True, True, True, True, True, True, True, True, True, True, True, True]) ?hE2 (by kernel_rfl) (by kernel_rfl) (by rfl) (by kernel_rfl) ?hloc2 ?hmono2 ?hstep2 ?htail2
          case hE2 => refine ⟨?_, ?_, ?_, ?_, ?_, ?_, trivial⟩ <;> (simp only [List.getElem?_toArray, List.getElem?_cons_succ, List.getElem?_cons_zero]; rfl)
          case hstep2 =>
            refine ⟨⟨⟨⟨⟨⟨⟨⟨⟨⟨⟨⟨⟨⟨⟨⟨⟨⟨⟨⟨trivial, ?_⟩, ?_⟩, ?_⟩, ?_⟩, ?_⟩, ?_⟩, ?_⟩, ?_⟩, ?_⟩, ?_⟩, ?_⟩, ?_⟩, ?_⟩, ?_⟩, ?_⟩, ?_⟩, ?_⟩, ?_⟩, ?_⟩, ?_⟩
            · intro γ w' he hf; clear hf; refine ⟨trivial, ?_⟩; intro R hR
              have hc := he.cells
              go_simp
              (try go_ints); (try (rw [if_neg (by omega)])); (try (rw [if_pos (by omega)])); (try go_simp); (try go_ints)
              refine hR _ _ (Ext.refl _) ?_ trivial
              rfl
            · intro γ w' he hf; clear hf; refine ⟨trivial, ?_⟩; intro R hR
              have hc := he.cells
              go_simp
              (try go_ints); (try (rw [if_neg (by omega)])); (try (rw [if_pos (by omega)])); (try go_simp); (try go_ints)
              refine hR _ _ (Ext.refl _) ?_ trivial
              rfl
            · intro γ w' he hf; clear hf; refine ⟨trivial, ?_⟩; intro R hR
              have hc := he.cells
              go_simp
              (try go_ints); (try (rw [if_neg (by omega)])); (try (rw [if_pos (by omega)])); (try go_simp); (try go_ints)
              refine hR _ _ (Ext.refl _) ?_ trivial
              rfl
            · intro γ w' he hf; clear hf; refine ⟨trivial, ?_⟩; intro R hR
              have hc := he.cells
              have cq0 := he.cell hcar
              have cq1 := he.cell hcb
              have cq2 := he.cell hmc
              go_simp
              (try go_ints); (try (rw [if_neg (by omega)])); (try (rw [if_pos (by omega)])); (try go_simp); (try go_ints)
              refine hR _ _ (Ext.refl _) ?_ trivial
              rfl
            · intro γ w' he hf; clear hf; refine ⟨trivial, ?_⟩; intro R hR
              have hc := he.cells
              go_simp
              (try go_ints); (try (rw [if_neg (by omega)])); (try (rw [if_pos (by omega)])); (try go_simp); (try go_ints)
              refine hR _ _ (Ext.refl _) ?_ trivial
              rfl
            · intro γ w' he hf; clear hf; refine ⟨trivial, ?_⟩; intro R hR
              have hc := he.cells
              go_simp
              (try go_ints); (try (rw [if_neg (by omega)])); (try (rw [if_pos (by omega)])); (try go_simp); (try go_ints)
              refine hR _ _ (Ext.refl _) ?_ trivial
              rfl
            · intro γ w' he hf; clear hf; refine ⟨trivial, ?_⟩; intro R hR
              have hc := he.cells
              go_simp
              (try go_ints); (try (rw [if_neg (by omega)])); (try (rw [if_pos (by omega)])); (try go_simp); (try go_ints)
              refine hR _ _ (Ext.refl _) ?_ trivial
              rfl
            · intro γ w' he hf; clear hf; refine ⟨trivial, ?_⟩; intro R hR
              have hc := he.cells
              go_simp
              (try go_ints); (try (rw [if_neg (by omega)])); (try (rw [if_pos (by omega)])); (try go_simp); (try go_ints)
              refine hR _ _ (Ext.refl _) ?_ trivial
              rfl
            · intro γ w' he hf; clear hf; refine ⟨trivial, ?_⟩; intro R hR
              have hc := he.cells
              have cq0 := he.cell hcar
              have cq1 := he.cell hcb
              have cq2 := he.cell hmc
              go_simp
              (try go_ints); (try (rw [if_neg (by omega)])); (try (rw [if_pos (by omega)])); (try go_simp); (try go_ints)
              refine hR _ _ (Ext.refl _) ?_ trivial
              rfl
            · intro γ w' he hf; clear hf; refine ⟨trivial, ?_⟩; intro R hR
              have hc := he.cells
              go_simp
              (try go_ints); (try (rw [if_neg (by omega)])); (try (rw [if_pos (by omega)])); (try go_simp); (try go_ints)
              refine hR _ _ (Ext.refl _) ?_ trivial
              rfl
            · intro γ w' he hf; clear hf; refine ⟨trivial, ?_⟩; intro R hR
              have hc := he.cells
              go_simp
              (try go_ints); (try (rw [if_neg (by omega)])); (try (rw [if_pos (by omega)])); (try go_simp); (try go_ints)
              refine hR _ _ (Ext.refl _) ?_ trivial
              rfl
            · intro γ w' he hf; clear hf; refine ⟨trivial, ?_⟩; intro R hR
              have hc := he.cells
              go_simp
              (try go_ints); (try (rw [if_neg (by omega)])); (try (rw [if_pos (by omega)])); (try go_simp); (try go_ints)
              refine hR _ _ (Ext.refl _) ?_ trivial
              rfl
            · intro γ w' he hf; clear hf; refine ⟨trivial, ?_⟩; intro R hR
              have hc := he.cells
              go_simp
              (try go_ints); (try (rw [if_neg (by omega)])); (try (rw [if_pos (by omega)])); (try go_simp); (try go_ints)
              refine hR _ _ (Ext.refl _) ?_ trivial
              rfl
            · intro γ w' he hf; clear hf; refine ⟨trivial, ?_⟩; intro R hR
              have hc := he.cells
              go_simp
              (try go_ints); (try (rw [if_neg (by omega)])); (try (rw [if_pos (by omega)])); (try go_simp); (try go_ints)
              refine hR _ _ (Ext.refl _) ?_ trivial
              rfl
            · intro γ w' he hf; clear hf; refine ⟨trivial, ?_⟩; intro R hR
              have hc := he.cells
              go_simp
              (try go_ints); (try (rw [if_neg (by omega)])); (try (rw [if_pos (by omega)])); (try go_simp); (try go_ints)
              refine hR _ _ (Ext.refl _) ?_ trivial
              rfl
            · intro γ w' he hf; clear hf; refine ⟨trivial, ?_⟩; intro R hR
              have hc := he.cells
              go_simp
              (try go_ints); (try (rw [if_neg (by omega)])); (try (rw [if_pos (by omega)])); (try go_simp); (try go_ints)
              refine hR _ _ (Ext.refl _) ?_ trivial
              rfl
            · intro γ w' he hf; clear hf; refine ⟨trivial, ?_⟩; intro R hR
              have hc := he.cells
              have cq0 := he.cell hcar
              have cq1 := he.cell hcb
              have cq2 := he.cell hmc
              go_simp
              (try go_ints); (try (rw [if_neg (by omega)])); (try (rw [if_pos (by omega)])); (try go_simp); (try go_ints)
              refine hR _ _ (Ext.refl _) ?_ trivial
              rfl
            · intro γ w' he hf; clear hf; refine ⟨trivial, ?_⟩; intro R hR
              have hc := he.cells
              go_simp
              (try go_ints); (try (rw [if_neg (by omega)])); (try (rw [if_pos (by omega)])); (try go_simp); (try go_ints)
              refine hR _ _ (Ext.refl _) ?_ trivial
              rfl
            · intro γ w' he hf; clear hf; refine ⟨trivial, ?_⟩; intro R hR
              have hc := he.cells
              go_simp
              (try go_ints); (try (rw [if_neg (by omega)])); (try (rw [if_pos (by omega)])); (try go_simp); (try go_ints)
              refine hR _ _ (Ext.refl _) ?_ trivial
              rfl
            · intro γ w' he hf; clear hf; refine ⟨trivial, ?_⟩; intro R hR
              have hc := he.cells
              go_simp
              (try go_ints); (try (rw [if_neg (by omega)])); (try (rw [if_pos (by omega)])); (try go_simp); (try go_ints)
              refine hR _ _ (Ext.refl _) ?_ trivial
              rfl
          case hloc2 =>
            exact ⟨⟨⟨⟨⟨⟨⟨⟨⟨⟨⟨⟨⟨⟨⟨⟨⟨⟨⟨⟨trivial, (fun γ γ' h => ⟨rfl, fun _ => rfl⟩)⟩, (fun γ γ' h => ⟨rfl, fun _ => rfl⟩)⟩, (fun γ γ' h => ⟨rfl, fun _ => rfl⟩)⟩, (fun γ γ' h => ⟨rfl, fun _ => rfl⟩)⟩, (fun γ γ' h => ⟨rfl, fun _ => rfl⟩)⟩, (fun γ γ' h => ⟨rfl, fun _ => rfl⟩)⟩, (fun γ γ' h => ⟨rfl, fun _ => rfl⟩)⟩, (fun γ γ' h => ⟨rfl, fun _ => rfl⟩)⟩, (fun γ γ' h => ⟨rfl, fun _ => rfl⟩)⟩, (fun γ γ' h => ⟨rfl, fun _ => rfl⟩)⟩, (fun γ γ' h => ⟨rfl, fun _ => rfl⟩)⟩, (fun γ γ' h => ⟨rfl, fun _ => rfl⟩)⟩, (fun γ γ' h => ⟨rfl, fun _ => rfl⟩)⟩, (fun γ γ' h => ⟨rfl, fun _ => rfl⟩)⟩, (fun γ γ' h => ⟨rfl, fun _ => rfl⟩)⟩, (fun γ γ' h => ⟨rfl, fun _ => rfl⟩)⟩, (fun γ γ' h => ⟨rfl, fun _ => rfl⟩)⟩, (fun γ γ' h => ⟨rfl, fun _ => rfl⟩)⟩, (fun γ γ' h => ⟨rfl, fun _ => rfl⟩)⟩, (fun γ γ' h => ⟨rfl, fun _ => rfl⟩)⟩
          case hmono2 =>
            exact ⟨⟨⟨⟨⟨⟨⟨⟨⟨⟨⟨⟨⟨⟨⟨⟨⟨⟨⟨⟨trivial, (fun γ wA w' e h => h)⟩, (fun γ wA w' e h => h)⟩, (fun γ wA w' e h => h)⟩, (fun γ wA w' e h => h)⟩, (fun γ wA w' e h => h)⟩, (fun γ wA w' e h => h)⟩, (fun γ wA w' e h => h)⟩, (fun γ wA w' e h => h)⟩, (fun γ wA w' e h => h)⟩, (fun γ wA w' e h => h)⟩, (fun γ wA w' e h => h)⟩, (fun γ wA w' e h => h)⟩, (fun γ wA w' e h => h)⟩, (fun γ wA w' e h => h)⟩, (fun γ wA w' e h => h)⟩, (fun γ wA w' e h => h)⟩, (fun γ wA w' e h => h)⟩, (fun γ wA w' e h => h)⟩, (fun γ wA w' e h => h)⟩, (fun γ wA w' e h => h)⟩
          intro γ w3 hx3 hF
          clear hF
          simp only [fillAll, gV, kv, List.getD_cons_zero, List.getD_cons_succ, Act.put, List.setIfInBounds_toArray, List.set_cons_zero, List.set_cons_succ, List.toList_toArray, List.drop_succ_cons, List.drop_zero, List.drop_nil, Nat.zero_add, Nat.reduceAdd]
          clear γ
          replace hbm := hbm.ext hx3
          replace hxm := hxm.trans hx3
          have hmc := hbm.celld (i := i + j) (by have := Hml.out; omega)
          have hfz := hbm.frozen (i + j)
          rw [Hzz.out] at hmc
          go_wp2
          go_roundw
          case rel =>
            have hml := Hml.out
            have e1 : (((x * y + z + c0) % 4294967296 : Nat) : Int) = ((x : Int) * y + z + c0) % 4294967296 := by rw [← Int.natCast_mul]; omega
            have e2 : (((x * y + z + c0) / 4294967296 : Nat) : Int) = ((x : Int) * y + z + c0) / 4294967296 := by rw [← Int.natCast_mul]; omega
            refine ⟨j + 1, (x * y + z + c0) / 4294967296, m.set (i + j) ((x * y + z + c0) % 4294967296), by omega, by go_num, by rw [e2], by have := Hxy.out; omega, by simpa using hml, hbm.setI _ _ e1.symm, hdm.set (by omega) _, fun q hq => by rw [dg_set_ne (by omega)]; exact Hzm.out q hq, ?_, hxm.setCell _ _ (Nat.le_refl _)⟩
            have hs := nv_set (l := m) (p := i + j) (d := (x * y + z + c0) % 4294967296) (by omega)
            rw [Hzz.out, bp_add] at hs
            rw [nv_take_dg, Hy.out, bp_succ]
            exact mul_step hs Hvm.out
          case measure => simp [intOf]; omega
        · obtain rfl : j = es.length := by omega
          have hmc := hbm.celld (i := i + es.length) (by have := Hml.out; omega)
          have hfz := hbm.frozen (i + es.length)
          go_wp2
          go_roundw
          case rel =>
            have hml := Hml.out
            refine ⟨i + 1, m.set (i + es.length) c0, by omega, by go_num, by simpa using hml, hbm.setI _ _ (by omega), hdm.set (by omega) _, fun q hq => by rw [dg_set_ne (by omega)]; exact Hzm.out q (by omega), ?_, hxm.setCell _ _ (Nat.le_refl _)⟩
            have hs := nv_set (l := m) (p := i + es.length) (d := c0) (by omega)
            rw [Hzm.out _ (Nat.le_refl _), Nat.mul_zero, Nat.add_zero, bp_add] at hs
            have h1 := Hvm.out
            rw [List.take_of_length_le (Nat.le_refl _), Hval.out] at h1
            rw [hs, nv_take_dg, Hx.out, Nat.mul_comm _ c0, h1]
            grind
          case measure => simp [intOf]; omega
    · obtain rfl : i = ds.length := by omega
      have hll := Hll.out
      have hq := hblk.digv hdl (c := ds.length + es.length) (by omega) (by omega)
      rw [hll] at hq
      have hr : NumV wr _ (nv ds * nv es) (ds.length + es.length) := ⟨l, hq, by rw [Hval.out, List.take_of_length_le (Nat.le_refl _)], by omega⟩
      clear hq hll hblk hdl
      replace hx1 := hx1.trans hx
      have hc1 := hx1.cells
      have hf1 := hx1.frozens
      go_wp2_with fail
      refine Calls.mono (signed_r (x * y) (neg != neg') _ _ _ _ Hz.out hr (by omega)) ?_
      rintro e w4 ⟨r, rfl, hr, hx4⟩
      clear hc1 hf1
      replace hx1 := hx1.trans hx4
      clear hx hx4
      obtain ⟨b5, A5, n5, c5, rfl⟩ := hr.cells
      have hc1 := hx1.cells
      have hf1 := hx1.frozens
      have Hfin := Lib.hid (fin_z hr hx1.a3 (NoDig.at_ hx1 (g := w.heap.size + 2) (by simp) (by simp [isDig])) (by omega))
      clear hr
      go_wp2
      refine bodyPost_ret (v := .agg #[.bool b5, .slice A5 n5 c5]) (by simp [results, Tryd.results10, go_sem, hc1]) rfl ?_
      exact Hfin.out
end Go.Proofs.YtfacbpnegkjcgaaDoor
namespace Go.Hp
open Go.RowKit
/-- b is how many binary digits n has. -/
def BL (n b : Nat) : Prop := n < 2 ^ b ∧ (0 < b → 2 ^ (b - 1) ≤ n)
theorem BL.zero : BL 0 0 := ⟨by decide, fun h => absurd h (by decide)⟩
theorem BL.top {ds : List Nat} {j : Nat} (hd : Digs ds) (hl : 0 < ds.length) (h1 : dg ds (ds.length - 1) < 2 ^ j) (h2 : 0 < j) (h3 : 2 ^ (j - 1) ≤ dg ds (ds.length - 1)) : BL (nv ds) (32 * (ds.length - 1) + j) := by
  have h := nv_take_dg ds (ds.length - 1)
  rw [List.take_of_length_le (by omega)] at h
  have hb := nv_lt (hd.take (ds.length - 1))
  have hb2 : bp (ds.take (ds.length - 1)).length ≤ bp (ds.length - 1) := bp_le (by rw [List.length_take]; omega)
  generalize dg ds (ds.length - 1) = d at *
  have hp := bp_two_pow (ds.length - 1)
  generalize hmm : ds.length - 1 = m at *
  constructor
  · rw [h, Nat.pow_add, ← hp]
    have : bp m * (d + 1) ≤ bp m * 2 ^ j := Nat.mul_le_mul_left _ h1
    rw [Nat.mul_add] at this
    omega
  · intro _
    rw [h, show 32 * m + j - 1 = 32 * m + (j - 1) by omega, Nat.pow_add, ← hp]
    have : bp m * 2 ^ (j - 1) ≤ bp m * d := Nat.mul_le_mul_left _ h3
    omega
theorem BL.le {n b m : Nat} (h : BL n b) (hm : n < 2 ^ m) : b ≤ m := by
  rcases Nat.lt_or_ge m b with h1 | h1
  · have h2 := h.2 (by omega)
    have : 2 ^ m ≤ 2 ^ (b - 1) := Nat.pow_le_pow_right (by decide) (by omega)
    omega
  · exact h1
end Go.Hp
namespace Go.Proofs.YtfacbpnegkjcgaaDoor
open Go.RowKit Go.Hp
theorem OwnD.made (w : World) (z base : Nat) (hb : base ≤ w.heap.size) (hz : z ≤ 70368744177664) : OwnD base (w.alloc (.cells (zcells z) 57)) (.slice (some ⟨w.heap.size, 0, none⟩) z z) (List.replicate z 0) := by
  unfold OwnD
  rw [List.length_replicate]
  refine ⟨by simp, .inr ⟨_, _, _, rfl, hb, heap_alloc_new w _, Nat.le_refl _, by simp only [maxLen]; omega, by simp [zcells], by simp [zcells, dv]⟩⟩
end Go.Proofs.YtfacbpnegkjcgaaDoor
namespace Go.Proofs.YtfacbpnegkjcgaaDoor
open Go.RowKit Go.Hp
/-- Digits outside of the block B. -/
def DigF (B : Nat) (w : World) (v : Value) (ds : List Nat) : Prop := DigV w v ds ∧ (0 < ds.length → ∀ a n c, v = .slice (some a) n c → a.block ≠ B)
theorem DigF.ext {B : Nat} {w w' : World} {v : Value} {ds : List Nat} (h : DigF B w v ds) (e : Ext w w') : DigF B w' v ds := ⟨h.1.ext e, h.2⟩
theorem DigF.of_own {B base : Nat} {w : World} {v : Value} {ds : List Nat} (h : DigO base w v ds) (hb : B < base) : DigF B w v ds := ⟨h.1, fun h0 a n c e => by have := h.2 h0 a n c e; omega⟩
theorem DigF.set_ {B : Nat} {w : World} {v : Value} {ds : List Nat} (h : DigF B w v ds) (i : Nat) (u : Value) : DigF B (w.setCell ⟨B, i, none⟩ u) v ds := ⟨by
  obtain ⟨A, c, e, h1, h2, hd, hA⟩ := h.1
  refine ⟨A, c, e, h1, h2, hd, fun h0 => ?_⟩
  obtain ⟨a, ha, hc⟩ := hA h0
  have hne := h.2 h0 a _ _ (by rw [e, ha])
  refine ⟨a, ha, fun j hj => ?_⟩
  have hb : (w.setCell ⟨B, i, none⟩ u).heap[(a.add j).block]? = w.heap[(a.add j).block]? := Below.heap_setCell w ⟨B, i, none⟩ u _ (by
    have e2 : (a.add j).block = a.block := by unfold Addr.add; split <;> rfl
    rw [e2]; exact hne)
  have h3 := hc j hj
  unfold World.cell? at h3 ⊢
  rw [hb]
  exact h3, h.2⟩
end Go.Proofs.YtfacbpnegkjcgaaDoor
namespace Go.Proofs.YtfacbpnegkjcgaaDoor
open Go.RowKit Go.Hp
end Go.Proofs.YtfacbpnegkjcgaaDoor
namespace Go.Hp
open Go.RowKit
theorem IsZ.natform {w : World} {v : Value} {n : Nat} (h : IsZ w v (n : Int)) : ∃ A c, v = .agg #[.bool false, .slice A (sz n) c] ∧ sz n ≤ c ∧ c ≤ 9223372036854775807 := by
  obtain ⟨A, c, e, h1, h2, _⟩ := h.form
  have h0 : decide ((n : Int) < 0) = false := decide_eq_false (by omega)
  rw [h0, Int.natAbs_natCast] at e
  rw [Int.natAbs_natCast] at h1
  exact ⟨A, c, e, h1, h2⟩
theorem IsZ.natn {w : World} {A : Option Addr} {m c n : Nat} {b : Bool} (h : IsZ w (.agg #[.bool b, .slice A m c]) (n : Int)) : NatV w (.slice A m c) n := by
  obtain ⟨A', c', e, _, _, k⟩ := h.form
  simp only [Value.agg.injEq, Array.mk.injEq, List.cons.injEq, Value.slice.injEq] at e
  obtain ⟨_, ⟨rfl, rfl, rfl⟩, _⟩ := e
  rw [Int.natAbs_natCast] at k ⊢
  exact k
/-- v is the machine word n. -/
def IsU (_ : World) (v : Value) (n : Nat) : Prop := v = .int .u64 n
theorem IsU.ext {w w' : World} {v : Value} {n : Nat} (h : IsU w v n) (_ : Ext w w') : IsU w' v n := h
end Go.Hp
namespace Go.Proofs.YtfacbpnegkjcgaaDoor
open Go.RowKit Go.Hp
end Go.Proofs.YtfacbpnegkjcgaaDoor
namespace Go.Hp
theorem IsQ.cells {w : World} {v : Value} {q : Rat} (h : IsQ w v q) : ∃ b A n c b' A' n' c', v = .agg #[.bool b, .slice A n c, .bool b', .slice A' n' c'] := by
  obtain ⟨b, A, n, c, b', A', n', c', e, _⟩ := h; exact ⟨_, _, _, _, _, _, _, _, e⟩
/-- v is the machine integer n. -/
def IsI (_ : World) (v : Value) (n : Int) : Prop := v = .int .i64 n
theorem IsI.ext {w w' : World} {v : Value} {n : Int} (h : IsI w v n) (_ : Ext w w') : IsI w' v n := h
theorem HasQ.form {w : World} {v : Value} {q : Rat} (h : HasQ w v q) : ∃ b A n c b' A' n' c' x y, v = .agg #[.bool b, .slice A n c, .bool b', .slice A' n' c'] ∧ HasZ w (.agg #[.bool b, .slice A n c]) x ∧ HasZ w (.agg #[.bool b', .slice A' n' c']) y ∧ sz x.natAbs ≤ 274877906944 ∧ sz y.natAbs ≤ 274877906944 ∧ q = Rat.divInt x y := h
end Go.Hp
namespace Go.Proofs.YtfacbpnegkjcgaaDoor
open Go.RowKit Go.Hp
end Go.Proofs.YtfacbpnegkjcgaaDoor
namespace Go.Hp
open Go.RowKit
theorem HasQ.sizes {w : World} {v : Value} {q : Rat} (h : HasQ w v q) : sz q.num.natAbs ≤ 274877906944 ∧ sz ((q.den : Int)).natAbs ≤ 274877906944 := by
  have := h.qsz; unfold Hp.qsz at this; rw [Int.natAbs_natCast]; omega
end Go.Hp
namespace Go.Proofs.YtfacbpnegkjcgaaDoor
open Go.RowKit Go.Hp
end Go.Proofs.YtfacbpnegkjcgaaDoor
namespace Go.Proofs.YtfacbpnegkjcgaaDoor
open Go.RowKit Go.Hp
end Go.Proofs.YtfacbpnegkjcgaaDoor
namespace Go.Hp
open Go.RowKit
theorem mul_sz2 {x y : Int} {a b : Nat} (hx : sz x.natAbs ≤ a) (hy : sz y.natAbs ≤ b) : sz (x * y).natAbs ≤ a + b := by
  rw [Int.natAbs_mul]; have := sz_mul x.natAbs y.natAbs; omega
end Go.Hp
namespace Go.Proofs.YtfacbpnegkjcgaaDoor
open Go.RowKit Go.Hp
end Go.Proofs.YtfacbpnegkjcgaaDoor
namespace Go.Hp
theorem lzf_set {N : Nat} {F G : Nat → Rat} {p : Nat} {x : Int} (h : ∀ n, (G n).num = if n = p then x else (F n).num) : (lzf N F).set p x = lzf N G := by
  apply List.ext_getElem
  · simp [lzf]
  · intro i h1 h2
    rw [List.getElem_set, lzf_get, lzf_get, h]
    by_cases e : p = i
    · subst e; simp
    · rw [if_neg e, if_neg (fun q => e q.symm)]
theorem mulG_zi {F G : Nat → Rat} (hF : ZI F) (hG : ZI G) (i j : Nat) : ZI (mulG i j F G) := fun n => by
  have h1 : ZI (tk i F) := fun k => by
    unfold tk; split
    · exact hF k
    · exact ⟨0, rfl⟩
  obtain ⟨a, ha⟩ := (h1.cv hG) n
  obtain ⟨b, hb⟩ := hF i
  obtain ⟨c, hc⟩ := hG (n - i)
  unfold mulG
  split
  · exact ⟨a + b * c, by rw [ha, hb, hc, Rat.intCast_add, Rat.intCast_mul]⟩
  · exact ⟨a, by rw [ha]; grind⟩
theorem mulG_num {F G : Nat → Rat} (hF : ZI F) (hG : ZI G) (i j n : Nat) : (mulG i (j + 1) F G n).num = if n = i + j then (mulG i j F G (i + j)).num + (F i).num * (G j).num else (mulG i j F G n).num := by
  rw [mulG_succ]
  by_cases e : n = i + j
  · subst e
    rw [if_pos rfl, if_pos rfl]
    rw [hF.num i, hG.num j, ← Rat.intCast_mul, (mulG_zi hF hG i j).num (i + j), num_add]; rfl
  · rw [if_neg e, if_neg e]
theorem lzf_rep (N : Nat) : lzf N pz = List.replicate N 0 := by
  apply List.ext_getElem
  · simp [lzf]
  · intro i h1 h2; rw [lzf_get]; simp; rfl
theorem mem_at {l : List Int} {i s : Nat} (hs : ∀ j, qsz (cz l j) ≤ s) (hi : i < l.length) : sz l[i].natAbs ≤ s := by
  have := hs i
  rw [cz_lt hi, qsz_cast] at this; omega
end Go.Hp
namespace Go.Proofs.YtfacbpnegkjcgaaDoor
open Go.RowKit Go.Hp
set_option maxRecDepth 20000 in
set_option maxHeartbeats 8000000 in
theorem zmul_p (v u : Value) (l m : List Int) (s t : Nat) (w : World) (hv : HzV 0 w v l) (hu : HzV 0 w u m) (hs : ∀ i, qsz (cz l i) ≤ s) (ht : ∀ i, qsz (cz m i) ≤ t) (hn : l.length ≤ 549755813888) (hm : m.length ≤ 549755813888) (hst : 1 + (l.length + 1) * (s + t + 1) ≤ 1099511627776) :
    Calls Tryd.prog 9 #[v, u] w (Gives w fun r w' => IsZP w.heap.size w' r (cv (cz l) (cz m))) := by
  obtain ⟨A, c, rfl, hl, hc, hA⟩ := hv
  obtain ⟨E, d, rfl, hl', hd, hE⟩ := hu
  by_cases h0 : l.length = 0
  · obtain rfl := List.eq_nil_of_length_eq_zero h0
    clear hA hE
    go_enter Tryd.func9, Tryd.ntmps9
    go_wp2
    go_ret
    rw [cz_nil, pz_cv]
    exact Gives.mk (IsZP.nil _ _) (Ext.refl _)
  by_cases h1 : m.length = 0
  · have b0 : ((l.length : Int) == 0) = false := by simpa using h0
    obtain rfl := List.eq_nil_of_length_eq_zero h1
    clear hA hE
    go_enter Tryd.func9, Tryd.ntmps9
    go_wp2
    go_ret
    rw [cz_nil, cv_pz]
    exact Gives.mk (IsZP.nil _ _) (Ext.refl _)
  have b0 : ((l.length : Int) == 0) = false := by simpa using h0
  have b1 : ((m.length : Int) == 0) = false := by simpa using h1
  obtain ⟨N, hN⟩ : ∃ N, N = l.length + m.length - 1 := ⟨_, rfl⟩
  have hlm : l.length + m.length = N + 1 := by omega
  have hN40 : N ≤ 1099511627776 := by omega
  obtain ⟨W0, hmk, ea, hx⟩ := make_zs N ((l.length : Int) + m.length - 1) (by omega) hN40 w
  rw [← lzf_rep, show pz = mulG 0 0 (cz l) (cz m) from by rw [mulG_zero, tk_zero, pz_cv]] at ea
  have HLM := Lib.hid hlm
  have hl1 : 1 ≤ l.length := by omega
  have hm1 : 1 ≤ m.length := by omega
  clear hN hlm h0 h1
  have HA : Hid (HzAt 0 w A l) := Lib.hid hA; clear hA
  have HE : Hid (HzAt 0 w E m) := Lib.hid hE; clear hE
  have HZ := Lib.hid (mulG_zi (ZI.cz l) (ZI.cz m))
  have HQ := Lib.hid (show ∀ i j n, i < l.length → sz (mulG i j (cz l) (cz m) n).num.natAbs ≤ 1099511627776 by
    intro i j n hi
    have h1 := mulG_qsz hs ht i j n
    have h3 : (i + 1) * (s + t + 1) ≤ (l.length + 1) * (s + t + 1) := Nat.mul_le_mul_right _ (by omega)
    have h4 := qsz_nm (mulG i j (cz l) (cz m) n)
    omega)
  have HQ2 := Lib.hid (show ∀ i j (hi : i < l.length) (hj : j < m.length), sz (l[i] * m[j]).natAbs ≤ 1099511627776 by
    intro i j hi hj
    have h1 := mul_sz2 (mem_at hs hi) (mem_at ht hj)
    have h5 : 1 * (s + t + 1) ≤ (l.length + 1) * (s + t + 1) := Nat.mul_le_mul_right _ (by omega)
    omega)
  clear hs ht hst
  go_enter Tryd.func9, Tryd.ntmps9
  go_wp2
  go_loopw [27] (fun iv wr => ∃ (i : Nat), i ≤ l.length ∧ iv = .int .i64 i ∧ ZArr wr w.heap.size 28 (lzf N (mulG i 0 (cz l) (cz m))) ∧ Ext w wr) (fun iv _ => l.length - (intOf iv).toNat)
  case atStart => exact ⟨0, Nat.zero_le _, rfl, ea, hx⟩
  case round =>
    clear ea hx
    obtain ⟨i, hi, rfl, ea, hx⟩ := hrel
    by_cases hil : i < l.length
    · obtain ⟨g, o, b, A1, n, c1, rfl, _, q0, q1, hq⟩ := HA.out.at_ (j := i) hil
      replace q0 := hx.cell q0
      replace q1 := hx.cell q1
      have Hq := Lib.hid hq; clear hq
      have hne8 := ea.lt
      go_wp2_with fail
      obtain ⟨W8, eW8, e8, x8⟩ := Box.made wr 28 #[.bool b, .slice A1 n c1] (by simp [isDig])
      rw [← eW8]
      clear eW8 q0 q1
      replace ea := ea.ext x8
      replace hx := hx.trans x8
      clear x8
      obtain ⟨wq, rfl⟩ : ∃ wq : World, wq = wr := ⟨_, rfl⟩
      go_loopw [34] (fun jv wx => ∃ (j : Nat), j ≤ m.length ∧ jv = .int .i64 j ∧ ZArr wx w.heap.size 28 (lzf N (mulG i j (cz l) (cz m))) ∧ Box wx wq.heap.size 28 #[.bool b, .slice A1 n c1] ∧ Ext w wx) (fun jv _ => m.length - (intOf jv).toNat)
      case atStart => exact ⟨0, Nat.zero_le _, rfl, ea, e8, hx⟩
      case round =>
        clear ea e8 hx
        obtain ⟨j, hj, rfl, ea, e8, hx⟩ := hrel
        by_cases hjm : j < m.length
        · obtain ⟨g', o', bb, B1, nn, cc1, rfl, _, q0, q1, hq⟩ := HE.out.at_ (j := j) hjm
          replace q0 := hx.cell q0
          replace q1 := hx.cell q1
          have Hq' := Lib.hid hq; clear hq
          have hij : i + j < N := by have := HLM.out; omega
          have hne10 := ea.lt
          have hne108 := e8.lt
          go_wp2_with fail
          obtain ⟨W10, eW10, e10, x10⟩ := Box.made wr 28 #[.bool bb, .slice B1 nn cc1] (by simp [isDig])
          rw [← eW10]
          clear eW10 q0 q1
          replace ea := ea.ext x10
          replace e8 := e8.ext x10
          replace hx := hx.trans x10
          clear x10
          obtain ⟨z1, Z1, zn, zc, ca0, ca1, hza⟩ := ea.at_ (j := i + j) (by rw [lzf_len]; exact hij)
          rw [lzf_get] at hza
          have Hza := Lib.hid hza; clear hza
          obtain ⟨ce80, ce81⟩ := e8.cells2
          have fe8 := e8.frozen
          obtain ⟨ce100, ce101⟩ := e10.cells2
          have fe10 := e10.frozen
          go_wp2_with fail
          refine wp_region_par (k := 14) (D := [39, 40, 41, 42, 43, 44, 45, 46, 47, 48, 49, 50, 51, 52]) (T := [[], [], [], [1, 2], [], [], [], [5, 6], [4, 5, 6, 7], [4, 5, 6, 7, 8], [], [], [10, 11], [4, 5, 6, 7, 8, 9, 10, 11, 12], [0, 1, 2, 3, 4, 5, 6, 7, 8, 9, 10, 11, 12, 13], [0, 1, 2, 3, 4, 5, 6, 7, 8, 9, 10, 11, 12, 13, 14]]) (EK := [5, 6, 8, 7, 9]) (EV := [?e1x0, ?e1x1, ?e1x2, ?e1x3, ?e1x4]) (VL := [(kv ?v1x0), (kv ?v1x1), (kv ?v1x2), (kv ?v1x3), (kv ?v1x4), (kv ?v1x5), (kv ?v1x6), (kv ?v1x7), (kv ?v1x8), (kv ?v1x9), (kv ?v1x10), (kv ?v1x11), (fun γ => γ 12), (fun γ => γ 13)]) (FL := fun γ w' => [True, True, True, True, True, True, True, True, True, True, True, True, IsZ w' (γ 12) (l[i] * m[j]), IsZ w' (γ 13) ((mulG i j (cz l) (cz m) (i + j)).num + l[i] * m[j])]) ?hE1 (by kernel_rfl) (by kernel_rfl) (by rfl) (by kernel_rfl) ?hloc1 ?hmono1 ?hstep1 ?htail1
          case hE1 => refine ⟨?_, ?_, ?_, ?_, ?_, trivial⟩ <;> (simp only [List.getElem?_toArray, List.getElem?_cons_succ, List.getElem?_cons_zero]; rfl)
          case hstep1 =>
            refine ⟨⟨⟨⟨⟨⟨⟨⟨⟨⟨⟨⟨⟨⟨trivial, ?_⟩, ?_⟩, ?_⟩, ?_⟩, ?_⟩, ?_⟩, ?_⟩, ?_⟩, ?_⟩, ?_⟩, ?_⟩, ?_⟩, ?_⟩, ?_⟩
            · intro γ w' he hf; clear hf; refine ⟨trivial, ?_⟩; intro R hR
              have hc := he.cells
              go_simp
              (try go_ints); (try (rw [if_neg (by omega)])); (try (rw [if_pos (by omega)])); (try go_simp); (try go_ints)
              refine hR _ _ (Ext.refl _) ?_ trivial
              rfl
            · intro γ w' he hf; clear hf; refine ⟨trivial, ?_⟩; intro R hR
              have hc := he.cells
              go_simp
              (try go_ints); (try (rw [if_neg (by omega)])); (try (rw [if_pos (by omega)])); (try go_simp); (try go_ints)
              refine hR _ _ (Ext.refl _) ?_ trivial
              rfl
            · intro γ w' he hf; clear hf; refine ⟨trivial, ?_⟩; intro R hR
              have hc := he.cells
              go_simp
              (try go_ints); (try (rw [if_neg (by omega)])); (try (rw [if_pos (by omega)])); (try go_simp); (try go_ints)
              refine hR _ _ (Ext.refl _) ?_ trivial
              rfl
            · intro γ w' he hf; clear hf; refine ⟨trivial, ?_⟩; intro R hR
              have hc := he.cells
              go_simp
              (try go_ints); (try (rw [if_neg (by omega)])); (try (rw [if_pos (by omega)])); (try go_simp); (try go_ints)
              refine hR _ _ (Ext.refl _) ?_ trivial
              rfl
            · intro γ w' he hf; clear hf; refine ⟨trivial, ?_⟩; intro R hR
              have hc := he.cells
              go_simp
              (try go_ints); (try (rw [if_neg (by omega)])); (try (rw [if_pos (by omega)])); (try go_simp); (try go_ints)
              refine hR _ _ (Ext.refl _) ?_ trivial
              rfl
            · intro γ w' he hf; clear hf; refine ⟨trivial, ?_⟩; intro R hR
              have hc := he.cells
              go_simp
              (try go_ints); (try (rw [if_neg (by omega)])); (try (rw [if_pos (by omega)])); (try go_simp); (try go_ints)
              refine hR _ _ (Ext.refl _) ?_ trivial
              rfl
            · intro γ w' he hf; clear hf; refine ⟨trivial, ?_⟩; intro R hR
              have hc := he.cells
              go_simp
              (try go_ints); (try (rw [if_neg (by omega)])); (try (rw [if_pos (by omega)])); (try go_simp); (try go_ints)
              refine hR _ _ (Ext.refl _) ?_ trivial
              rfl
            · intro γ w' he hf; clear hf; refine ⟨trivial, ?_⟩; intro R hR
              have hc := he.cells
              go_simp
              (try go_ints); (try (rw [if_neg (by omega)])); (try (rw [if_pos (by omega)])); (try go_simp); (try go_ints)
              refine hR _ _ (Ext.refl _) ?_ trivial
              rfl
            · intro γ w' he hf; clear hf; refine ⟨trivial, ?_⟩; intro R hR
              have hc := he.cells
              go_simp
              (try go_ints); (try (rw [if_neg (by omega)])); (try (rw [if_pos (by omega)])); (try go_simp); (try go_ints)
              refine hR _ _ (Ext.refl _) ?_ trivial
              rfl
            · intro γ w' he hf; clear hf; refine ⟨trivial, ?_⟩; intro R hR
              have hc := he.cells
              have cq0 := he.cell ca0
              have cq1 := he.cell ca1
              have cq2 := he.cell ce80
              have cq3 := he.cell ce81
              have cq4 := he.cell ce100
              have cq5 := he.cell ce101
              go_simp
              (try go_ints); (try (rw [if_neg (by omega)])); (try (rw [if_pos (by omega)])); (try go_simp); (try go_ints)
              refine hR _ _ (Ext.refl _) ?_ trivial
              rfl
            · intro γ w' he hf; clear hf; refine ⟨trivial, ?_⟩; intro R hR
              have hc := he.cells
              have cq0 := he.cell ca0
              have cq1 := he.cell ca1
              have cq2 := he.cell ce80
              have cq3 := he.cell ce81
              have cq4 := he.cell ce100
              have cq5 := he.cell ce101
              go_simp
              (try go_ints); (try (rw [if_neg (by omega)])); (try (rw [if_pos (by omega)])); (try go_simp); (try go_ints)
              refine hR _ _ (Ext.refl _) ?_ trivial
              rfl
            · intro γ w' he hf; clear hf; refine ⟨trivial, ?_⟩; intro R hR
              have hc := he.cells
              have cq0 := he.cell ca0
              have cq1 := he.cell ca1
              have cq2 := he.cell ce80
              have cq3 := he.cell ce81
              have cq4 := he.cell ce100
              have cq5 := he.cell ce101
              go_simp
              (try go_ints); (try (rw [if_neg (by omega)])); (try (rw [if_pos (by omega)])); (try go_simp); (try go_ints)
              refine hR _ _ (Ext.refl _) ?_ trivial
              rfl
            · intro γ w' he hf; clear hf; refine ⟨trivial, ?_⟩; intro R hR
              go_simp
              refine Calls.mono (show Calls _ _ _ w' (Gives w' fun r w'' => IsZ w'' (r) (l[i] * m[j])) from mul_z _ _ _ _ w' (Hq.out.kd (hx.trans he).kd) (Hq'.out.kd (hx.trans he).kd)) ?_
              rintro e w2 ⟨v, rfl, hv, hx⟩
              exact ⟨v, rfl, hR v w2 hx rfl hv⟩
            · intro γ w' he hf; have f12 : IsZ w' (γ 12) (l[i] * m[j]) := hf 12 (by decide); clear hf; refine ⟨trivial, ?_⟩; intro R hR
              go_simp
              refine Calls.mono (show Calls _ _ _ w' (Gives w' fun r w'' => IsZ w'' (r) ((mulG i j (cz l) (cz m) (i + j)).num + l[i] * m[j])) from add_z _ _ _ _ w' ((Hza.out.kd he.kd).has (HQ.out _ _ _ hil)) (f12.has (HQ2.out i j hil hjm))) ?_
              rintro e w2 ⟨v, rfl, hv, hx⟩
              exact ⟨v, rfl, hR v w2 hx rfl hv⟩
          case hloc1 =>
            exact ⟨⟨⟨⟨⟨⟨⟨⟨⟨⟨⟨⟨⟨⟨trivial, (fun γ γ' h => ⟨rfl, fun _ => rfl⟩)⟩, (fun γ γ' h => ⟨rfl, fun _ => rfl⟩)⟩, (fun γ γ' h => ⟨rfl, fun _ => rfl⟩)⟩, (fun γ γ' h => ⟨rfl, fun _ => rfl⟩)⟩, (fun γ γ' h => ⟨rfl, fun _ => rfl⟩)⟩, (fun γ γ' h => ⟨rfl, fun _ => rfl⟩)⟩, (fun γ γ' h => ⟨rfl, fun _ => rfl⟩)⟩, (fun γ γ' h => ⟨rfl, fun _ => rfl⟩)⟩, (fun γ γ' h => ⟨rfl, fun _ => rfl⟩)⟩, (fun γ γ' h => ⟨rfl, fun _ => rfl⟩)⟩, (fun γ γ' h => ⟨rfl, fun _ => rfl⟩)⟩, (fun γ γ' h => ⟨rfl, fun _ => rfl⟩)⟩, (fun γ γ' h => ⟨h 12 rfl, fun w' => (congrArg (fun a => IsZ w' (a) (l[i] * m[j])) (h 12 rfl))⟩)⟩, (fun γ γ' h => ⟨h 13 rfl, fun w' => (congrArg (fun a => IsZ w' (a) ((mulG i j (cz l) (cz m) (i + j)).num + l[i] * m[j])) (h 13 rfl))⟩)⟩
          case hmono1 =>
            exact ⟨⟨⟨⟨⟨⟨⟨⟨⟨⟨⟨⟨⟨⟨trivial, (fun γ wA w' e h => h)⟩, (fun γ wA w' e h => h)⟩, (fun γ wA w' e h => h)⟩, (fun γ wA w' e h => h)⟩, (fun γ wA w' e h => h)⟩, (fun γ wA w' e h => h)⟩, (fun γ wA w' e h => h)⟩, (fun γ wA w' e h => h)⟩, (fun γ wA w' e h => h)⟩, (fun γ wA w' e h => h)⟩, (fun γ wA w' e h => h)⟩, (fun γ wA w' e h => h)⟩, (fun γ wA w' e h => (show IsZ wA (γ 12) (l[i] * m[j]) from h).ext e)⟩, (fun γ wA w' e h => (show IsZ wA (γ 13) ((mulG i j (cz l) (cz m) (i + j)).num + l[i] * m[j]) from h).ext e)⟩
          intro γ w6 hx6 hF
          have p12 : IsZ w6 (γ 12) (l[i] * m[j]) := Each.get hF 12 (by decide)
          have p13 : IsZ w6 (γ 13) ((mulG i j (cz l) (cz m) (i + j)).num + l[i] * m[j]) := Each.get hF 13 (by decide)
          clear hF
          simp only [fillAll, gV, kv, List.getD_cons_zero, List.getD_cons_succ, Act.put, List.setIfInBounds_toArray, List.set_cons_zero, List.set_cons_succ, List.toList_toArray, List.drop_succ_cons, List.drop_zero, List.drop_nil, Nat.zero_add, Nat.reduceAdd]
          generalize γ 12 = g12 at *
          generalize γ 13 = g13 at *
          clear γ
          clear ca0 ca1 ce80 ce81 fe8 ce100 ce101 fe10 e10 p12 Hza
          replace ea := ea.ext hx6
          replace e8 := e8.ext hx6
          replace hx := hx.trans hx6
          clear hx6
          obtain ⟨b5, A5, n5, c5, rfl⟩ := p13.cells
          have hkf : i + j < (lzf N (mulG i j (cz l) (cz m))).length := by rw [lzf_len]; exact hij
          have Hkf := Lib.hid hkf
          obtain ⟨_, _, _, _, ca0, ca1, -⟩ := ea.at_ (j := i + j) (by first | omega | (simp; omega))
          have fa0 := ea.frozen ((i + j) * 2)
          have fa1 := ea.frozen ((i + j) * 2 + 1)
          clear hkf
          go_wp2
          have hkf := Hkf.out
          obtain ⟨W7, eW, ea', U⟩ := ea.put (k := i + j) (by first | omega | (simp; omega)) p13
          rw [← eW]
          clear eW ea
          replace e8 := e8.upd U (by simp <;> omega)
          replace hx := U.from_ hx (by simp <;> omega)
          have ea := ea'
          clear U ea'
          go_roundw
          case rel => exact ⟨j + 1, by omega, by go_num, by
            rw [lzf_set (G := mulG i (j + 1) (cz l) (cz m)) (fun n => by rw [mulG_num (ZI.cz l) (ZI.cz m), cz_lt hil, cz_lt hjm]; rfl)] at ea
            exact ea, e8, hx⟩
          case measure => simp [intOf]; omega
        · obtain rfl : j = m.length := by omega
          rw [mulG_full (cz_sup m), ← mulG_zero] at ea
          go_wp2
          go_roundw
          case rel => exact ⟨i + 1, by omega, by go_num, ea, hx⟩
          case measure => simp [intOf]; omega
    · obtain rfl : i = l.length := by omega
      rw [mulG_zero, tk_all (cz_sup l)] at ea
      have hz : Sup N (cv (cz l) (cz m)) := by
        have := (cz_sup l).cv (cz_sup m)
        rwa [show l.length + m.length - 1 = N from by have := HLM.out; omega] at this
      have hco := cz_lzf ((ZI.cz l).cv (ZI.cz m)) hz
      have hrow := ea.row (Nat.le_refl _)
      have hT := trimmed_zs w.heap.size (some ⟨w.heap.size, 0, none⟩) N (lzf N (cv (cz l) (cz m))) wr (by rw [lzf_len]; omega) (by omega) hrow
      rw [lzf_len] at hT
      have Hrow := Lib.hid (And.intro hrow hco); clear hrow hz ea hco
      go_wp2_with fail
      refine Calls.mono hT ?_
      rintro e w2 ⟨rfl, rfl⟩
      go_wp2
      go_ret
      exact Gives.mk (IsZP.of_trim (ZsV.trim Hrow.out.1 (by rw [lzf_len]; omega)) Hrow.out.2) hx
end Go.Proofs.YtfacbpnegkjcgaaDoor
namespace Go.Hp
/-- A pair of polynomials and no error. -/
def TupPs (b : Nat) (F G : Nat → Rat) (r : Value) (w : World) : Prop := ∃ q m, r = .tuple #[q, m, .int .i64 0] ∧ IsZP b w q F ∧ IsZP b w m G
theorem int_ld {F : Nat → Rat} (h : ZI F) : ld F = ((ld F).num : Rat) := h.num _
end Go.Hp
namespace Go.Proofs.YtfacbpnegkjcgaaDoor
open Go.RowKit Go.Hp
theorem lead_z (v : Value) (base : Nat) (F : Nat → Rat) (w : World) (hv : IsZP base w v F) (h0 : F ≠ pz) : Calls Tryd.prog 27 #[v] w (Gives w fun r w' => IsZ w' r (ld F).num) := by
  have hp := pl_pos hv.fin h0
  obtain ⟨A, c, l, rfl, k1, k2, hA, k3, k4, k5⟩ := hv.form
  obtain ⟨g, o, b, A1, n, c1, rfl, _, q0, q1, hq⟩ := hA.at_ (j := pl F - 1) (by omega)
  have hl : l[pl F - 1]'(by omega) = (ld F).num := by
    have h1 := congrFun k5 (pl F - 1)
    rw [cz_lt (show pl F - 1 < l.length by omega)] at h1
    show _ = (F (pl F - 1)).num
    rw [← h1]; rfl
  rw [hl] at hq
  have Hq := Lib.hid hq
  clear hq hA hl k4 k5 hv
  have x0 := (Ext.refl w).alloc (.cells #[.bool false, .slice none 0 0] 28)
  replace q0 := x0.cell q0
  replace q1 := x0.cell q1
  go_enter Tryd.func27, Tryd.ntmps27
  go_wp2
  have ez := Box.new w 28 #[.bool b, .slice A1 n c1] (by simp [isDig])
  have x1 := (Ext.refl w).alloc (.cells #[.bool b, .slice A1 n c1] 28)
  have hz := Hq.out.kd x1.kd
  obtain ⟨cez0, cez1⟩ := ez.cells2
  have fez := ez.frozen
  refine bodyPost_ret (v := .agg #[.bool b, .slice A1 n c1]) (by simp [results, Tryd.results27, go_sem, cez0, cez1]) rfl ?_
  exact Gives.mk hz x1
set_option maxRecDepth 20000 in
set_option maxHeartbeats 2000000 in
theorem power_z (v : Value) (a : Int) (n s : Nat) (w : World) (hv : HasZ w v a) (hs : sz a.natAbs ≤ s) (hn : 1 + n * s ≤ 1099511627776) (hn2 : n ≤ 1099511627776) : Calls Tryd.prog 29 #[v, .int .i64 (n : Nat)] w (Gives w fun r w' => IsZ w' r (a ^ n)) := by
  have HV := Lib.hid hv
  have HS := Lib.hid (show ∀ k, k ≤ n → sz (a ^ k).natAbs ≤ 1099511627776 from fun k hk => by
    have h1 := sz_powz a s hs k
    have h2 : k * s ≤ n * s := Nat.mul_le_mul_right _ hk
    omega)
  obtain ⟨b0, A0, n0, c0, rfl⟩ := hv.cells
  clear hv hs hn
  have ea := (Box.new w 28 #[.bool b0, .slice A0 n0 c0] (by simp [isDig])).alloc (.cells #[.bool false, .slice none 0 0] 28)
  have ez := Box.new (w.alloc (.cells #[.bool b0, .slice A0 n0 c0] 28)) 28 #[.bool false, .slice none 0 0] (by simp [isDig])
  rw [World.size_alloc] at ez
  have hx := ((Ext.refl w).alloc (.cells #[.bool b0, .slice A0 n0 c0] 28)).alloc (.cells #[.bool false, .slice none 0 0] 28)
  go_enter Tryd.func29, Tryd.ntmps29
  go_wp2_with fail
  refine Calls.mono (of_z 1 _ (by omega) (by omega)) ?_
  rintro e w1 ⟨r1, rfl, hr1, hx1⟩
  obtain ⟨b5, A5, n5, c5, rfl⟩ := hr1.cells
  replace ea := ea.ext hx1
  replace ez := ez.ext hx1
  replace hx := hx.trans hx1
  clear hx1
  have hg := ez.lt
  go_wp2
  obtain ⟨W9, eW9, e9, x9⟩ := Box.made w1 28 #[.bool b5, .slice A5 n5 c5] (by simp [isDig])
  rw [← eW9]
  clear eW9
  replace ea := ea.ext x9
  replace ez := ez.ext x9
  replace hx := hx.trans x9
  have eb := BoxZ.mk e9 (hr1.kd x9.kd)
  go_loopw [8] (fun iv wr => ∃ k : Nat, k ≤ n ∧ iv = .int .i64 k ∧ Box wr w.heap.size 28 #[.bool b0, .slice A0 n0 c0] ∧ Box wr (w.heap.size + 1) 28 #[.bool false, .slice none 0 0] ∧ BoxZ wr w1.heap.size 28 (a ^ k) ∧ Ext w wr) (fun iv _ => n - (intOf iv).toNat)
  case atStart => exact ⟨0, Nat.zero_le _, rfl, ea, ez, by rw [Int.pow_zero]; exact eb, hx⟩
  case round =>
    clear ea ez eb hx
    obtain ⟨k, hk, rfl, ea, ez, ⟨b, B, bn, bc, eb, hb⟩, hx⟩ := hrel
    have Hb := Lib.hid hb; clear hb
    by_cases hkl : k < n
    · skip
      obtain ⟨cea0, cea1⟩ := ea.cells2
      have fea := ea.frozen
      obtain ⟨ceb0, ceb1⟩ := eb.cells2
      have feb := eb.frozen
      go_wp2_with fail
      refine Calls.mono (mul_z _ _ (a ^ k) a _ (Hb.out.has (HS.out k hk)) (HV.out.kd hx.kd)) ?_
      rintro e w2 ⟨r, rfl, hr, hx2⟩
      rw [← Int.pow_succ] at hr
      obtain ⟨b6, A6, n6, c6, rfl⟩ := hr.cells
      replace ea := ea.ext hx2
      replace ez := ez.ext hx2
      replace eb := eb.ext hx2
      replace hx := hx.trans hx2
      clear hx2 cea0 cea1 fea ceb0 ceb1 feb Hb
      obtain ⟨ceb0, ceb1⟩ := eb.cells2
      have feb := eb.frozen
      go_wp2
      obtain ⟨W3, eW, eb', U⟩ := eb.put2 (.bool b6) (.slice A6 n6 c6) rfl rfl
      rw [← eW]
      clear eW eb
      replace hr := hr.kd U.kd
      replace ea := ea.upd U (by simp <;> omega)
      replace ez := ez.upd U (by simp <;> omega)
      replace hx := U.from_ hx (by simp <;> omega)
      have eb := eb'
      clear U eb'
      go_roundw
      case rel => exact ⟨k + 1, by omega, by go_num, ea, ez, BoxZ.mk eb hr, hx⟩
      case measure => simp [intOf]; omega
    · obtain rfl : k = n := by omega
      obtain ⟨ceb0, ceb1⟩ := eb.cells2
      have feb := eb.frozen
      obtain ⟨cez0, cez1⟩ := ez.cells2
      have fez := ez.frozen
      go_wp2
      have hr := Hb.out
      obtain ⟨W3, eW, ez', U⟩ := ez.put2 (.bool b) (.slice B bn bc) rfl rfl
      rw [← eW]
      clear eW ez
      replace hr := hr.kd U.kd
      replace hx := U.from_ hx (by simp <;> omega)
      have ez := ez'
      clear U ez'
      clear cez0 cez1
      obtain ⟨cez0, cez1⟩ := ez.cells2
      have fez := ez.frozen
      refine bodyPost_ret (v := .agg #[.bool b, .slice B bn bc]) (by simp [results, Tryd.results29, go_sem, cez0, cez1]) rfl ?_
      exact Gives.mk hr hx
end Go.Proofs.YtfacbpnegkjcgaaDoor
namespace Go.Hp
open Go.RowKit
theorem lzf_top {G : Nat → Rat} (hz : ZI G) (h : Fin_ G) : TopR (zq (lzf (pl G) G)) := fun h0 => by
  rw [zq_len, lzf_len] at h0
  have := pl_top h h0
  have e : (zq (lzf (pl G) G)).length - 1 = pl G - 1 := by rw [zq_len, lzf_len]
  simp only [e]
  rw [zq_get (by rw [lzf_len]; omega), lzf_get, ← hz.num]
  exact this
theorem ZArr.whole {base : Nat} {w : World} {g : Nat} {t : TypeId} {G : Nat → Rat} (h : ZArr w g t (lzf (pl G) G)) (hz : ZI G) (hf : Fin_ G) (hb : base ≤ g) {c : Nat} (hc : pl G ≤ c) (hm : c ≤ 9223372036854775807) : IsZP base w (.slice (some ⟨g, 0, none⟩) (pl G) c) G :=
  ⟨_, ⟨_, c, by rw [lzf_len], by rw [lzf_len]; exact hc, hm, h.row hb⟩, lzf_top hz hf, cz_lzf hz (pl_sup hf)⟩
end Go.Hp
namespace Go.Proofs.YtfacbpnegkjcgaaDoor
open Go.RowKit Go.Hp
set_option maxHeartbeats 1000000 in
theorem content_zp (v : Value) (l : List Int) (w : World) (hv : HzV 0 w v l) (hn : l.length ≤ 1099511627776) : Calls Tryd.prog 36 #[v] w (Gives w fun r w' => IsZ w' r (cn (cz l) : Nat)) := by
  have hsz := fun i => cz_qsz hv.sz (by omega) i
  obtain ⟨A, c, rfl, hl, hc, hA⟩ := hv
  have HA : Hid (HzAt 0 w A l) := Lib.hid hA; clear hA
  have HS := Lib.hid hsz; clear hsz
  rw [cn_eq (cz_sup l)]
  go_enter Tryd.func36, Tryd.ntmps36
  go_wp2
  go_loopw [8] (fun iv wr => ∃ k : Nat, k ≤ l.length ∧ iv = .int .i64 k ∧ Box wr w.heap.size 28 #[.bool false, .slice none 0 0] ∧ BoxZ wr (w.heap.size + 1) 28 (ct k (cz l) : Nat) ∧ Ext w wr) (fun iv _ => l.length - (intOf iv).toNat)
  case atStart => exact ⟨0, Nat.zero_le _, rfl, (Box.new w _ _ (by simp [isDig])).alloc _, BoxZ.zero (by have := Box.new (w.alloc (.cells #[.bool false, .slice none 0 0] 28)) 28 #[.bool false, .slice none 0 0] (by simp [isDig]); rw [World.size_alloc] at this; exact this), ((Ext.refl w).alloc _).alloc _⟩
  case round =>
    obtain ⟨k, hk, rfl, ea, ⟨b, B, bn, bc, eb, hb⟩, hx⟩ := hrel
    have Hb := Lib.hid hb; clear hb
    by_cases hkl : k < l.length
    · obtain ⟨g, o, b1, A1, n, c1, rfl, _, q0, q1, hq⟩ := HA.out.at_ (j := k) hkl
      replace q0 := hx.cell q0
      replace q1 := hx.cell q1
      have Hq := Lib.hid (hq.kd hx.kd); clear hq
      have hsk := cn_sz HS.out k
      have HK := Lib.hid hsk; clear hsk
      have xa := fun o => (Ext.refl wr).alloc o
      have ceb := eb.cells2
      obtain ⟨r0, r1⟩ := ceb
      replace r0 := fun o => (xa o).cell r0
      replace r1 := fun o => (xa o).cell r1
      clear xa
      go_wp2_with fail
      refine Calls.mono (gcd_z _ _ (ct k (cz l) : Nat) l[k] _ ((Hb.out.kd ((Ext.refl _).alloc _).kd).has (by have := HK.out; simp; omega)) (Hq.out.kd ((Ext.refl _).alloc _).kd)) ?_
      rintro e w2 ⟨r, rfl, hr, hx2⟩
      have e1 : Int.gcd (ct k (cz l) : Nat) l[k] = ct (k + 1) (cz l) := by rw [ct_succ, cz_lt hkl]; rfl
      rw [e1] at hr
      obtain ⟨b5, A5, n5, c5, rfl⟩ := hr.cells
      replace ea := ea.ext hx2.a1
      replace eb := eb.ext hx2.a1
      replace hx := hx.trans hx2.a1
      clear hx2 q0 q1 r0 r1 e1 HK Hb Hq
      obtain ⟨ceb0, ceb1⟩ := eb.cells2
      have feb := eb.frozen
      go_wp2
      obtain ⟨W3, eW, eb', U⟩ := eb.put2 (.bool b5) (.slice A5 n5 c5) rfl rfl
      rw [← eW]
      clear eW eb
      replace hr := hr.kd U.kd
      replace ea := ea.upd U (by simp <;> omega)
      replace hx := U.from_ hx (by simp <;> omega)
      have eb := eb'
      clear U eb'
      go_roundw
      case rel => exact ⟨k + 1, by omega, by go_num, ea, BoxZ.mk eb hr, hx⟩
      case measure => simp [intOf]; omega
    · obtain rfl : k = l.length := by omega
      obtain ⟨cea0, cea1⟩ := ea.cells2
      have fea := ea.frozen
      obtain ⟨ceb0, ceb1⟩ := eb.cells2
      have feb := eb.frozen
      go_wp2
      have hr := Hb.out
      obtain ⟨W3, eW, ea', U⟩ := ea.put2 (.bool b) (.slice B bn bc) rfl rfl
      rw [← eW]
      clear eW ea
      replace hr := hr.kd U.kd
      replace hx := U.from_ hx (by simp <;> omega)
      have ea := ea'
      clear U ea'
      clear cea0 cea1
      obtain ⟨cea0, cea1⟩ := ea.cells2
      have fea := ea.frozen
      refine bodyPost_ret (v := .agg #[.bool b, .slice B bn bc]) (by simp [results, Tryd.results36, go_sem, cea0, cea1]) rfl ?_
      exact Gives.mk hr hx
set_option maxRecDepth 20000 in
set_option maxHeartbeats 4000000 in
theorem primitive_zp (v : Value) (l : List Int) (w : World) (hv : HzV 0 w v l) (hn : l.length ≤ 1099511627776) : Calls Tryd.prog 18 #[v] w (Gives w fun r w' => IsZP w.heap.size w' r (pp (cz l))) := by
  have hsz := fun i => cz_qsz hv.sz (by omega) i
  have HV := Lib.hid hv
  obtain ⟨A0, c0, rfl⟩ := hv.len
  have hfin := Fin_.cz l; have hzi := ZI.cz l
  have hpl := pl_le (cz_sup l)
  obtain ⟨F, hF⟩ : ∃ F, F = cz l := ⟨_, rfl⟩
  have hNorm := normal_zp _ l w HV.out hn
  rw [← hF] at hsz hfin hzi hNorm hpl
  rw [← hF]
  have HX := Lib.hid (And.intro hsz (And.intro hfin hzi)); clear hsz hfin hzi HV hv hF
  have HN := Lib.hid hNorm; clear hNorm
  go_enter Tryd.func18, Tryd.ntmps18
  go_wp2_with fail
  refine Calls.mono HN.out ?_
  rintro e w1 ⟨r1, rfl, hr1, hx1⟩
  have Hr1 := Lib.hid hr1
  obtain ⟨A, c, l1, rfl, k1, k2, hA, k3, k4, k5⟩ := hr1.form
  obtain ⟨l2, h21, h22, -, h24⟩ := hr1.hz HX.out.1
  have H2 := Lib.hid (And.intro h21 (And.intro h22 h24)); clear h21 h22 h24
  have HA := Lib.hid (And.intro hA (And.intro k3 k5)); clear hr1 hA k3 k4 k5 HN
  have hpl40 : pl F ≤ 1099511627776 := by omega
  go_wp2_with fail
  refine Calls.mono (content_zp _ l2 _ H2.out.1 (by have := H2.out.2.1; omega)) ?_
  rintro e w2 ⟨r2, rfl, hr2, hx2⟩
  rw [H2.out.2.2] at hr2
  obtain ⟨b5, A5, n5, c5, rfl⟩ := hr2.cells
  have hs1 := hx1.size
  have hs2 := hx2.size
  obtain ⟨W0, eW, eb, x0⟩ := Box.made w2 28 #[.bool b5, .slice A5 n5 c5] (by simp [isDig])
  replace hr2 := hr2.kd x0.kd
  replace hx2 := hx2.trans x0
  by_cases hp : 0 < pl F
  · obtain ⟨g, o, b, A1, n, c1, rfl, _, q0, q1, hq⟩ := HA.out.1.at_ (j := pl F - 1) (by have := HA.out.2.1; omega)
    have hbb := hq.two.2
    have hld : ld F = (l1[pl F - 1]'(by have := HA.out.2.1; omega) : Rat) := by rw [← cz_lt, HA.out.2.2]; rfl
    have hpc : pcn F = if b = true then -(cn F : Int) else cn F := by
      unfold pcn
      rw [hld, hbb]
      by_cases hneg : l1[pl F - 1]'(by have := HA.out.2.1; omega) < 0
      · rw [if_pos (by exact_mod_cast hneg), if_pos (by simpa using hneg)]
      · rw [if_neg (fun h => hneg (by exact_mod_cast h)), if_neg (by simpa using hneg)]
    have Hpc := Lib.hid hpc; clear hpc hld hbb hq q1
    replace q0 := hx2.cell q0
    subst eW
    clear x0
    go_upto_if 22 with (fail)
    generalize w2.alloc (.cells #[.bool b5, .slice A5 n5 c5] 28) = W0 at *
    generalize w2.heap.size = gb at *
    go_cut [] (fun wx => BoxZ wx gb 28 (pcn F) ∧ Ext w1 wx)
    case first =>
      obtain ⟨ceb0, ceb1⟩ := eb.cells2
      have feb := eb.frozen
      cases b with
      | true =>
        have hcz : sz ((cn F : Nat) : Int).natAbs ≤ 1099511627776 := by have := cn_sz HX.out.1 (pl F); simpa [cn] using this
        have Hr2 := Lib.hid (hr2.has hcz); clear hcz hr2
        go_wp2_with fail
        refine Calls.mono (neg_z _ (cn F : Nat) _ Hr2.out) ?_
        rintro e w3 ⟨r3, rfl, hr3, hx3⟩
        obtain ⟨b6, A6, n6, c6, rfl⟩ := hr3.cells
        replace eb := eb.ext hx3
        replace hx2 := hx2.trans hx3
        clear ceb0 ceb1 feb hx3 q0
        obtain ⟨ceb0, ceb1⟩ := eb.cells2
        have feb := eb.frozen
        go_wp2
        obtain ⟨W3, eW, eb', U⟩ := eb.put2 (.bool b6) (.slice A6 n6 c6) rfl rfl
        rw [← eW]
        clear eW eb
        replace hr3 := hr3.kd U.kd
        replace hx2 := U.from_ hx2 (by simp <;> omega)
        have eb := eb'
        clear U eb'
        go_meet
        case rel => exact ⟨by have := Hpc.out; simp at this; rw [this]; exact BoxZ.mk eb hr3, hx2⟩
      | false =>
        have Hr2 := Lib.hid hr2; clear hr2
        go_wp2
        go_meet
        case rel => exact ⟨by have := Hpc.out; simp at this; rw [this]; exact BoxZ.mk eb Hr2.out, hx2⟩
    case rest =>
      clear q0 eb hr2 hx2
      obtain ⟨⟨b, B, bn, bc, eb, hb⟩, hx2⟩ := hcut
      have hbc := eb.lt
      have hsc := hx2.size
      have hf0 : F ≠ pz := fun e => by rw [e, pl_pz] at hp; omega
      have hppl := pp_pl HX.out.2.2 HX.out.2.1
      have HB := Lib.hid (And.intro hb (And.intro hf0 hppl)); clear hb hf0 hppl
      obtain ⟨m, hm⟩ : ∃ m, m = lzf (pl F) (pp F) := ⟨_, rfl⟩
      have hml : m.length = pl F := by rw [hm, lzf_len]
      have HM := Lib.hid (And.intro hm hml); clear hm hml
      obtain ⟨W0, hmk, ea, hxa⟩ := make_zs (pl F) (pl F : Int) rfl hpl40 wc
      replace eb := eb.ext hxa
      replace hx2 := hx2.trans hxa
      have HB' := Lib.hid (HB.out.1.kd hxa.kd)
      generalize wc.heap.size = ga at *
      go_wp2
      clear hmk hxa
      go_loopw [30] (fun iv wr => ∃ (k : Nat) (la : List Int), k ≤ pl F ∧ iv = .int .i64 k ∧ ZArr wr ga 28 la ∧ la.length = pl F ∧ la = m.take k ++ List.replicate (pl F - k) 0 ∧ Box wr gb 28 #[.bool b, .slice B bn bc] ∧ IsZ wr (.agg #[.bool b, .slice B bn bc]) (pcn F) ∧ Ext w1 wr) (fun iv _ => pl F - (intOf iv).toNat)
      case atStart => exact ⟨0, _, Nat.zero_le _, rfl, ea, by simp, by simp, eb, HB'.out, hx2⟩
      case round =>
        clear hx2 ea eb HB'
        obtain ⟨k, la, hk, rfl, ea, hlen, hla, eb, hb, hx2⟩ := hrel
        have Hla := Lib.hid hla; clear hla
        have Hlen := Lib.hid hlen; clear hlen
        by_cases hkl : k < pl F
        · have hkl1 : k < l1.length := by have := HA.out.2.1; omega
          obtain ⟨g', o', b1, B1, n1, d1, hgo, _, q0, q1, hq⟩ := HA.out.1.at_ (j := k) hkl1
          simp only [Option.some.injEq, Addr.mk.injEq, and_true] at hgo
          obtain ⟨rfl, rfl⟩ := hgo
          replace q0 := hx2.cell q0
          replace q1 := hx2.cell q1
          have hFk : F k = (l1[k] : Rat) := by rw [← HA.out.2.2, cz_lt hkl1]
          have hqz : sz l1[k].natAbs ≤ 1099511627776 := by have := HX.out.1 k; rw [hFk, qsz_cast] at this; omega
          have hdv : pcn F ∣ l1[k] := by have := pcn_dvd HX.out.2.1 k; rw [hFk] at this; exact this
          have hpz := pcn_ne HX.out.2.2 HX.out.2.1 HB.out.2.1
          have hps : sz (pcn F).natAbs ≤ 1099511627776 := by rw [pcn_abs]; exact cn_sz HX.out.1 (pl F)
          have hval : m[k]'(by rw [HM.out.2]; exact hkl) = l1[k] / pcn F := by
            simp only [HM.out.1, lzf_get]
            rw [pp_at HX.out.2.2 HX.out.2.1 HB.out.2.1, hFk]; rfl
          have Hq := Lib.hid (And.intro ((hq.has hqz).kd hx2.kd) (And.intro (hb.has hps) (And.intro hdv (And.intro hpz hval)))); clear hq hqz hdv hpz hps hval hFk
          have xa := fun o => (Ext.refl wr).alloc o
          obtain ⟨r0, r1⟩ := eb.cells2
          replace r0 := fun o => (xa o).cell r0
          replace r1 := fun o => (xa o).cell r1
          have Hb := Lib.hid hb; clear xa hb
          go_wp2_with fail
          refine Calls.mono (exact_z _ _ l1[k] (pcn F) _ (Hq.out.1.kd ((Ext.refl _).alloc _).kd) (Hq.out.2.1.kd ((Ext.refl _).alloc _).kd) Hq.out.2.2.2.1 Hq.out.2.2.1) ?_
          rintro e w3 ⟨r, rfl, ⟨a, rfl, hr⟩, hx3⟩
          obtain ⟨b6, A6, n6, c6, rfl⟩ := hr.cells
          replace ea := ea.ext hx3.a1
          replace eb := eb.ext hx3.a1
          have Hb' := Lib.hid (Hb.out.kd hx3.a1.kd)
          replace hx2 := hx2.trans hx3.a1
          clear hx3 q0 q1 r0 r1 Hb
          have hkla : k < la.length := by have := Hlen.out; omega
          obtain ⟨_, _, _, _, ca0, ca1, -⟩ := ea.at_ (j := k) (by first | omega | (simp; omega))
          have fa0 := ea.frozen (k * 2)
          have fa1 := ea.frozen (k * 2 + 1)
          go_wp2
          have hb := Hb'.out
          obtain ⟨W3, eW, ea', U⟩ := ea.put (k := k) (by first | omega | (simp; omega)) hr
          rw [← eW]
          clear eW ea
          replace hb := hb.kd U.kd
          replace eb := eb.upd U (by simp <;> omega)
          replace hx2 := U.from_ hx2 (by simp <;> omega)
          have ea := ea'
          clear U ea'
          go_roundw
          case rel => exact ⟨k + 1, _, by omega, by go_num, ea, by simpa using Hlen.out, set_z Hla.out hkl HM.out.2 Hq.out.2.2.2.2.symm, eb, hb, hx2⟩
          case measure => simp [intOf]; omega
        · obtain rfl : k = pl F := by omega
          have hla := Hla.out
          rw [Nat.sub_self, List.replicate_zero, List.append_nil, List.take_of_length_le (by rw [HM.out.2]; exact Nat.le_refl _), HM.out.1] at hla
          have hw : IsZP w.heap.size wr (.slice (some ⟨ga, 0, none⟩) (pl F) (pl F)) (pp F) := by
            have h1 := ZArr.whole (base := w.heap.size) (G := pp F) (c := pl F) (by rw [HB.out.2.2, ← hla]; exact ea) (pp_zi HX.out.2.2 HX.out.2.1) (pp_fin HX.out.2.1) (by omega) (by rw [HB.out.2.2]; exact Nat.le_refl _) (by omega)
            rw [HB.out.2.2] at h1
            exact h1
          have Hw := Lib.hid hw; clear hw hla
          go_wp2
          go_ret
          exact Gives.mk Hw.out (hx1.trans hx2)
  · have hp0 : pl F = 0 := by omega
    have hpz := (pl_zero HX.out.2.1).1 hp0
    have Hz := Lib.hid (And.intro hpz hp0); clear hpz
    have hb : decide ((0 : Int) < (pl F : Int)) = false := by simp; omega
    obtain ⟨W1, hmk, ea, hxa⟩ := make_zs (pl F) (pl F : Int) rfl hpl40 W0
    subst eW
    clear x0 hp0
    go_wp2
    clear hmk
    go_loopw [30] (fun iv wr => iv = .int .i64 0 ∧ Ext w1 wr) (fun iv _ => 0)
    case atStart => exact ⟨rfl, hx2.trans hxa⟩
    case round =>
      clear hx2
      obtain ⟨rfl, hx2⟩ := hrel
      have hb2 : ¬ (0 : Int) < (pl F : Int) := by omega
      go_wp2
      go_ret
      rw [Hz.out.1, pp_pz, pl_pz]
      exact Gives.mk (IsZP.empty _ _ _ _ (by omega)) (hx1.trans hx2)
end Go.Proofs.YtfacbpnegkjcgaaDoor
namespace Go.Hp
theorem take_lzf (l : List Int) : l.take (pl (cz l)) = lzf (pl (cz l)) (cz l) := by
  have h := pl_le (cz_sup l)
  apply List.ext_getElem
  · rw [lzf_len, List.length_take]; omega
  · intro i h1 h2
    have h3 : i < l.length := by rw [List.length_take] at h1; omega
    rw [lzf_get, List.getElem_take, cz_lt h3]; rfl
theorem psc_num {F G : Nat → Rat} (hF : ZI F) (hG : ZI G) (n : Nat) : (psc (ld G) F n).num = (F n).num * (ld G).num := by
  show (ld G * F n).num = _
  rw [int_ld hG, hF.num n, num_mul, Int.mul_comm]; rfl
theorem zi_pscl {F G : Nat → Rat} (hF : ZI F) (hG : ZI G) : ZI (psc (ld G) F) := by rw [int_ld hG]; exact hF.psc _
theorem psR_val {F G : Nat → Rat} {k i n : Nat} (hi : i = pl F - pl G - k) : psR F G (k + 1) n = psc (ld G) (psR F G k) n - psR F G k (pl F - 1 - k) * sh i G n := by subst hi; rfl
theorem psR_step {F G : Nat → Rat} (hF : ZI F) (hG : ZI G) {k i : Nat} (hi : i = pl F - pl G - k) (j : Nat) : (psR F G (k + 1) (i + j)).num = (psc (ld G) (psR F G k) (i + j)).num - (psR F G k (pl F - 1 - k)).num * (G j).num := by
  rw [psR_val hi, show sh i G (i + j) = G j from by unfold sh; rw [if_neg (by omega)]; congr 1; omega]
  rw [(zi_pscl (psR_zi hF hG k) hG).num (i + j), (psR_zi hF hG k).num (pl F - 1 - k), hG.num j, ← Rat.intCast_mul, num_sub]; rfl
theorem psR_low {F G : Nat → Rat} {k i n : Nat} (hi : i = pl F - pl G - k) (h : n < i) : psR F G (k + 1) n = psc (ld G) (psR F G k) n := by
  rw [psR_val hi, show sh i G n = 0 from by unfold sh; rw [if_pos h]]; grind
theorem psR_high {F G : Nat → Rat} (hG : Fin_ G) {k i n : Nat} (hi : i = pl F - pl G - k) (h : i + pl G ≤ n) : psR F G (k + 1) n = psc (ld G) (psR F G k) n := by
  rw [psR_val hi, show sh i G n = 0 from by unfold sh; rw [if_neg (by omega)]; exact pl_sup hG _ (by omega)]; grind
theorem psQ_step {F G : Nat → Rat} {k i : Nat} (hi : i = pl F - pl G - k) (h0 : psQ F G k i = 0) (n : Nat) : (psQ F G (k + 1) n).num = if n = i then (psR F G k (pl F - 1 - k)).num else (psc (ld G) (psQ F G k) n).num := by
  have e : psQ F G (k + 1) n = psc (ld G) (psQ F G k) n + mono i (psR F G k (pl F - 1 - k)) n := by subst hi; rfl
  rw [e]
  by_cases hn : n = i
  · subst hn
    rw [if_pos rfl, mono_at, show psc (ld G) (psQ F G k) n = ld G * psQ F G k n from rfl, h0]
    congr 1; grind
  · rw [if_neg hn, mono_off hn]
    congr 1; grind
end Go.Hp
namespace Go.Proofs.YtfacbpnegkjcgaaDoor
open Go.RowKit Go.Hp
set_option maxRecDepth 40000 in
set_option maxHeartbeats 16000000 in
theorem pdiv_z (v u : Value) (l m : List Int) (s t : Nat) (w : World) (hv : HzV 0 w v l) (hu : HzV 0 w u m) (hs : ∀ i, qsz (cz l i) ≤ s) (ht : ∀ i, qsz (cz m i) ≤ t) (hn : l.length ≤ 549755813888) (hm : m.length ≤ 549755813888) (h0 : cz m ≠ pz) (hst : s + (l.length + 1) * (t + 1) + t ≤ 1099511627776) :
    Calls Tryd.prog 25 #[v, u] w (Gives w (TupPs w.heap.size (psQ (cz l) (cz m) (pl (cz l) + 1 - pl (cz m))) (psR (cz l) (cz m) (pl (cz l) + 1 - pl (cz m))))) := by
  have HV := Lib.hid hv; have HU := Lib.hid hu
  obtain ⟨A0, c0, rfl⟩ := hv.len
  obtain ⟨A1, c1, rfl⟩ := hu.len
  clear hv hu
  have hN1 := normal_zarr _ l w HV.out (by omega)
  rw [trimZ_pl] at hN1
  have hN2 := fun W (x : Ext w W) => normal_zarr _ m W (HU.out.ext x) (by omega)
  simp only [trimZ_pl] at hN2
  have hc1 := pl_le (cz_sup l)
  have hc2 := pl_le (cz_sup m)
  have hfF := Fin_.cz l; have hzF := ZI.cz l; have hfG := Fin_.cz m; have hzG := ZI.cz m
  have hL := pl_pos hfG h0
  have ht1 := take_lzf l; have ht2 := take_lzf m
  obtain ⟨F, hF⟩ : ∃ F, F = cz l := ⟨_, rfl⟩
  obtain ⟨G, hG⟩ : ∃ G, G = cz m := ⟨_, rfl⟩
  rw [← hF] at hN1 hs hc1 hfF hzF ht1
  rw [← hG] at hc2 hfG hzG hL ht h0 ht2
  simp only [← hG] at hN2
  rw [← hF, ← hG]
  obtain ⟨P, hP⟩ : ∃ P, P = pl F := ⟨_, rfl⟩
  obtain ⟨L, hLe⟩ : ∃ L, L = pl G := ⟨_, rfl⟩
  obtain ⟨K, hK⟩ : ∃ K, K = pl F + 1 - pl G := ⟨_, rfl⟩
  have HB := Lib.hid (show (∀ k i, k ≤ K → sz (psR F G k i).num.natAbs ≤ 1099511627776) ∧ (∀ k i, k ≤ K → sz (psc (ld G) (psR F G k) i).num.natAbs ≤ 1099511627776) ∧ (∀ k i j, k ≤ K → sz ((psR F G k i).num * (G j).num).natAbs ≤ 1099511627776) ∧ (∀ k i, k ≤ K → pl G ≤ pl F → sz (psQ F G k i).num.natAbs ≤ 1099511627776) ∧ sz (ld G).num.natAbs ≤ 1099511627776 ∧ (∀ j, sz (G j).num.natAbs ≤ 1099511627776) by
    have key : ∀ k, k ≤ K → k * (t + 1) ≤ (l.length + 1) * (t + 1) := fun k hk => Nat.mul_le_mul_right _ (by omega)
    have g1 : ∀ j, sz (G j).num.natAbs ≤ t := fun j => Nat.le_trans (qsz_nm _) (ht j)
    have g2 : sz (ld G).num.natAbs ≤ t := g1 _
    refine ⟨fun k i hk => ?_, fun k i hk => ?_, fun k i j hk => ?_, fun k i hk hle => ?_, by omega, fun j => by have := g1 j; omega⟩
    · have a1 := psR_qsz hzF hzG hs ht k i; have a2 := qsz_nm (psR F G k i); have a3 := key k hk; omega
    · have a1 := psR_qsz hzF hzG hs ht k i; have a2 := qsz_nm (psR F G k i); have a3 := key k hk
      rw [psc_num (psR_zi hzF hzG k) hzG]
      have a4 := mul_sz2 a2 g2; omega
    · have a1 := psR_qsz hzF hzG hs ht k i; have a2 := qsz_nm (psR F G k i); have a3 := key k hk
      have a4 := mul_sz2 a2 (g1 j); omega
    · have a1 := psQ_qsz hzF hzG hs ht hle k (by omega) i; have a2 := qsz_nm (psQ F G k i); have a3 := key k hk; omega)
  have HX := Lib.hid (And.intro hfF (And.intro hzF (And.intro hfG (And.intro hzG (And.intro h0 (And.intro hF hG))))))
  have HP := Lib.hid (And.intro hP (And.intro hLe hK))
  rw [← hP] at hc1 hN1 ht1
  rw [← hLe] at hc2 hL ht2
  simp only [← hLe] at hN2
  have HN1 := Lib.hid hN1; have HN2 := Lib.hid hN2
  have HT := Lib.hid (And.intro ht1 ht2)
  have hKe : K = P + 1 - L := by rw [hP, hLe]; exact hK
  clear hs ht hst hfF hzF hfG hzG h0 hF hG hP hLe hK ht1 ht2 hN1 hN2
  rw [← HP.out.2.2]
  have hb1 : ((L : Int) == 0) = false := by simpa using (show L ≠ 0 by omega)
  go_enter Tryd.func25, Tryd.ntmps25
  go_wp2_with fail
  refine Calls.mono HN1.out ?_
  rintro e w1 ⟨r1, rfl, ⟨rfl, er⟩, hx⟩
  have hg1 := er.lt
  go_wp2_with fail
  refine Calls.mono (HN2.out w1 hx) ?_
  rintro e w2 ⟨r2, rfl, ⟨rfl, eg⟩, hx2⟩
  have hg2 := eg.lt
  replace er := er.ext hx2
  replace hx := hx.trans hx2
  clear hx2
  by_cases hlt : P < L
  · have hK0 : K = 0 := by omega
    have Hr := Lib.hid (show IsZP w.heap.size w2 (.slice (some ⟨w.heap.size, 0, none⟩) P l.length) F by
      have h1 := er.isZP (F := F) HX.out.2.2.2.2.2.1.symm (Nat.le_refl _) (c := l.length) (Nat.le_refl _) (by omega)
      rw [trimZ_pl, ← HX.out.2.2.2.2.2.1, ← HP.out.1] at h1; exact h1)
    have hb2 : decide ((P : Int) < L) = true := by simpa using hlt
    clear er eg hKe
    go_wp2
    go_ret3
    rw [hK0]
    exact Gives.mk ⟨_, _, rfl, IsZP.nil _ _, Hr.out⟩ hx
  · have hb2 : decide ((P : Int) < L) = false := by simpa using hlt
    have hK1 : P + 1 = K + L := by omega
    have hKp : 0 < K := by omega
    have HK := Lib.hid hK1
    replace er := er.pre P
    rw [HT.out.1] at er
    replace eg := eg.pre L
    rw [HT.out.2] at eg
    obtain ⟨W0, hmk, eq, hxq⟩ := make_zs K ((P : Int) - L + 1) (by omega) (by omega) w2
    replace er := er.ext hxq
    replace eg := eg.ext hxq
    replace hx := hx.trans hxq
    have hg3 := eq.lt
    rw [← lzf_rep] at eq
    have hK40 : K ≤ 1099511627776 := by omega
    clear hK1 hKe
    generalize hgG : w1.heap.size = gG at *
    generalize hgq : w2.heap.size = gq at *
    go_wp2
    clear hmk hxq
    go_loopw [7] (fun iv wr => ∃ k : Nat, k ≤ K ∧ iv = .int .i64 ((K : Int) - 1 - k) ∧ ZArr wr w.heap.size 28 (lzf P (psR F G k)) ∧ ZArr wr gq 28 (lzf K (psQ F G k)) ∧ ZArr wr gG 28 (lzf L G) ∧ Ext w wr) (fun iv _ => (intOf iv + 1).toNat)
    case atStart => exact ⟨0, Nat.zero_le _, by go_num, er, eq, eg, hx⟩
    case round =>
      clear er eq eg hx
      obtain ⟨k, hk, rfl, er, eq, eg, hx⟩ := hrel
      by_cases hkl : k < K
      · obtain ⟨i, hi⟩ : ∃ i, i = K - 1 - k := ⟨_, rfl⟩
        have hii : (K : Int) - 1 - k = (i : Int) := by omega
        rw [hii]
        have hik : i < K := by omega
        have HI := Lib.hid (show i = pl F - pl G - k ∧ i + L - 1 = pl F - 1 - k ∧ (i : Int) - 1 = (K : Int) - 1 - (k + 1 : Nat) ∧ i + L ≤ P ∧ i + k < pl F + 1 - pl G ∧ pl G ≤ pl F by
          have h1 := HK.out; have h2 := HP.out.1; have h3 := HP.out.2.1
          refine ⟨?_, ?_, ?_, ?_, ?_, ?_⟩ <;> omega)
        clear hi hii
        have hiL : i + L - 1 < P := by have := HI.out.2.2.2.1; omega
        obtain ⟨z0, Z0, zn0, zc0, cr0, cr1, hzc⟩ := er.at_ (j := i + L - 1) (by rw [lzf_len]; exact hiL)
        rw [lzf_get] at hzc
        have hgc := eq.lt
        have hLP : ((i : Int) + L - 1).toNat = i + L - 1 := by omega
        go_wp2_with fail
        obtain ⟨W8, eW8, e8, x8⟩ := Box.made wr 28 #[.bool z0, .slice Z0 zn0 zc0] (by simp [isDig])
        rw [← eW8]
        clear eW8 cr0 cr1 hLP
        have ec := BoxZ.mk e8 (hzc.kd x8.kd)
        replace er := er.ext x8
        replace eq := eq.ext x8
        replace eg := eg.ext x8
        replace hx := hx.trans x8
        clear x8
        clear hzc e8
        generalize wr.heap.size = gc at *
        generalize hcv : (psR F G k (i + L - 1)).num = cv at *
        have HC := Lib.hid (show cv = (psR F G k (pl F - 1 - k)).num ∧ sz cv.natAbs ≤ 1099511627776 ∧ ∀ j, sz (cv * (G j).num).natAbs ≤ 1099511627776 by
          subst hcv
          exact ⟨by rw [HI.out.2.1], HB.out.1 _ _ hk, fun j => HB.out.2.2.1 _ _ j hk⟩)
        clear hcv hiL
        go_loopw [50] (fun jv wx => ∃ j : Nat, j ≤ P ∧ jv = .int .i64 j ∧ ZArr wx w.heap.size 28 (lzf P (mx j (psc (ld G) (psR F G k)) (psR F G k))) ∧ ZArr wx gq 28 (lzf K (psQ F G k)) ∧ ZArr wx gG 28 (lzf L G) ∧ BoxZ wx gc 28 cv ∧ Ext w wx) (fun jv _ => P - (intOf jv).toNat)
        case atStart => exact ⟨0, Nat.zero_le _, rfl, by rw [mx_zero]; exact er, eq, eg, ec, hx⟩
        case round =>
          clear er eq eg ec hx
          obtain ⟨j, hj, rfl, er, eq, eg, ec, hx⟩ := hrel
          by_cases hjl : j < P
          · obtain ⟨z1, Z1, zn1, zc1, ca0, ca1, hz⟩ := er.at_ (j := j) (by rw [lzf_len]; exact hjl)
            rw [lzf_get, mx_at] at hz
            have Hz := Lib.hid (And.intro hz (show IsZP w.heap.size _ (.slice (some ⟨gG, 0, none⟩) L m.length) G by
              have h1 := eg
              have h2 := HP.out.2.1
              rw [h2] at h1
              rw [h2]
              exact h1.whole HX.out.2.2.2.1 HX.out.2.2.1 (by omega) (by omega) (by omega)))
            clear hz
            go_wp2_with fail
            refine wp_region_par (k := 9) (D := [53, 54, 55, 56, 57, 58, 59, 60, 61]) (T := [[], [], [], [], [2, 3], [2, 3, 4], [], [6], [2, 3, 4, 5, 6, 7], [0, 1, 2, 3, 4, 5, 6, 7, 8], [0, 1, 2, 3, 4, 5, 6, 7, 8, 9]]) (EK := [5, 9, 1]) (EV := [?e1x0, ?e1x1, ?e1x2]) (VL := [(kv ?v1x0), (kv ?v1x1), (kv ?v1x2), (kv ?v1x3), (kv ?v1x4), (kv ?v1x5), (kv ?v1x6), (fun γ => γ 7), (fun γ => γ 8)]) (FL := fun γ w' => [True, True, True, True, True, True, True, IsZ w' (γ 7) (ld G).num, IsZ w' (γ 8) ((psR F G k j).num * (ld G).num)]) ?hE1 (by kernel_rfl) (by kernel_rfl) (by rfl) (by kernel_rfl) ?hloc1 ?hmono1 ?hstep1 ?htail1
            case hE1 => refine ⟨?_, ?_, ?_, trivial⟩ <;> (simp only [List.getElem?_toArray, List.getElem?_cons_succ, List.getElem?_cons_zero]; rfl)
            case hstep1 =>
              refine ⟨⟨⟨⟨⟨⟨⟨⟨⟨trivial, ?_⟩, ?_⟩, ?_⟩, ?_⟩, ?_⟩, ?_⟩, ?_⟩, ?_⟩, ?_⟩
              · intro γ w' he hf; clear hf; refine ⟨trivial, ?_⟩; intro R hR
                have hc := he.cells
                go_simp
                (try go_ints); (try (rw [if_neg (by omega)])); (try (rw [if_pos (by omega)])); (try go_simp); (try go_ints)
                refine hR _ _ (Ext.refl _) ?_ trivial
                rfl
              · intro γ w' he hf; clear hf; refine ⟨trivial, ?_⟩; intro R hR
                have hc := he.cells
                go_simp
                (try go_ints); (try (rw [if_neg (by omega)])); (try (rw [if_pos (by omega)])); (try go_simp); (try go_ints)
                refine hR _ _ (Ext.refl _) ?_ trivial
                rfl
              · intro γ w' he hf; clear hf; refine ⟨trivial, ?_⟩; intro R hR
                have hc := he.cells
                go_simp
                (try go_ints); (try (rw [if_neg (by omega)])); (try (rw [if_pos (by omega)])); (try go_simp); (try go_ints)
                refine hR _ _ (Ext.refl _) ?_ trivial
                rfl
              · intro γ w' he hf; clear hf; refine ⟨trivial, ?_⟩; intro R hR
                have hc := he.cells
                go_simp
                (try go_ints); (try (rw [if_neg (by omega)])); (try (rw [if_pos (by omega)])); (try go_simp); (try go_ints)
                refine hR _ _ (Ext.refl _) ?_ trivial
                rfl
              · intro γ w' he hf; clear hf; refine ⟨trivial, ?_⟩; intro R hR
                have hc := he.cells
                go_simp
                (try go_ints); (try (rw [if_neg (by omega)])); (try (rw [if_pos (by omega)])); (try go_simp); (try go_ints)
                refine hR _ _ (Ext.refl _) ?_ trivial
                rfl
              · intro γ w' he hf; clear hf; refine ⟨trivial, ?_⟩; intro R hR
                have hc := he.cells
                have cq0 := he.cell ca0
                have cq1 := he.cell ca1
                go_simp
                (try go_ints); (try (rw [if_neg (by omega)])); (try (rw [if_pos (by omega)])); (try go_simp); (try go_ints)
                refine hR _ _ (Ext.refl _) ?_ trivial
                rfl
              · intro γ w' he hf; clear hf; refine ⟨trivial, ?_⟩; intro R hR
                have hc := he.cells
                go_simp
                (try go_ints); (try (rw [if_neg (by omega)])); (try (rw [if_pos (by omega)])); (try go_simp); (try go_ints)
                refine hR _ _ (Ext.refl _) ?_ trivial
                rfl
              · intro γ w' he hf; clear hf; refine ⟨trivial, ?_⟩; intro R hR
                go_simp
                refine Calls.mono (show Calls _ _ _ w' (Gives w' fun r w'' => IsZ w'' (r) (ld G).num) from lead_z _ w.heap.size G w' (Hz.out.2.ext he) HX.out.2.2.2.2.1) ?_
                rintro e w2 ⟨v, rfl, hv, hx⟩
                exact ⟨v, rfl, hR v w2 hx rfl hv⟩
              · intro γ w' he hf; have f7 : IsZ w' (γ 7) (ld G).num := hf 7 (by decide); clear hf; refine ⟨trivial, ?_⟩; intro R hR
                go_simp
                refine Calls.mono (show Calls _ _ _ w' (Gives w' fun r w'' => IsZ w'' (r) ((psR F G k j).num * (ld G).num)) from mul_z _ _ _ _ w' ((Hz.out.1.kd he.kd).has (HB.out.1 _ _ hk)) (f7.has HB.out.2.2.2.2.1)) ?_
                rintro e w2 ⟨v, rfl, hv, hx⟩
                exact ⟨v, rfl, hR v w2 hx rfl hv⟩
            case hloc1 =>
              exact ⟨⟨⟨⟨⟨⟨⟨⟨⟨trivial, (fun γ γ' h => ⟨rfl, fun _ => rfl⟩)⟩, (fun γ γ' h => ⟨rfl, fun _ => rfl⟩)⟩, (fun γ γ' h => ⟨rfl, fun _ => rfl⟩)⟩, (fun γ γ' h => ⟨rfl, fun _ => rfl⟩)⟩, (fun γ γ' h => ⟨rfl, fun _ => rfl⟩)⟩, (fun γ γ' h => ⟨rfl, fun _ => rfl⟩)⟩, (fun γ γ' h => ⟨rfl, fun _ => rfl⟩)⟩, (fun γ γ' h => ⟨h 7 rfl, fun w' => (congrArg (fun a => IsZ w' (a) (ld G).num) (h 7 rfl))⟩)⟩, (fun γ γ' h => ⟨h 8 rfl, fun w' => (congrArg (fun a => IsZ w' (a) ((psR F G k j).num * (ld G).num)) (h 8 rfl))⟩)⟩
            case hmono1 =>
              exact ⟨⟨⟨⟨⟨⟨⟨⟨⟨trivial, (fun γ wA w' e h => h)⟩, (fun γ wA w' e h => h)⟩, (fun γ wA w' e h => h)⟩, (fun γ wA w' e h => h)⟩, (fun γ wA w' e h => h)⟩, (fun γ wA w' e h => h)⟩, (fun γ wA w' e h => h)⟩, (fun γ wA w' e h => (show IsZ wA (γ 7) (ld G).num from h).ext e)⟩, (fun γ wA w' e h => (show IsZ wA (γ 8) ((psR F G k j).num * (ld G).num) from h).ext e)⟩
            intro γ w6 hx6 hF
            have p7 : IsZ w6 (γ 7) (ld G).num := Each.get hF 7 (by decide)
            have p8 : IsZ w6 (γ 8) ((psR F G k j).num * (ld G).num) := Each.get hF 8 (by decide)
            clear hF
            simp only [fillAll, gV, kv, List.getD_cons_zero, List.getD_cons_succ, Act.put, List.setIfInBounds_toArray, List.set_cons_zero, List.set_cons_succ, List.toList_toArray, List.drop_succ_cons, List.drop_zero, List.drop_nil, Nat.zero_add, Nat.reduceAdd]
            generalize γ 7 = g7 at *
            generalize γ 8 = g8 at *
            clear γ
            clear p7 Hz ca0 ca1
            replace er := er.ext hx6
            replace eq := eq.ext hx6
            replace eg := eg.ext hx6
            replace ec := ec.ext hx6
            replace hx := hx.trans hx6
            clear hx6
            obtain ⟨b5, A5, n5, c5, rfl⟩ := p8.cells
            have hkf : j < (lzf P (mx j (psc (ld G) (psR F G k)) (psR F G k))).length := by rw [lzf_len]; exact hjl
            have Hkf := Lib.hid hkf
            obtain ⟨_, _, _, _, ca0, ca1, -⟩ := er.at_ (j := j) (by first | omega | (simp; omega))
            have fa0 := er.frozen (j * 2)
            have fa1 := er.frozen (j * 2 + 1)
            clear hkf
            go_wp2
            have hkf := Hkf.out
            obtain ⟨W7, eW, er', U⟩ := er.put (k := j) (by first | omega | (simp; omega)) p8
            rw [← eW]
            clear eW er
            replace eq := eq.upd U (by simp <;> omega)
            replace eg := eg.upd U (by simp <;> omega)
            replace ec := ec.upd U (by simp <;> omega)
            replace hx := U.from_ hx (by simp <;> omega)
            have er := er'
            clear U er'
            go_roundw
            case rel => exact ⟨j + 1, by omega, by go_num, by
              rw [← psc_num (psR_zi HX.out.2.1 HX.out.2.2.2.1 k) HX.out.2.2.2.1, mx_set] at er
              exact er, eq, eg, ec, hx⟩
            case measure => simp [intOf]; omega
          · obtain rfl : P = j := by omega
            rw [mx_all (Nat.le_refl _)] at er
            go_wp2
            go_loopw [66] (fun jv wx => ∃ j : Nat, j ≤ K ∧ jv = .int .i64 j ∧ ZArr wx w.heap.size 28 (lzf P (psc (ld G) (psR F G k))) ∧ ZArr wx gq 28 (lzf K (mx j (psc (ld G) (psQ F G k)) (psQ F G k))) ∧ ZArr wx gG 28 (lzf L G) ∧ BoxZ wx gc 28 cv ∧ Ext w wx) (fun jv _ => K - (intOf jv).toNat)
            case atStart => exact ⟨0, Nat.zero_le _, rfl, er, by rw [mx_zero]; exact eq, eg, ec, hx⟩
            case round =>
              clear er eq eg ec hx hjl hj
              obtain ⟨j, hj, rfl, er, eq, eg, ec, hx⟩ := hrel
              by_cases hjl : j < K
              · obtain ⟨z1, Z1, zn1, zc1, ca0, ca1, hz⟩ := eq.at_ (j := j) (by rw [lzf_len]; exact hjl)
                rw [lzf_get, mx_at] at hz
                have Hz := Lib.hid (And.intro hz (show IsZP w.heap.size _ (.slice (some ⟨gG, 0, none⟩) L m.length) G by
                  have h1 := eg
                  have h2 := HP.out.2.1
                  rw [h2] at h1
                  rw [h2]
                  exact h1.whole HX.out.2.2.2.1 HX.out.2.2.1 (by omega) (by omega) (by omega)))
                clear hz
                go_wp2_with fail
                refine wp_region_par (k := 9) (D := [69, 70, 71, 72, 73, 74, 75, 76, 77]) (T := [[], [], [], [], [2, 3], [2, 3, 4], [], [6], [2, 3, 4, 5, 6, 7], [0, 1, 2, 3, 4, 5, 6, 7, 8], [0, 1, 2, 3, 4, 5, 6, 7, 8, 9]]) (EK := [4, 10, 1]) (EV := [?e2x0, ?e2x1, ?e2x2]) (VL := [(kv ?v2x0), (kv ?v2x1), (kv ?v2x2), (kv ?v2x3), (kv ?v2x4), (kv ?v2x5), (kv ?v2x6), (fun γ => γ 7), (fun γ => γ 8)]) (FL := fun γ w' => [True, True, True, True, True, True, True, IsZ w' (γ 7) (ld G).num, IsZ w' (γ 8) ((psQ F G k j).num * (ld G).num)]) ?hE2 (by kernel_rfl) (by kernel_rfl) (by rfl) (by kernel_rfl) ?hloc2 ?hmono2 ?hstep2 ?htail2
                case hE2 => refine ⟨?_, ?_, ?_, trivial⟩ <;> (simp only [List.getElem?_toArray, List.getElem?_cons_succ, List.getElem?_cons_zero]; rfl)
                case hstep2 =>
                  refine ⟨⟨⟨⟨⟨⟨⟨⟨⟨trivial, ?_⟩, ?_⟩, ?_⟩, ?_⟩, ?_⟩, ?_⟩, ?_⟩, ?_⟩, ?_⟩
                  · intro γ w' he hf; clear hf; refine ⟨trivial, ?_⟩; intro R hR
                    have hc := he.cells
                    go_simp
                    (try go_ints); (try (rw [if_neg (by omega)])); (try (rw [if_pos (by omega)])); (try go_simp); (try go_ints)
                    refine hR _ _ (Ext.refl _) ?_ trivial
                    rfl
                  · intro γ w' he hf; clear hf; refine ⟨trivial, ?_⟩; intro R hR
                    have hc := he.cells
                    go_simp
                    (try go_ints); (try (rw [if_neg (by omega)])); (try (rw [if_pos (by omega)])); (try go_simp); (try go_ints)
                    refine hR _ _ (Ext.refl _) ?_ trivial
                    rfl
                  · intro γ w' he hf; clear hf; refine ⟨trivial, ?_⟩; intro R hR
                    have hc := he.cells
                    go_simp
                    (try go_ints); (try (rw [if_neg (by omega)])); (try (rw [if_pos (by omega)])); (try go_simp); (try go_ints)
                    refine hR _ _ (Ext.refl _) ?_ trivial
                    rfl
                  · intro γ w' he hf; clear hf; refine ⟨trivial, ?_⟩; intro R hR
                    have hc := he.cells
                    go_simp
                    (try go_ints); (try (rw [if_neg (by omega)])); (try (rw [if_pos (by omega)])); (try go_simp); (try go_ints)
                    refine hR _ _ (Ext.refl _) ?_ trivial
                    rfl
                  · intro γ w' he hf; clear hf; refine ⟨trivial, ?_⟩; intro R hR
                    have hc := he.cells
                    go_simp
                    (try go_ints); (try (rw [if_neg (by omega)])); (try (rw [if_pos (by omega)])); (try go_simp); (try go_ints)
                    refine hR _ _ (Ext.refl _) ?_ trivial
                    rfl
                  · intro γ w' he hf; clear hf; refine ⟨trivial, ?_⟩; intro R hR
                    have hc := he.cells
                    have cq0 := he.cell ca0
                    have cq1 := he.cell ca1
                    go_simp
                    (try go_ints); (try (rw [if_neg (by omega)])); (try (rw [if_pos (by omega)])); (try go_simp); (try go_ints)
                    refine hR _ _ (Ext.refl _) ?_ trivial
                    rfl
                  · intro γ w' he hf; clear hf; refine ⟨trivial, ?_⟩; intro R hR
                    have hc := he.cells
                    go_simp
                    (try go_ints); (try (rw [if_neg (by omega)])); (try (rw [if_pos (by omega)])); (try go_simp); (try go_ints)
                    refine hR _ _ (Ext.refl _) ?_ trivial
                    rfl
                  · intro γ w' he hf; clear hf; refine ⟨trivial, ?_⟩; intro R hR
                    go_simp
                    refine Calls.mono (show Calls _ _ _ w' (Gives w' fun r w'' => IsZ w'' (r) (ld G).num) from lead_z _ w.heap.size G w' (Hz.out.2.ext he) HX.out.2.2.2.2.1) ?_
                    rintro e w2 ⟨v, rfl, hv, hx⟩
                    exact ⟨v, rfl, hR v w2 hx rfl hv⟩
                  · intro γ w' he hf; have f7 : IsZ w' (γ 7) (ld G).num := hf 7 (by decide); clear hf; refine ⟨trivial, ?_⟩; intro R hR
                    go_simp
                    refine Calls.mono (show Calls _ _ _ w' (Gives w' fun r w'' => IsZ w'' (r) ((psQ F G k j).num * (ld G).num)) from mul_z _ _ _ _ w' ((Hz.out.1.kd he.kd).has (HB.out.2.2.2.1 _ _ hk HI.out.2.2.2.2.2)) (f7.has HB.out.2.2.2.2.1)) ?_
                    rintro e w2 ⟨v, rfl, hv, hx⟩
                    exact ⟨v, rfl, hR v w2 hx rfl hv⟩
                case hloc2 =>
                  exact ⟨⟨⟨⟨⟨⟨⟨⟨⟨trivial, (fun γ γ' h => ⟨rfl, fun _ => rfl⟩)⟩, (fun γ γ' h => ⟨rfl, fun _ => rfl⟩)⟩, (fun γ γ' h => ⟨rfl, fun _ => rfl⟩)⟩, (fun γ γ' h => ⟨rfl, fun _ => rfl⟩)⟩, (fun γ γ' h => ⟨rfl, fun _ => rfl⟩)⟩, (fun γ γ' h => ⟨rfl, fun _ => rfl⟩)⟩, (fun γ γ' h => ⟨rfl, fun _ => rfl⟩)⟩, (fun γ γ' h => ⟨h 7 rfl, fun w' => (congrArg (fun a => IsZ w' (a) (ld G).num) (h 7 rfl))⟩)⟩, (fun γ γ' h => ⟨h 8 rfl, fun w' => (congrArg (fun a => IsZ w' (a) ((psQ F G k j).num * (ld G).num)) (h 8 rfl))⟩)⟩
                case hmono2 =>
                  exact ⟨⟨⟨⟨⟨⟨⟨⟨⟨trivial, (fun γ wA w' e h => h)⟩, (fun γ wA w' e h => h)⟩, (fun γ wA w' e h => h)⟩, (fun γ wA w' e h => h)⟩, (fun γ wA w' e h => h)⟩, (fun γ wA w' e h => h)⟩, (fun γ wA w' e h => h)⟩, (fun γ wA w' e h => (show IsZ wA (γ 7) (ld G).num from h).ext e)⟩, (fun γ wA w' e h => (show IsZ wA (γ 8) ((psQ F G k j).num * (ld G).num) from h).ext e)⟩
                intro γ w6 hx6 hF
                have p7 : IsZ w6 (γ 7) (ld G).num := Each.get hF 7 (by decide)
                have p8 : IsZ w6 (γ 8) ((psQ F G k j).num * (ld G).num) := Each.get hF 8 (by decide)
                clear hF
                simp only [fillAll, gV, kv, List.getD_cons_zero, List.getD_cons_succ, Act.put, List.setIfInBounds_toArray, List.set_cons_zero, List.set_cons_succ, List.toList_toArray, List.drop_succ_cons, List.drop_zero, List.drop_nil, Nat.zero_add, Nat.reduceAdd]
                generalize γ 7 = g7 at *
                generalize γ 8 = g8 at *
                clear γ
                clear p7 Hz ca0 ca1
                replace er := er.ext hx6
                replace eq := eq.ext hx6
                replace eg := eg.ext hx6
                replace ec := ec.ext hx6
                replace hx := hx.trans hx6
                clear hx6
                obtain ⟨b5, A5, n5, c5, rfl⟩ := p8.cells
                have hkf : j < (lzf K (mx j (psc (ld G) (psQ F G k)) (psQ F G k))).length := by rw [lzf_len]; exact hjl
                have Hkf := Lib.hid hkf
                obtain ⟨_, _, _, _, ca0, ca1, -⟩ := eq.at_ (j := j) (by first | omega | (simp; omega))
                have fa0 := eq.frozen (j * 2)
                have fa1 := eq.frozen (j * 2 + 1)
                clear hkf
                go_wp2
                have hkf := Hkf.out
                obtain ⟨W7, eW, eq', U⟩ := eq.put (k := j) (by first | omega | (simp; omega)) p8
                rw [← eW]
                clear eW eq
                replace er := er.upd U (by simp <;> omega)
                replace eg := eg.upd U (by simp <;> omega)
                replace ec := ec.upd U (by simp <;> omega)
                replace hx := U.from_ hx (by simp <;> omega)
                have eq := eq'
                clear U eq'
                go_roundw
                case rel => exact ⟨j + 1, by omega, by go_num, er, by
                  rw [← psc_num (psQ_zi HX.out.2.1 HX.out.2.2.2.1 k) HX.out.2.2.2.1, mx_set] at eq
                  exact eq, eg, ec, hx⟩
                case measure => simp [intOf]; omega
              · obtain rfl : K = j := by omega
                rw [mx_all (Nat.le_refl _)] at eq
                obtain ⟨b, B, bn, bc, e8, hb⟩ := ec
                have Hb := Lib.hid hb; clear hb
                obtain ⟨ce80, ce81⟩ := e8.cells2
                have fe8 := e8.frozen
                go_wp2_with fail
                refine Calls.mono (normal_z _ _ _ (Hb.out.has HC.out.2.1)) ?_
                rintro e w3 ⟨r, rfl, hr, hx3⟩
                have hb := Hb.out.kd hx3.kd
                clear ce80 ce81 fe8 Hb
                replace er := er.ext hx3
                replace eq := eq.ext hx3
                replace eg := eg.ext hx3
                replace e8 := e8.ext hx3
                replace hx := hx.trans hx3
                clear hx3
                obtain ⟨b5, A5, n5, c5, rfl⟩ := hr.cells
                have hkf : i < (lzf K (psc (ld G) (psQ F G k))).length := by rw [lzf_len]; exact hik
                have Hkf := Lib.hid hkf
                have Hb := Lib.hid hb; clear hb
                obtain ⟨_, _, _, _, ca0, ca1, -⟩ := eq.at_ (j := i) (by first | omega | (simp; omega))
                have fa0 := eq.frozen (i * 2)
                have fa1 := eq.frozen (i * 2 + 1)
                clear hkf
                go_wp2
                have hkf := Hkf.out
                have hb := Hb.out
                obtain ⟨W7, eW, eq', U⟩ := eq.put (k := i) (by first | omega | (simp; omega)) hr
                rw [← eW]
                clear eW eq
                replace hb := hb.kd U.kd
                replace er := er.upd U (by simp <;> omega)
                replace eg := eg.upd U (by simp <;> omega)
                replace e8 := e8.upd U (by simp <;> omega)
                replace hx := U.from_ hx (by simp <;> omega)
                have eq := eq'
                clear U eq'
                rw [lzf_set (G := psQ F G (k + 1)) (fun n => by rw [psQ_step HI.out.1 ((psQ_sup HI.out.2.2.2.2.2 k (by have := HI.out.2.2.2.2.1; omega)).2 i HI.out.2.2.2.2.1), HC.out.1])] at eq
                have ec := BoxZ.mk e8 hb
                clear e8 hb Hb Hkf hkf
                go_loopw [87] (fun jv wx => ∃ j : Nat, j ≤ L ∧ jv = .int .i64 j ∧ ZArr wx w.heap.size 28 (lzf P (mx (i + j) (psR F G (k + 1)) (psc (ld G) (psR F G k)))) ∧ ZArr wx gq 28 (lzf K (psQ F G (k + 1))) ∧ ZArr wx gG 28 (lzf L G) ∧ BoxZ wx gc 28 cv ∧ Ext w wx) (fun jv _ => L - (intOf jv).toNat)
                case atStart => exact ⟨0, Nat.zero_le _, rfl, by rw [Nat.add_zero, mx_from (fun n hn => psR_low HI.out.1 hn)]; exact er, eq, eg, ec, hx⟩
                case round =>
                  clear er eq eg ec hx hj hjl
                  obtain ⟨j, hj, rfl, er, eq, eg, ec, hx⟩ := hrel
                  by_cases hjl : j < L
                  · obtain ⟨y1, Y1, yn1, yc1, q0, q1, hy⟩ := eg.at_ (j := j) (by rw [lzf_len]; exact hjl)
                    rw [lzf_get] at hy
                    have Hy := Lib.hid hy; clear hy
                    have hne := ec.lt
                    have hne2 := eq.lt
                    go_wp2_with fail
                    obtain ⟨W10, eW10, e10, x10⟩ := Box.made wr 28 #[.bool y1, .slice Y1 yn1 yc1] (by simp [isDig])
                    rw [← eW10]
                    clear eW10 q0 q1
                    have hy := Hy.out.kd x10.kd
                    replace er := er.ext x10
                    replace eq := eq.ext x10
                    replace eg := eg.ext x10
                    replace ec := ec.ext x10
                    replace hx := hx.trans x10
                    clear x10
                    obtain ⟨b, B, bn, bc, e8, hb⟩ := ec
                    have hij : i + j < P := by have := HI.out.2.2.2.1; omega
                    obtain ⟨z1, Z1, zn1, zc1, ca0, ca1, hz⟩ := er.at_ (j := i + j) (by rw [lzf_len]; exact hij)
                    rw [lzf_get, mx_at] at hz
                    have Hz := Lib.hid (And.intro hz (And.intro hb hy)); clear hz hb hy Hy
                    obtain ⟨ce80, ce81⟩ := e8.cells2
                    have fe8 := e8.frozen
                    obtain ⟨ce100, ce101⟩ := e10.cells2
                    have fe10 := e10.frozen
                    go_wp2_with fail
                    refine wp_region_par (k := 14) (D := [92, 93, 94, 95, 96, 97, 98, 99, 100, 101, 102, 103, 104, 105]) (T := [[], [], [], [1, 2], [], [], [], [5, 6], [4, 5, 6, 7], [4, 5, 6, 7, 8], [], [], [10, 11], [4, 5, 6, 7, 8, 9, 10, 11, 12], [0, 1, 2, 3, 4, 5, 6, 7, 8, 9, 10, 11, 12, 13], [0, 1, 2, 3, 4, 5, 6, 7, 8, 9, 10, 11, 12, 13, 14]]) (EK := [5, 7, 11, 8, 12]) (EV := [?e3x0, ?e3x1, ?e3x2, ?e3x3, ?e3x4]) (VL := [(kv ?v3x0), (kv ?v3x1), (kv ?v3x2), (kv ?v3x3), (kv ?v3x4), (kv ?v3x5), (kv ?v3x6), (kv ?v3x7), (kv ?v3x8), (kv ?v3x9), (kv ?v3x10), (kv ?v3x11), (fun γ => γ 12), (fun γ => γ 13)]) (FL := fun γ w' => [True, True, True, True, True, True, True, True, True, True, True, True, IsZ w' (γ 12) (cv * (G j).num), IsZ w' (γ 13) ((psc (ld G) (psR F G k) (i + j)).num - cv * (G j).num)]) ?hE3 (by kernel_rfl) (by kernel_rfl) (by rfl) (by kernel_rfl) ?hloc3 ?hmono3 ?hstep3 ?htail3
                    case hE3 => refine ⟨?_, ?_, ?_, ?_, ?_, trivial⟩ <;> (simp only [List.getElem?_toArray, List.getElem?_cons_succ, List.getElem?_cons_zero]; rfl)
                    case hstep3 =>
                      refine ⟨⟨⟨⟨⟨⟨⟨⟨⟨⟨⟨⟨⟨⟨trivial, ?_⟩, ?_⟩, ?_⟩, ?_⟩, ?_⟩, ?_⟩, ?_⟩, ?_⟩, ?_⟩, ?_⟩, ?_⟩, ?_⟩, ?_⟩, ?_⟩
                      · intro γ w' he hf; clear hf; refine ⟨trivial, ?_⟩; intro R hR
                        have hc := he.cells
                        go_simp
                        (try go_ints); (try (rw [if_neg (by omega)])); (try (rw [if_pos (by omega)])); (try go_simp); (try go_ints)
                        refine hR _ _ (Ext.refl _) ?_ trivial
                        rfl
                      · intro γ w' he hf; clear hf; refine ⟨trivial, ?_⟩; intro R hR
                        have hc := he.cells
                        go_simp
                        (try go_ints); (try (rw [if_neg (by omega)])); (try (rw [if_pos (by omega)])); (try go_simp); (try go_ints)
                        refine hR _ _ (Ext.refl _) ?_ trivial
                        rfl
                      · intro γ w' he hf; clear hf; refine ⟨trivial, ?_⟩; intro R hR
                        have hc := he.cells
                        go_simp
                        (try go_ints); (try (rw [if_neg (by omega)])); (try (rw [if_pos (by omega)])); (try go_simp); (try go_ints)
                        refine hR _ _ (Ext.refl _) ?_ trivial
                        rfl
                      · intro γ w' he hf; clear hf; refine ⟨trivial, ?_⟩; intro R hR
                        have hc := he.cells
                        go_simp
                        (try go_ints); (try (rw [if_neg (by omega)])); (try (rw [if_pos (by omega)])); (try go_simp); (try go_ints)
                        refine hR _ _ (Ext.refl _) ?_ trivial
                        rfl
                      · intro γ w' he hf; clear hf; refine ⟨trivial, ?_⟩; intro R hR
                        have hc := he.cells
                        go_simp
                        (try go_ints); (try (rw [if_neg (by omega)])); (try (rw [if_pos (by omega)])); (try go_simp); (try go_ints)
                        refine hR _ _ (Ext.refl _) ?_ trivial
                        rfl
                      · intro γ w' he hf; clear hf; refine ⟨trivial, ?_⟩; intro R hR
                        have hc := he.cells
                        go_simp
                        (try go_ints); (try (rw [if_neg (by omega)])); (try (rw [if_pos (by omega)])); (try go_simp); (try go_ints)
                        refine hR _ _ (Ext.refl _) ?_ trivial
                        rfl
                      · intro γ w' he hf; clear hf; refine ⟨trivial, ?_⟩; intro R hR
                        have hc := he.cells
                        go_simp
                        (try go_ints); (try (rw [if_neg (by omega)])); (try (rw [if_pos (by omega)])); (try go_simp); (try go_ints)
                        refine hR _ _ (Ext.refl _) ?_ trivial
                        rfl
                      · intro γ w' he hf; clear hf; refine ⟨trivial, ?_⟩; intro R hR
                        have hc := he.cells
                        go_simp
                        (try go_ints); (try (rw [if_neg (by omega)])); (try (rw [if_pos (by omega)])); (try go_simp); (try go_ints)
                        refine hR _ _ (Ext.refl _) ?_ trivial
                        rfl
                      · intro γ w' he hf; clear hf; refine ⟨trivial, ?_⟩; intro R hR
                        have hc := he.cells
                        go_simp
                        (try go_ints); (try (rw [if_neg (by omega)])); (try (rw [if_pos (by omega)])); (try go_simp); (try go_ints)
                        refine hR _ _ (Ext.refl _) ?_ trivial
                        rfl
                      · intro γ w' he hf; clear hf; refine ⟨trivial, ?_⟩; intro R hR
                        have hc := he.cells
                        have cq0 := he.cell ca0
                        have cq1 := he.cell ca1
                        have cq2 := he.cell ce80
                        have cq3 := he.cell ce81
                        have cq4 := he.cell ce100
                        have cq5 := he.cell ce101
                        go_simp
                        (try go_ints); (try (rw [if_neg (by omega)])); (try (rw [if_pos (by omega)])); (try go_simp); (try go_ints)
                        refine hR _ _ (Ext.refl _) ?_ trivial
                        rfl
                      · intro γ w' he hf; clear hf; refine ⟨trivial, ?_⟩; intro R hR
                        have hc := he.cells
                        have cq0 := he.cell ca0
                        have cq1 := he.cell ca1
                        have cq2 := he.cell ce80
                        have cq3 := he.cell ce81
                        have cq4 := he.cell ce100
                        have cq5 := he.cell ce101
                        go_simp
                        (try go_ints); (try (rw [if_neg (by omega)])); (try (rw [if_pos (by omega)])); (try go_simp); (try go_ints)
                        refine hR _ _ (Ext.refl _) ?_ trivial
                        rfl
                      · intro γ w' he hf; clear hf; refine ⟨trivial, ?_⟩; intro R hR
                        have hc := he.cells
                        have cq0 := he.cell ca0
                        have cq1 := he.cell ca1
                        have cq2 := he.cell ce80
                        have cq3 := he.cell ce81
                        have cq4 := he.cell ce100
                        have cq5 := he.cell ce101
                        go_simp
                        (try go_ints); (try (rw [if_neg (by omega)])); (try (rw [if_pos (by omega)])); (try go_simp); (try go_ints)
                        refine hR _ _ (Ext.refl _) ?_ trivial
                        rfl
                      · intro γ w' he hf; clear hf; refine ⟨trivial, ?_⟩; intro R hR
                        go_simp
                        refine Calls.mono (show Calls _ _ _ w' (Gives w' fun r w'' => IsZ w'' (r) (cv * (G j).num)) from mul_z _ _ _ _ w' ((Hz.out.2.1.kd he.kd).has HC.out.2.1) ((Hz.out.2.2.kd he.kd).has (HB.out.2.2.2.2.2 _))) ?_
                        rintro e w2 ⟨v, rfl, hv, hx⟩
                        exact ⟨v, rfl, hR v w2 hx rfl hv⟩
                      · intro γ w' he hf; have f12 : IsZ w' (γ 12) (cv * (G j).num) := hf 12 (by decide); clear hf; refine ⟨trivial, ?_⟩; intro R hR
                        go_simp
                        refine Calls.mono (show Calls _ _ _ w' (Gives w' fun r w'' => IsZ w'' (r) ((psc (ld G) (psR F G k) (i + j)).num - cv * (G j).num)) from sub_z _ _ _ _ w' ((Hz.out.1.kd he.kd).has (HB.out.2.1 _ _ hk)) (f12.has (HC.out.2.2 j))) ?_
                        rintro e w2 ⟨v, rfl, hv, hx⟩
                        exact ⟨v, rfl, hR v w2 hx rfl hv⟩
                    case hloc3 =>
                      exact ⟨⟨⟨⟨⟨⟨⟨⟨⟨⟨⟨⟨⟨⟨trivial, (fun γ γ' h => ⟨rfl, fun _ => rfl⟩)⟩, (fun γ γ' h => ⟨rfl, fun _ => rfl⟩)⟩, (fun γ γ' h => ⟨rfl, fun _ => rfl⟩)⟩, (fun γ γ' h => ⟨rfl, fun _ => rfl⟩)⟩, (fun γ γ' h => ⟨rfl, fun _ => rfl⟩)⟩, (fun γ γ' h => ⟨rfl, fun _ => rfl⟩)⟩, (fun γ γ' h => ⟨rfl, fun _ => rfl⟩)⟩, (fun γ γ' h => ⟨rfl, fun _ => rfl⟩)⟩, (fun γ γ' h => ⟨rfl, fun _ => rfl⟩)⟩, (fun γ γ' h => ⟨rfl, fun _ => rfl⟩)⟩, (fun γ γ' h => ⟨rfl, fun _ => rfl⟩)⟩, (fun γ γ' h => ⟨rfl, fun _ => rfl⟩)⟩, (fun γ γ' h => ⟨h 12 rfl, fun w' => (congrArg (fun a => IsZ w' (a) (cv * (G j).num)) (h 12 rfl))⟩)⟩, (fun γ γ' h => ⟨h 13 rfl, fun w' => (congrArg (fun a => IsZ w' (a) ((psc (ld G) (psR F G k) (i + j)).num - cv * (G j).num)) (h 13 rfl))⟩)⟩
                    case hmono3 =>
                      exact ⟨⟨⟨⟨⟨⟨⟨⟨⟨⟨⟨⟨⟨⟨trivial, (fun γ wA w' e h => h)⟩, (fun γ wA w' e h => h)⟩, (fun γ wA w' e h => h)⟩, (fun γ wA w' e h => h)⟩, (fun γ wA w' e h => h)⟩, (fun γ wA w' e h => h)⟩, (fun γ wA w' e h => h)⟩, (fun γ wA w' e h => h)⟩, (fun γ wA w' e h => h)⟩, (fun γ wA w' e h => h)⟩, (fun γ wA w' e h => h)⟩, (fun γ wA w' e h => h)⟩, (fun γ wA w' e h => (show IsZ wA (γ 12) (cv * (G j).num) from h).ext e)⟩, (fun γ wA w' e h => (show IsZ wA (γ 13) ((psc (ld G) (psR F G k) (i + j)).num - cv * (G j).num) from h).ext e)⟩
                    intro γ w6 hx6 hF
                    have p12 : IsZ w6 (γ 12) (cv * (G j).num) := Each.get hF 12 (by decide)
                    have p13 : IsZ w6 (γ 13) ((psc (ld G) (psR F G k) (i + j)).num - cv * (G j).num) := Each.get hF 13 (by decide)
                    clear hF
                    simp only [fillAll, gV, kv, List.getD_cons_zero, List.getD_cons_succ, Act.put, List.setIfInBounds_toArray, List.set_cons_zero, List.set_cons_succ, List.toList_toArray, List.drop_succ_cons, List.drop_zero, List.drop_nil, Nat.zero_add, Nat.reduceAdd]
                    generalize γ 12 = g12 at *
                    generalize γ 13 = g13 at *
                    clear γ
                    have hb := Hz.out.2.1.kd hx6.kd
                    clear p12 Hz ca0 ca1 ce80 ce81 fe8 ce100 ce101 fe10 e10
                    replace er := er.ext hx6
                    replace eq := eq.ext hx6
                    replace eg := eg.ext hx6
                    replace e8 := e8.ext hx6
                    replace hx := hx.trans hx6
                    clear hx6
                    obtain ⟨b5, A5, n5, c5, rfl⟩ := p13.cells
                    have hkf : i + j < (lzf P (mx (i + j) (psR F G (k + 1)) (psc (ld G) (psR F G k)))).length := by rw [lzf_len]; exact hij
                    have Hkf := Lib.hid hkf
                    have Hb := Lib.hid hb; clear hb
                    obtain ⟨_, _, _, _, ca0, ca1, -⟩ := er.at_ (j := i + j) (by first | omega | (simp; omega))
                    have fa0 := er.frozen ((i + j) * 2)
                    have fa1 := er.frozen ((i + j) * 2 + 1)
                    clear hkf
                    go_wp2
                    have hkf := Hkf.out
                    have hb := Hb.out
                    obtain ⟨W9, eW, er', U⟩ := er.put (k := i + j) (by first | omega | (simp; omega)) p13
                    rw [← eW]
                    clear eW er
                    replace hb := hb.kd U.kd
                    replace eq := eq.upd U (by simp <;> omega)
                    replace eg := eg.upd U (by simp <;> omega)
                    replace e8 := e8.upd U (by simp <;> omega)
                    replace hx := U.from_ hx (by simp <;> omega)
                    have er := er'
                    clear U er'
                    go_roundw
                    case rel => exact ⟨j + 1, by omega, by go_num, by
                      rw [HC.out.1, ← psR_step HX.out.2.1 HX.out.2.2.2.1 HI.out.1, mx_set] at er
                      exact er, eq, eg, BoxZ.mk e8 hb, hx⟩
                    case measure => simp [intOf]; omega
                  · obtain rfl : L = j := by omega
                    rw [mx_all' (fun n hn => psR_high HX.out.2.2.1 HI.out.1 (by rw [← HP.out.2.1]; exact hn))] at er
                    go_wp2
                    go_roundw
                    case rel =>
                      have hi1 := HI.out.2.2.1
                      exact ⟨k + 1, by omega, by rw [← hi1], er, eq, eg, hx⟩
                    case measure => simp [intOf]
      · obtain rfl : K = k := by omega
        have hm1 : (K : Int) - 1 - K = -1 := by omega
        rw [hm1]
        have hT1 := trimmed_zs w.heap.size (some ⟨gq, 0, none⟩) K (lzf K (psQ F G K)) wr (by rw [lzf_len]; exact Nat.le_refl _) (by omega) (eq.row (by omega))
        have hT2 := trimmed_zs w.heap.size (some ⟨w.heap.size, 0, none⟩) l.length (lzf P (psR F G K)) wr (by rw [lzf_len]; exact hc1) (by omega) (er.row (Nat.le_refl _))
        rw [lzf_len] at hT1 hT2
        have HE := Lib.hid (And.intro (eq.row (base := w.heap.size) (by omega)) (er.row (Nat.le_refl _)))
        clear er eq eg hm1
        go_wp2_with fail
        refine Calls.mono hT1 ?_
        rintro e w3 ⟨rfl, rfl⟩
        go_wp2_with fail
        refine Calls.mono hT2 ?_
        rintro e w3 ⟨rfl, rfl⟩
        go_wp2
        go_ret3
        have hPG : pl G ≤ pl F := by have := HP.out; omega
        exact Gives.mk ⟨_, _, rfl, IsZP.of_trim (ZsV.trim HE.out.1 (by rw [lzf_len]; exact Nat.le_refl _) (by omega)) (cz_lzf (psQ_zi HX.out.2.1 HX.out.2.2.2.1 _) (by have h1 := (psQ_sup hPG K (by rw [HP.out.2.2]; exact Nat.le_refl _)).1; rw [← HP.out.2.2] at h1; exact h1)), IsZP.of_trim (ZsV.trim HE.out.2 (by rw [lzf_len]; exact hc1) (by omega)) (cz_lzf (psR_zi HX.out.2.1 HX.out.2.2.2.1 _) (by have h1 := psR_sup HX.out.1 HX.out.2.2.1 HX.out.2.2.2.2.1 K (by rw [HP.out.2.2]; exact Nat.le_refl _); exact h1.mono (by rw [← HP.out.1]; omega)))⟩ hx
end Go.Proofs.YtfacbpnegkjcgaaDoor
namespace Go.Hp
theorem RowV.updN {α : Type} {k : Nat} {rd : World → Value → α → Prop} {base g o n c : Nat} {w w' : World} {l : List α} {G : List Nat} (h : RowV k rd base w (.slice (some ⟨g, o, none⟩) n c) l) (U : Upd G w w') (hg : g ∉ G) (hr : ∀ u x, rd w u x → rd w' u x) : RowV k rd base w' (.slice (some ⟨g, o, none⟩) n c) l := by
  obtain ⟨A, c, h1, h2, h3, h4⟩ := h
  refine ⟨A, c, h1, h2, h3, fun h0 => ?_⟩
  obtain ⟨g', o', ha, hb, hc⟩ := h4 h0
  have e : A = some ⟨g, o, none⟩ := by injection h1 with h5; exact h5.symm
  rw [e] at ha
  injection ha with ha
  injection ha with ha1 ha2
  subst ha1
  refine ⟨g, o', by rw [e, ha2], hb, fun j hj => ?_⟩
  obtain ⟨cs, q1, q2, q3⟩ := hc j hj
  refine ⟨cs, q1, fun i hi => ?_, hr _ _ q3⟩
  rw [← q2 i hi]
  have hs : cs[i]? = some cs[i] := Array.getElem?_eq_getElem (by omega)
  have hcell := (q2 i hi).trans hs
  have hlt := World.block_lt_of_cell? w _ hcell
  have hblk := U.1 g w.heap[g] hg (Array.getElem?_eq_getElem hlt)
  unfold World.cell?
  simp only [hblk, Array.getElem?_eq_getElem hlt]
/-- A polynomial that is not 0 and lies in none of the blocks G. -/
def IsZPn (G : List Nat) (w : World) (v : Value) (F : Nat → Rat) : Prop := IsZP 0 w v F ∧ ∃ g o c, v = .slice (some ⟨g, o, none⟩) (pl F) c ∧ c ≤ 9223372036854775807 ∧ g ∉ G
theorem IsZPn.ext {G : List Nat} {w w' : World} {v : Value} {F : Nat → Rat} (h : IsZPn G w v F) (e : Ext w w') : IsZPn G w' v F := ⟨h.1.ext e, h.2⟩
theorem IsZPn.upd {L G : List Nat} {w w' : World} {v : Value} {F : Nat → Rat} (h : IsZPn G w v F) (U : Upd L w w') (hL : ∀ g ∈ L, g ∈ G) : IsZPn G w' v F := by
  obtain ⟨⟨l, h1, h2, h3⟩, g, o, c, rfl, hc, hg⟩ := h
  exact ⟨⟨l, RowV.updN h1 U (fun hm => hg (hL g hm)) fun _ _ q => q.kd U.kd, h2, h3⟩, g, o, c, rfl, hc, hg⟩
theorem IsZP.off {base : Nat} {G : List Nat} {w : World} {v : Value} {F : Nat → Rat} (h : IsZP base w v F) (h0 : 0 < pl F) (hG : ∀ g ∈ G, base ≤ g → g < w.heap.size → False) : IsZPn G w v F := by
  have h' := h.base_le (Nat.zero_le _)
  obtain ⟨A, c, l, rfl, k1, k2, hA, k3, k4, k5⟩ := h.form
  obtain ⟨g, o, b, A1, n, c1, rfl, hb, q0, q1, hq⟩ := hA.at_ (j := 0) (by omega)
  exact ⟨h', g, o, c, rfl, k2, fun hm => hG g hm hb (World.block_lt_of_cell? w _ q0)⟩
theorem RsSt.sizes {F0 G0 F G : Nat → Rat} {D S : Nat} {x y : Int} (h : RsSt F0 G0 D S F G x y) {M : Nat} (hM : M = (S + 1) * 2 ^ D) (hB : 8 + 8 * ((D + 1) * ((D + 1) * M)) ≤ 1099511627776) :
    (∀ i, qsz (F i) ≤ M) ∧ (∀ i, qsz (G i) ≤ M) ∧ sz x.natAbs + 2 * (D * M) + 2 ≤ 549755813888 ∧ sz y.natAbs + D * (D * M) + 2 ≤ 549755813888 ∧ M + (pl F + 1) * (M + 1) + M ≤ 549755813888 ∧ 1 + D * (D * M) ≤ 549755813888 ∧ 1 + D * M ≤ 549755813888 ∧ M ≤ 549755813888 ∧ D * D ≤ 549755813888 ∧ D ≤ 549755813888 := by
  have up : ∀ a : Nat, a ≤ D → (S + 1) * 2 ^ a ≤ M := fun a ha => by rw [hM]; exact Nat.mul_le_mul_left _ (Nat.pow_le_pow_right (by decide) ha)
  have h1 := up (D - (pl F + pl G)) (by omega)
  have hlen := h.len
  have sx := h.sx; have sy := h.sy
  rw [← hM] at sx sy
  have e1 : (D - (pl F + pl G)) * (D * M) ≤ D * (D * M) := Nat.mul_le_mul_right _ (by omega)
  have e2 : (D + 1) * ((D + 1) * M) = D * (D * M) + 2 * (D * M) + M := by rw [Nat.succ_mul, Nat.succ_mul, Nat.mul_add]; omega
  have e3 : (pl F + 1) * (M + 1) ≤ (D + 1) * (M + 1) := Nat.mul_le_mul_right _ (by omega)
  have e4 : (D + 1) * (M + 1) = D * M + M + D + 1 := by rw [Nat.succ_mul, Nat.mul_succ]; omega
  have hM1 : 1 ≤ M := by rw [hM]; exact Nat.mul_pos (by omega) (Nat.pow_pos (by decide))
  have e5 : D * 1 ≤ D * M := Nat.mul_le_mul_left _ hM1
  have e6 : D * D ≤ D * (D * M) := Nat.mul_le_mul_left _ (by rw [Nat.mul_one] at e5; exact e5)
  refine ⟨fun i => by have := h.qF i; omega, fun i => by have := h.qG i; omega, ?_, ?_, ?_, ?_, ?_, ?_, ?_, ?_⟩ <;> omega
theorem RsSt.more {F0 G0 F G : Nat → Rat} {D S : Nat} {x y : Int} (h : RsSt F0 G0 D S F G x y) {M : Nat} (hM : M = (S + 1) * 2 ^ D) (hB : 8 + 8 * ((D + 1) * ((D + 1) * M)) ≤ 1099511627776) (h1 : 1 < pl G) (hl : pl G ≤ pl F) {R : Nat → Rat} (hR : R = psR F G (pl F + 1 - pl G)) (h0 : R ≠ pz) {b d k n : Nat} (hb : b = pl G - 1) (hd : d = pl F - 1 - (pl R - 1)) (hk : k = (pl F + 1 - pl G) * (pl G - 1)) :
    (∀ i, qsz (R i) ≤ M) ∧ sz (pcn R).natAbs ≤ M ∧ sz (ld G).num.natAbs ≤ M ∧ (1 + b * M ≤ 1099511627776 ∧ b ≤ 1099511627776) ∧ (1 + d * M ≤ 1099511627776 ∧ d ≤ 1099511627776) ∧ (1 + k * M ≤ 1099511627776 ∧ k ≤ 1099511627776) ∧ sz (sgz n x * pcn R ^ b).natAbs ≤ 1099511627776 ∧ sz (pcn R ^ b).natAbs ≤ 1099511627776 ∧ sz ((ld G).num ^ d).natAbs ≤ 1099511627776 ∧ sz ((ld G).num ^ k).natAbs ≤ 1099511627776 ∧ sz (sgz n x).natAbs ≤ 1099511627776 := by
  obtain ⟨s1, s2, s3, s4, s5, s6, s7, s8, s9, s10⟩ := h.sizes hM hB
  obtain ⟨-, -, r3⟩ := h.room hl hR
  have hlen := h.len
  have up : ∀ a : Nat, a ≤ D → (S + 1) * 2 ^ a ≤ M := fun a ha => by rw [hM]; exact Nat.mul_le_mul_left _ (Nat.pow_le_pow_right (by decide) ha)
  have hRq : ∀ i, qsz (R i) ≤ M := fun i => by have a := r3 i; have b := up (D - (pl F + pl G) + (pl F + 1 - pl G)) (by omega); omega
  have p1 : sz (pcn R).natAbs ≤ M := by rw [pcn_abs]; exact cn_sz hRq _
  have p2 : sz (ld G).num.natAbs ≤ M := Nat.le_trans (qsz_nm _) (s2 (pl G - 1))
  have c1 : b * M ≤ D * M := Nat.mul_le_mul_right _ (by omega)
  have c2 : d * M ≤ D * M := Nat.mul_le_mul_right _ (by omega)
  have c3 : k ≤ D * D := by rw [hk]; exact Nat.mul_le_mul (by omega) (by omega)
  have c4 : k * M ≤ D * (D * M) := by rw [← Nat.mul_assoc]; exact Nat.mul_le_mul_right _ c3
  have t1 := sz_powz _ _ p1 b
  have t2 := sz_powz _ _ p2 d
  have t3 := sz_powz _ _ p2 k
  have t4 := sz_mul (sgz n x).natAbs (pcn R ^ b).natAbs
  rw [← Int.natAbs_mul] at t4
  rw [sgz_abs] at t4
  refine ⟨hRq, p1, p2, ⟨by omega, by omega⟩, ⟨by omega, by omega⟩, ⟨by omega, by omega⟩, by omega, by omega, by omega, by omega, by rw [sgz_abs]; omega⟩
theorem pcn_quot {R : Nat → Rat} (hz : ZI R) (hf : Fin_ R) (h0 : R ≠ pz) : (ld (pp R)).num ≠ 0 ∧ (ld (pp R)).num ∣ (ld R).num ∧ (ld R).num / (ld (pp R)).num = pcn R := by
  have hn := pcn_ne hz hf h0
  have h1 := ld_ne (pp_fin hf) (pp_ne hz hf h0)
  have z1 := int_ld (pp_zi hz hf)
  have z2 := int_ld hz
  have hp : (ld (pp R)).num ≠ 0 := fun e => h1 (by rw [z1, e]; rfl)
  have e : ld R = (pcn R : Rat) * ld (pp R) := by
    rw [ld_pp hz hf h0]
    have : (pcn R : Rat) ≠ 0 := fun e => hn (int_cast_inj (by rw [e]; rfl))
    grind
  rw [z1, z2, ← Rat.intCast_mul] at e
  have e2 := int_cast_inj e
  rw [e2]
  exact ⟨hp, ⟨pcn R, Int.mul_comm _ _⟩, Int.mul_ediv_cancel _ hp⟩
theorem res_pzl (G : Nat → Rat) : res pz G = 0 := by unfold res; rw [if_pos (.inl pl_pz)]
theorem res_pzr (F : Nat → Rat) : res F pz = 0 := by unfold res; rw [if_pos (.inr pl_pz)]
theorem tmod_two (n : Nat) : ((n : Int).tmod 2 == 1) = decide (n % 2 = 1) := by
  rw [show ((n : Int).tmod 2) = ((n % 2 : Nat) : Int) from by simp [Int.tmod]]
  rcases Nat.mod_two_eq_zero_or_one n with h | h <;> rw [h] <;> rfl
/-- The length of a slice. -/
def lenV : Value → Nat
  | .slice _ n _ => n
  | _ => 0
/-- The measure of rounds that swap or shorten. -/
def swm (f g : Value) : Nat := 2 * (lenV f + lenV g) + (if lenV f < lenV g then 1 else 0)
theorem ite_one (p : Prop) [Decidable p] : (if p then 1 else 0) ≤ 1 := by split <;> omega
theorem swm_lt {f g f' g' : Value} (h : lenV f' + lenV g' < lenV f + lenV g) : swm f' g' < swm f g := by
  unfold swm
  have := ite_one (lenV f' < lenV g')
  omega
theorem swm_swap {f g : Value} (h : lenV f < lenV g) : swm g f < swm f g := by
  unfold swm; rw [if_neg (show ¬ lenV g < lenV f by omega), if_pos h]; omega
end Go.Hp
namespace Go.Proofs.YtfacbpnegkjcgaaDoor
open Go.RowKit Go.Hp
theorem pdiv_p (v u : Value) (F G : Nat → Rat) (M : Nat) (w : World) (hv : IsZP 0 w v F) (hu : IsZP 0 w u G) (hs : ∀ i, qsz (F i) ≤ M) (ht : ∀ i, qsz (G i) ≤ M) (h0 : G ≠ pz) (hn : pl F ≤ 549755813888) (hm : pl G ≤ 549755813888) (hst : M + (pl F + 1) * (M + 1) + M ≤ 549755813888) :
    Calls Tryd.prog 25 #[v, u] w (Gives w (TupPs w.heap.size (psQ F G (pl F + 1 - pl G)) (psR F G (pl F + 1 - pl G)))) := by
  obtain ⟨l, h1, h2, -, rfl⟩ := hv.hz (fun i => by have := hs i; omega)
  obtain ⟨m, k1, k2, -, rfl⟩ := hu.hz (fun i => by have := ht i; omega)
  exact pdiv_z v u l m M M w h1 k1 hs ht (by omega) (by omega) h0 (by rw [h2]; omega)
theorem primitive_p (v : Value) (F : Nat → Rat) (w : World) (hv : IsZP 0 w v F) (hs : ∀ i, qsz (F i) ≤ 1099511627776) (hn : pl F ≤ 1099511627776) :
    Calls Tryd.prog 18 #[v] w (Gives w fun r w' => IsZP w.heap.size w' r (pp F)) := by
  obtain ⟨l, h1, h2, -, rfl⟩ := hv.hz hs
  exact primitive_zp v l w h1 (by omega)
set_option maxRecDepth 40000 in
set_option maxHeartbeats 16000000 in
theorem resultant_z (v u : Value) (l m : List Int) (S : Nat) (w : World) (hv : HzV 0 w v l) (hu : HzV 0 w u m) (hs : ∀ i, qsz (cz l i) ≤ S) (ht : ∀ i, qsz (cz m i) ≤ S) (hn : l.length ≤ 549755813888) (hm : m.length ≤ 549755813888) (hB : 8 + 8 * ((pl (cz l) + pl (cz m) + 1) * ((pl (cz l) + pl (cz m) + 1) * ((S + 1) * 2 ^ (pl (cz l) + pl (cz m))))) ≤ 1099511627776) :
    Calls Tryd.prog 7 #[v, u] w (Gives w fun r w' => IsZ w' r (res (cz l) (cz m)).num) := by
  have HV := Lib.hid hv; have HU := Lib.hid hu
  obtain ⟨A0, c0, rfl⟩ := hv.len
  obtain ⟨A1, c1, rfl⟩ := hu.len
  clear hv hu
  have hN1 := fun W (x : Ext w W) => normal_zp _ l W (HV.out.ext x) (by omega)
  have hN2 := fun W (x : Ext w W) => normal_zp _ m W (HU.out.ext x) (by omega)
  have hc1 := pl_le (cz_sup l)
  have hc2 := pl_le (cz_sup m)
  have hfF := Fin_.cz l; have hzF := ZI.cz l; have hfG := Fin_.cz m; have hzG := ZI.cz m
  obtain ⟨F0, hF⟩ : ∃ F, F = cz l := ⟨_, rfl⟩
  obtain ⟨G0, hG⟩ : ∃ G, G = cz m := ⟨_, rfl⟩
  simp only [← hF] at hN1 hs hc1 hfF hzF hB ⊢
  simp only [← hG] at hN2 ht hc2 hfG hzG hB ⊢
  clear hF hG
  have HX := Lib.hid (And.intro hfF (And.intro hzF (And.intro hfG (And.intro hzG (And.intro hs (And.intro ht hB))))))
  have HN := Lib.hid (And.intro hN1 hN2)
  clear hs ht hB hfF hzF hfG hzG hN1 hN2
  have ez := Box.new w 28 #[.bool false, .slice none 0 0] (by simp [isDig])
  have hx := (Ext.refl w).alloc (.cells #[.bool false, .slice none 0 0] 28)
  go_enter Tryd.func7, Tryd.ntmps7
  go_wp2_with fail
  refine Calls.mono (HN.out.1 _ hx) ?_
  rintro e w1 ⟨r1, rfl, hf, hx1⟩
  replace ez := ez.ext hx1
  replace hx := hx.trans hx1
  clear hx1
  go_wp2_with fail
  refine Calls.mono (HN.out.2 _ hx) ?_
  rintro e w2 ⟨r2, rfl, hg, hx2⟩
  replace ez := ez.ext hx2
  replace hf := hf.ext hx2
  replace hx := hx.trans hx2
  clear hx2
  obtain ⟨A, c, rfl, k1, k2⟩ := hf.shape
  obtain ⟨A', c', rfl, k3, k4⟩ := hg.shape
  by_cases hpF : pl F0 = 0
  · have hb0 : ((pl F0 : Int) == 0) = true := by simpa using hpF
    have e0 := (pl_zero HX.out.1).1 hpF
    have He := Lib.hid e0
    clear e0 hpF hf hg
    obtain ⟨cez0, cez1⟩ := ez.cells2
    have fez := ez.frozen
    go_wp2
    obtain ⟨W3, eW, ez', U⟩ := ez.put2 (.bool false) (.slice none 0 0) rfl rfl
    rw [← eW]
    clear eW ez
    replace hx := U.from_ hx (by simp <;> omega)
    have ez := ez'
    clear U ez'
    clear cez0 cez1 fez
    obtain ⟨cez0, cez1⟩ := ez.cells2
    have fez := ez.frozen
    refine bodyPost_ret (v := .agg #[.bool false, .slice none 0 0]) (by simp [results, Tryd.results7, go_sem, cez0, cez1]) rfl ?_
    rw [He.out, res_pzl]
    exact Gives.mk (IsZ.zero _) hx
  have hb0 : ((pl F0 : Int) == 0) = false := by simpa using hpF
  by_cases hpG : pl G0 = 0
  · have hb1 : ((pl G0 : Int) == 0) = true := by simpa using hpG
    have e0 := (pl_zero HX.out.2.2.1).1 hpG
    have He := Lib.hid e0
    clear e0 hpF hpG hf hg
    obtain ⟨cez0, cez1⟩ := ez.cells2
    have fez := ez.frozen
    go_wp2
    obtain ⟨W3, eW, ez', U⟩ := ez.put2 (.bool false) (.slice none 0 0) rfl rfl
    rw [← eW]
    clear eW ez
    replace hx := U.from_ hx (by simp <;> omega)
    have ez := ez'
    clear U ez'
    clear cez0 cez1 fez
    obtain ⟨cez0, cez1⟩ := ez.cells2
    have fez := ez.frozen
    refine bodyPost_ret (v := .agg #[.bool false, .slice none 0 0]) (by simp [results, Tryd.results7, go_sem, cez0, cez1]) rfl ?_
    rw [He.out, res_pzr]
    exact Gives.mk (IsZ.zero _) hx
  have hb1 : ((pl G0 : Int) == 0) = false := by simpa using hpG
  have hnF : F0 ≠ pz := fun e => hpF (by rw [e, pl_pz])
  have hnG : G0 ≠ pz := fun e => hpG (by rw [e, pl_pz])
  go_wp2_with fail
  refine Calls.mono (of_z 1 _ (by omega) (by omega)) ?_
  rintro e w3 ⟨r3, rfl, h3, hx3⟩
  obtain ⟨b5, A5, n5, c5, rfl⟩ := h3.cells
  replace ez := ez.ext hx3
  replace hf := hf.ext hx3
  replace hg := hg.ext hx3
  replace hx := hx.trans hx3
  clear hx3
  go_wp2_with fail
  refine Calls.mono (of_z 1 _ (by omega) (by omega)) ?_
  rintro e w4 ⟨r4, rfl, h4, hx4⟩
  obtain ⟨b6, A6, n6, c6, rfl⟩ := h4.cells
  replace h3 := h3.kd hx4.kd
  replace ez := ez.ext hx4
  replace hf := hf.ext hx4
  replace hg := hg.ext hx4
  replace hx := hx.trans hx4
  clear hx4
  go_wp2
  obtain ⟨W8, eW8, e8, x8⟩ := Box.made w4 28 #[.bool b5, .slice A5 n5 c5] (by simp [isDig])
  rw [← eW8]
  have hsz8 : W8.heap.size = w4.heap.size + 1 := by rw [eW8]; simp
  clear eW8
  obtain ⟨W9, eW9, e9, x9⟩ := Box.made W8 28 #[.bool b6, .slice A6 n6 c6] (by simp [isDig])
  rw [← eW9]
  clear eW9
  rw [hsz8] at e9
  have hzw := ez.lt
  have ex := BoxZ.mk (e8.ext x9) (h3.kd (x8.trans x9).kd)
  have ey := BoxZ.mk e9 (h4.kd (x8.trans x9).kd)
  have hf := (hf.off (G := [w4.heap.size, w4.heap.size + 1]) (by omega) (by simp)).ext (x8.trans x9)
  have hg := (hg.off (G := [w4.heap.size, w4.heap.size + 1]) (by omega) (by simp)).ext (x8.trans x9)
  have hst := RsSt.start HX.out.1 HX.out.2.2.1 hnF hnG HX.out.2.1 HX.out.2.2.2.1 HX.out.2.2.2.2.1 HX.out.2.2.2.2.2.1
  replace ez := ez.ext (x8.trans x9)
  replace hx := hx.trans (x8.trans x9)
  clear e8 e9 x8 x9 h3 h4 hsz8 hb0 hb1
  generalize w4.heap.size = gb at *
  obtain ⟨M, hM⟩ : ∃ M, M = (S + 1) * 2 ^ (pl F0 + pl G0) := ⟨_, rfl⟩
  have HM := Lib.hid hM
  have HB := Lib.hid (show 8 + 8 * ((pl F0 + pl G0 + 1) * ((pl F0 + pl G0 + 1) * M)) ≤ 1099511627776 by rw [hM]; exact HX.out.2.2.2.2.2.2)
  clear hM
  go_loopw [0, 1] (fun fv gv wr => ∃ (F G : Nat → Rat) (x y : Int), RsSt F0 G0 (pl F0 + pl G0) S F G x y ∧ IsZPn [gb, gb + 1] wr fv F ∧ IsZPn [gb, gb + 1] wr gv G ∧ Box wr w.heap.size 28 #[.bool false, .slice none 0 0] ∧ BoxZ wr gb 28 x ∧ BoxZ wr (gb + 1) 28 y ∧ Ext w wr) (fun fv gv _ => swm fv gv)
  case atStart => exact ⟨F0, G0, 1, 1, hst, hf, hg, ez, ex, ey, hx⟩
  case round =>
    clear hst hf hg ez ex ey hx
    obtain ⟨F, G, x, y, hst, hf, hg, ez, ex, ey, hx⟩ := hrel
    have hf' := hf.2; have hg' := hg.2
    obtain ⟨gf, of_, cf, rfl, kf, -⟩ := hf'
    obtain ⟨gg, og, cg, rfl, kg, -⟩ := hg'
    have HS := Lib.hid hst
    have HZ := Lib.hid (hst.sizes HM.out HB.out)
    have hp1 := pl_pos hst.fF hst.nF
    have hp2 := pl_pos hst.fG hst.nG
    have hlen := hst.len
    have hgy := ey.lt
    obtain ⟨na, ha⟩ : ∃ na, na = pl F - 1 := ⟨_, rfl⟩
    obtain ⟨b, hb⟩ : ∃ b, b = pl G - 1 := ⟨_, rfl⟩
    have hia : (pl F : Int) - 1 = (na : Nat) := by omega
    have hib : (pl G : Int) - 1 = (b : Nat) := by omega
    have HA := Lib.hid (And.intro ha hb)
    clear hst ha hb
    by_cases h1 : 1 < pl G
    · obtain ⟨n, hn⟩ : ∃ n, n = na * b := ⟨_, rfl⟩
      have hin : (na : Int) * b = (n : Nat) := by rw [hn]; simp
      have hn40 : n ≤ 549755813888 := by
        have h2 : na * b ≤ (pl F0 + pl G0) * (pl F0 + pl G0) := by
          have := HA.out
          exact Nat.mul_le_mul (by omega) (by omega)
        have := HZ.out.2.2.2.2.2.2.2.2.1; omega
      have Hn := Lib.hid (show n = (pl F - 1) * (pl G - 1) by rw [hn, HA.out.1, HA.out.2])
      clear hn
      by_cases hlt : pl F < pl G
      · by_cases ho : n % 2 = 1
        · have hbo : ((n : Int).tmod 2 == 1) = true := by rw [tmod_two]; simpa using ho
          obtain ⟨bx, Bx, nx, cx, e8, hbx⟩ := ex
          have Hbx := Lib.hid (hbx.has (by have := HZ.out.2.2.1; omega)); clear hbx
          obtain ⟨ce80, ce81⟩ := e8.cells2
          have fe8 := e8.frozen
          go_wp2_with fail
          refine Calls.mono (neg_z _ x _ Hbx.out) ?_
          rintro e w5 ⟨r, rfl, hr, hx5⟩
          obtain ⟨b5, A5, n5, c5, rfl⟩ := hr.cells
          clear ce80 ce81 fe8
          replace e8 := e8.ext hx5
          replace ez := ez.ext hx5
          replace ey := ey.ext hx5
          replace hf := hf.ext hx5
          replace hg := hg.ext hx5
          replace hx := hx.trans hx5
          clear hx5
          obtain ⟨ce80, ce81⟩ := e8.cells2
          have fe8 := e8.frozen
          go_wp2
          obtain ⟨W7, eW, e8', U⟩ := e8.put2 (.bool b5) (.slice A5 n5 c5) rfl rfl
          rw [← eW]
          clear eW e8
          replace hr := hr.kd U.kd
          replace ez := ez.upd U (by simp <;> omega)
          replace ey := ey.upd U (by simp <;> omega)
          replace hf := hf.upd U (by simp <;> omega)
          replace hg := hg.upd U (by simp <;> omega)
          replace hx := U.from_ hx (by simp <;> omega)
          have e8 := e8'
          clear U e8'
          go_roundw
          case rel => exact ⟨G, F, _, y, HS.out.swap, hg, hf, ez, by rw [← Hn.out]; unfold sgz; rw [if_pos ho]; exact BoxZ.mk e8 hr, ey, hx⟩
          case measure => exact swm_swap hlt
        · have hbo : ((n : Int).tmod 2 == 1) = false := by rw [tmod_two]; simpa using ho
          go_wp2
          go_roundw
          case rel => exact ⟨G, F, _, y, HS.out.swap, hg, hf, ez, by rw [← Hn.out]; unfold sgz; rw [if_neg ho]; exact ex, ey, hx⟩
          case measure => exact swm_swap hlt
      · obtain ⟨Rr, hR⟩ : ∃ Rr, Rr = psR F G (pl F + 1 - pl G) := ⟨_, rfl⟩
        have hP := pdiv_p _ _ F G M wr hf.1 hg.1 HZ.out.1 HZ.out.2.1 HS.out.nG (by have := HZ.out.2.2.2.2.2.2.2.2.2; omega) (by have := HZ.out.2.2.2.2.2.2.2.2.2; omega) HZ.out.2.2.2.2.1
        rw [← hR] at hP
        have HR := Lib.hid hR; clear hR
        go_wp2_with fail
        refine Calls.mono hP ?_
        rintro e w5 ⟨r, rfl, ⟨qv, rv, rfl, -, hr⟩, hx5⟩
        obtain ⟨Ar, cr, rfl, k5, k6⟩ := hr.shape
        by_cases h0 : Rr = pz
        · have hb3 : ((pl Rr : Int) == 0) = true := by rw [h0, pl_pz]; rfl
          have he : res F0 G0 = 0 := by
            have e1 := HS.out.eq
            rw [res_zero HS.out.fF HS.out.fG HS.out.nF (by omega) h1 (HR.out ▸ h0), Rat.mul_zero] at e1
            rcases Rat.mul_eq_zero.1 e1 with e2 | e2
            · exact e2
            · exact absurd (int_cast_inj (by rw [e2]; rfl)) HS.out.ny
          have He := Lib.hid he
          clear he h0 hr hf hg ex ey
          replace ez := ez.ext hx5
          replace hx := hx.trans hx5
          clear hx5
          obtain ⟨cez0, cez1⟩ := ez.cells2
          have fez := ez.frozen
          go_wp2
          obtain ⟨W3, eW, ez', U⟩ := ez.put2 (.bool false) (.slice none 0 0) rfl rfl
          rw [← eW]
          clear eW ez
          replace hx := U.from_ hx (by simp <;> omega)
          have ez := ez'
          clear U ez'
          clear cez0 cez1 fez
          obtain ⟨cez0, cez1⟩ := ez.cells2
          have fez := ez.frozen
          refine bodyPost_ret (v := .agg #[.bool false, .slice none 0 0]) (by simp [results, Tryd.results7, go_sem, cez0, cez1]) rfl ?_
          rw [He.out]
          exact Gives.mk (IsZ.zero _) hx
        · have hRz : ZI Rr := HR.out ▸ psR_zi HS.out.zF HS.out.zG _
          have hRf : Fin_ Rr := by rw [HR.out]; exact ⟨_, psR_sup HS.out.fF HS.out.fG HS.out.nG _ (Nat.le_refl _)⟩
          have hRs : Sup (pl G - 1) Rr := by rw [HR.out]; exact (psR_sup HS.out.fF HS.out.fG HS.out.nG _ (Nat.le_refl _)).mono (by omega)
          have hrl := pl_le hRs
          have hp3 := pl_pos hRf h0
          have hb3 : ((pl Rr : Int) == 0) = false := by simp; omega
          have hr := hr.off (G := [gb, gb + 1]) hp3 (by simp <;> omega)
          have HRr := Lib.hid (And.intro hRz (And.intro hRf h0))
          clear hRz hRf h0 hRs
          replace ez := ez.ext hx5
          replace ex := ex.ext hx5
          replace ey := ey.ext hx5
          replace hf := hf.ext hx5
          replace hg := hg.ext hx5
          replace hx := hx.trans hx5
          clear hx5
          go_upto_if 68 with (fail)
          go_cut [] (fun wx => BoxZ wx gb 28 (sgz n x) ∧ BoxZ wx (gb + 1) 28 y ∧ Box wx w.heap.size 28 #[.bool false, .slice none 0 0] ∧ IsZPn [gb, gb + 1] wx (.slice (some ⟨gf, of_, none⟩) (pl F) cf) F ∧ IsZPn [gb, gb + 1] wx (.slice (some ⟨gg, og, none⟩) (pl G) cg) G ∧ IsZPn [gb, gb + 1] wx (.slice Ar (pl Rr) cr) Rr ∧ Ext w wx)
          case first =>
            by_cases ho : n % 2 = 1
            · have hbo : ((n : Int).tmod 2 == 1) = true := by rw [tmod_two]; simpa using ho
              obtain ⟨bx, Bx, nx, cx, e8, hbx⟩ := ex
              have Hbx := Lib.hid (hbx.has (by have := HZ.out.2.2.1; omega)); clear hbx
              obtain ⟨ce80, ce81⟩ := e8.cells2
              have fe8 := e8.frozen
              go_wp2_with fail
              refine Calls.mono (neg_z _ x _ Hbx.out) ?_
              rintro e w6 ⟨r, rfl, hn', hx6⟩
              obtain ⟨b5, A5, n5, c5, rfl⟩ := hn'.cells
              clear ce80 ce81 fe8
              replace e8 := e8.ext hx6
              replace ez := ez.ext hx6
              replace ey := ey.ext hx6
              replace hf := hf.ext hx6
              replace hg := hg.ext hx6
              replace hr := hr.ext hx6
              replace hx := hx.trans hx6
              clear hx6
              obtain ⟨ce80, ce81⟩ := e8.cells2
              have fe8 := e8.frozen
              go_wp2
              obtain ⟨W7, eW, e8', U⟩ := e8.put2 (.bool b5) (.slice A5 n5 c5) rfl rfl
              rw [← eW]
              clear eW e8
              replace hn' := hn'.kd U.kd
              replace ez := ez.upd U (by simp <;> omega)
              replace ey := ey.upd U (by simp <;> omega)
              replace hf := hf.upd U (by simp <;> omega)
              replace hg := hg.upd U (by simp <;> omega)
              replace hr := hr.upd U (by simp <;> omega)
              replace hx := U.from_ hx (by simp <;> omega)
              have e8 := e8'
              clear U e8'
              go_meet
              case rel => exact ⟨by unfold sgz; rw [if_pos ho]; exact BoxZ.mk e8 hn', ey, ez, hf, hg, hr, hx⟩
            · have hbo : ((n : Int).tmod 2 == 1) = false := by rw [tmod_two]; simpa using ho
              go_wp2
              go_meet
              case rel => exact ⟨by unfold sgz; rw [if_neg ho]; exact ex, ey, ez, hf, hg, hr, hx⟩
          case rest =>
            clear ex ey ez hf hg hr hx
            obtain ⟨ex, ey, ez, hf, hg, hr, hx⟩ := hcut
            have hppl := pp_pl HRr.out.1 HRr.out.2.1
            have hpn := pp_ne HRr.out.1 HRr.out.2.1 HRr.out.2.2
            obtain ⟨d, hd⟩ : ∃ d, d = pl F - 1 - (pl Rr - 1) := ⟨_, rfl⟩
            obtain ⟨k, hk⟩ : ∃ k, k = (pl F + 1 - pl G) * (pl G - 1) := ⟨_, rfl⟩
            have HQ := Lib.hid (HS.out.more HM.out HB.out h1 (by omega) HR.out HRr.out.2.2 HA.out.2 hd hk (n := n))
            have HC := Lib.hid (pcn_quot HRr.out.1 HRr.out.2.1 HRr.out.2.2)
            have Hdk := Lib.hid (And.intro hd hk)
            obtain ⟨a1, ha1⟩ : ∃ a1, a1 = na - b := ⟨_, rfl⟩
            have hac : (na : Int) - b = (a1 : Nat) := by have := HA.out; omega
            have hbk : ((a1 : Int) + 1) * b = (k : Nat) := by
              have e1 : k = (a1 + 1) * b := by rw [hk, ha1, HA.out.1, HA.out.2]; congr 1; omega
              rw [e1]; simp
            obtain ⟨c1', hc1'⟩ : ∃ c1', c1' = pl Rr - 1 := ⟨_, rfl⟩
            have hdc : (pl (pp Rr) : Int) - 1 = (c1' : Nat) := by rw [hppl]; omega
            have had : (na : Int) - c1' = (d : Nat) := by have := HA.out; omega
            have HP := Lib.hid (And.intro hppl hpn)
            have hp4 : 0 < pl (pp Rr) := by omega
            have hsmq := Lib.hid (show ∀ i, qsz (Rr i) ≤ 1099511627776 from fun i => by have := HQ.out.1 i; have := HZ.out.2.2.2.2.2.2.2.1; omega)
            have hk40 := HQ.out.2.2.2.2.2.1.2
            have hd40 := HQ.out.2.2.2.2.1.2
            clear hd hk ha1 hc1' hppl hpn
            go_wp2_with fail
            refine Calls.mono (primitive_p _ Rr _ hr.1 hsmq.out (by have := HZ.out.2.2.2.2.2.2.2.2.2; omega)) ?_
            rintro e w6 ⟨r, rfl, hsm, hx6⟩
            obtain ⟨As, cs, rfl, k7, k8⟩ := hsm.shape
            have hgy := ey.lt
            replace hsm := hsm.off (G := [gb, gb + 1]) hp4 (by simp <;> omega)
            replace ez := ez.ext hx6
            replace ex := ex.ext hx6
            replace ey := ey.ext hx6
            replace hf := hf.ext hx6
            replace hg := hg.ext hx6
            replace hr := hr.ext hx6
            replace hx := hx.trans hx6
            clear hx6
            go_wp2_with fail
            refine Calls.mono (lead_z _ 0 Rr _ hr.1 HRr.out.2.2) ?_
            rintro e w7 ⟨r7, rfl, h7, hx7⟩
            obtain ⟨b7, A7, n7, c7, rfl⟩ := h7.cells
            replace ez := ez.ext hx7
            replace ex := ex.ext hx7
            replace ey := ey.ext hx7
            replace hf := hf.ext hx7
            replace hg := hg.ext hx7
            replace hsm := hsm.ext hx7
            replace hx := hx.trans hx7
            clear hx7
            go_wp2_with fail
            refine Calls.mono (lead_z _ 0 (pp Rr) _ hsm.1 HP.out.2) ?_
            rintro e w8 ⟨r8, rfl, h8, hx8⟩
            obtain ⟨b8, A8, n8, c8, rfl⟩ := h8.cells
            replace h7 := h7.kd hx8.kd
            replace ez := ez.ext hx8
            replace ex := ex.ext hx8
            replace ey := ey.ext hx8
            replace hf := hf.ext hx8
            replace hg := hg.ext hx8
            replace hsm := hsm.ext hx8
            replace hx := hx.trans hx8
            clear hx8
            have H7 := Lib.hid (And.intro (h7.has (show sz (ld Rr).num.natAbs ≤ 1099511627776 from Nat.le_trans (qsz_nm _) (hsmq.out _))) (h8.has (show sz (ld (pp Rr)).num.natAbs ≤ 1099511627776 from Nat.le_trans (qsz_nm _) (pp_qsz HRr.out.1 HRr.out.2.1 hsmq.out _))))
            clear h7 h8
            go_wp2_with fail
            refine Calls.mono (exact_z _ _ _ _ _ H7.out.1 H7.out.2 HC.out.1 HC.out.2.1) ?_
            rintro e w9 ⟨r9, rfl, ⟨q9, rfl, h9⟩, hx9⟩
            obtain ⟨b9, A9, n9, c9, rfl⟩ := h9.cells
            rw [HC.out.2.2] at h9
            replace ez := ez.ext hx9
            replace ex := ex.ext hx9
            replace ey := ey.ext hx9
            replace hf := hf.ext hx9
            replace hg := hg.ext hx9
            replace hsm := hsm.ext hx9
            replace hx := hx.trans hx9
            clear hx9
            go_wp2_with fail
            obtain ⟨W10, eW10, e10, x10⟩ := Box.made w9 28 #[.bool b9, .slice A9 n9 c9] (by simp [isDig])
            rw [← eW10]
            clear eW10
            replace h9 := h9.kd x10.kd
            replace ez := ez.ext x10
            replace ex := ex.ext x10
            replace ey := ey.ext x10
            replace hf := hf.ext x10
            replace hg := hg.ext x10
            replace hsm := hsm.ext x10
            replace hx := hx.trans x10
            clear x10
            obtain ⟨bx, Bx, nx, cx, e8, hbx⟩ := ex
            have H9 := Lib.hid (And.intro hbx (And.intro h9 hg.1)); clear hbx h9
            obtain ⟨ce80, ce81⟩ := e8.cells2
            have fe8 := e8.frozen
            obtain ⟨ce100, ce101⟩ := e10.cells2
            have fe10 := e10.frozen
            refine wp_region_par (k := 14) (D := [82, 83, 84, 85, 86, 87, 88, 89, 90, 91, 92, 93, 94, 95]) (T := [[], [], [], [1, 2], [0, 1, 2, 3], [], [0, 1, 2, 3, 4, 5], [], [], [8], [8, 9], [7, 8, 9, 10], [0, 1, 2, 3, 4, 5, 6, 7, 8, 9, 10, 11], [0, 1, 2, 3, 4, 5, 6, 7, 8, 9, 10, 11, 12], [0, 1, 2, 3, 4, 5, 6, 7, 8, 9, 10, 11, 12, 13]]) (EK := [5, 13, 8, 1, 7, 10]) (EV := [?e1x0, ?e1x1, ?e1x2, ?e1x3, ?e1x4, ?e1x5]) (VL := [(kv ?v1x0), (kv ?v1x1), (kv ?v1x2), (fun γ => γ 3), (fun γ => γ 4), (kv ?v1x5), (fun γ => γ 6), (kv ?v1x7), (kv ?v1x8), (kv ?v1x9), (kv ?v1x10), (kv ?v1x11), (fun γ => γ 12), (fun γ => γ 13)]) (FL := fun γ w' => [True, True, True, IsZ w' (γ 3) (pcn Rr ^ b), IsZ w' (γ 4) (sgz n x * pcn Rr ^ b), True, IsZ w' (γ 6) (ld G).num, True, True, True, True, True, IsZ w' (γ 12) ((ld G).num ^ d), IsZ w' (γ 13) (sgz n x * pcn Rr ^ b * (ld G).num ^ d)]) ?hE1 (by kernel_rfl) (by kernel_rfl) (by rfl) (by kernel_rfl) ?hloc1 ?hmono1 ?hstep1 ?htail1
            case hE1 => refine ⟨?_, ?_, ?_, ?_, ?_, ?_, trivial⟩ <;> (simp only [List.getElem?_toArray, List.getElem?_cons_succ, List.getElem?_cons_zero]; rfl)
            case hstep1 =>
              refine ⟨⟨⟨⟨⟨⟨⟨⟨⟨⟨⟨⟨⟨⟨trivial, ?_⟩, ?_⟩, ?_⟩, ?_⟩, ?_⟩, ?_⟩, ?_⟩, ?_⟩, ?_⟩, ?_⟩, ?_⟩, ?_⟩, ?_⟩, ?_⟩
              · intro γ w' he hf; clear hf; refine ⟨trivial, ?_⟩; intro R hR
                have hc := he.cells
                have cq0 := he.cell ce80
                have cq1 := he.cell ce81
                have cq2 := he.cell ce100
                have cq3 := he.cell ce101
                go_simp
                (try go_ints); (try (rw [if_neg (by omega)])); (try (rw [if_pos (by omega)])); (try go_simp); (try go_ints)
                refine hR _ _ (Ext.refl _) ?_ trivial
                rfl
              · intro γ w' he hf; clear hf; refine ⟨trivial, ?_⟩; intro R hR
                have hc := he.cells
                have cq0 := he.cell ce80
                have cq1 := he.cell ce81
                have cq2 := he.cell ce100
                have cq3 := he.cell ce101
                go_simp
                (try go_ints); (try (rw [if_neg (by omega)])); (try (rw [if_pos (by omega)])); (try go_simp); (try go_ints)
                refine hR _ _ (Ext.refl _) ?_ trivial
                rfl
              · intro γ w' he hf; clear hf; refine ⟨trivial, ?_⟩; intro R hR
                have hc := he.cells
                go_simp
                (try go_ints); (try (rw [if_neg (by omega)])); (try (rw [if_pos (by omega)])); (try go_simp); (try go_ints)
                refine hR _ _ (Ext.refl _) ?_ trivial
                rfl
              · intro γ w' he hf; clear hf; refine ⟨trivial, ?_⟩; intro R hR
                go_simp
                refine Calls.mono (show Calls _ _ _ w' (Gives w' fun r w'' => IsZ w'' (r) (pcn Rr ^ b)) from power_z _ (pcn Rr) b M w' ((H9.out.2.1.kd he.kd).has (by have := HQ.out.2.1; have := HZ.out.2.2.2.2.2.2.2.1; omega)) HQ.out.2.1 HQ.out.2.2.2.1.1 HQ.out.2.2.2.1.2) ?_
                rintro e w2 ⟨v, rfl, hv, hx⟩
                exact ⟨v, rfl, hR v w2 hx rfl hv⟩
              · intro γ w' he hf; have f3 : IsZ w' (γ 3) (pcn Rr ^ b) := hf 3 (by decide); clear hf; refine ⟨trivial, ?_⟩; intro R hR
                go_simp
                refine Calls.mono (show Calls _ _ _ w' (Gives w' fun r w'' => IsZ w'' (r) (sgz n x * pcn Rr ^ b)) from mul_z _ _ _ _ w' ((H9.out.1.kd he.kd).has HQ.out.2.2.2.2.2.2.2.2.2.2) (f3.has HQ.out.2.2.2.2.2.2.2.1)) ?_
                rintro e w2 ⟨v, rfl, hv, hx⟩
                exact ⟨v, rfl, hR v w2 hx rfl hv⟩
              · intro γ w' he hf; clear hf; refine ⟨trivial, ?_⟩; intro R hR
                have hc := he.cells
                go_simp
                (try go_ints); (try (rw [if_neg (by omega)])); (try (rw [if_pos (by omega)])); (try go_simp); (try go_ints)
                refine hR _ _ (Ext.refl _) ?_ trivial
                rfl
              · intro γ w' he hf; have f3 : IsZ w' (γ 3) (pcn Rr ^ b) := hf 3 (by decide); have f4 : IsZ w' (γ 4) (sgz n x * pcn Rr ^ b) := hf 4 (by decide); clear hf; refine ⟨trivial, ?_⟩; intro R hR
                go_simp
                refine Calls.mono (show Calls _ _ _ w' (Gives w' fun r w'' => IsZ w'' (r) (ld G).num) from lead_z _ 0 G w' (H9.out.2.2.ext he) HS.out.nG) ?_
                rintro e w2 ⟨v, rfl, hv, hx⟩
                exact ⟨v, rfl, hR v w2 hx rfl hv⟩
              · intro γ w' he hf; clear hf; refine ⟨trivial, ?_⟩; intro R hR
                have hc := he.cells
                go_simp
                (try go_ints); (try (rw [if_neg (by omega)])); (try (rw [if_pos (by omega)])); (try go_simp); (try go_ints)
                refine hR _ _ (Ext.refl _) ?_ trivial
                rfl
              · intro γ w' he hf; clear hf; refine ⟨trivial, ?_⟩; intro R hR
                have hc := he.cells
                go_simp
                (try go_ints); (try (rw [if_neg (by omega)])); (try (rw [if_pos (by omega)])); (try go_simp); (try go_ints)
                refine hR _ _ (Ext.refl _) ?_ trivial
                rfl
              · intro γ w' he hf; clear hf; refine ⟨trivial, ?_⟩; intro R hR
                have hc := he.cells
                go_simp
                (try go_ints); (try (rw [if_neg (by omega)])); (try (rw [if_pos (by omega)])); (try go_simp); (try go_ints)
                refine hR _ _ (Ext.refl _) ?_ trivial
                rfl
              · intro γ w' he hf; clear hf; refine ⟨trivial, ?_⟩; intro R hR
                have hc := he.cells
                go_simp
                (try go_ints); (try (rw [if_neg (by omega)])); (try (rw [if_pos (by omega)])); (try go_simp); (try go_ints)
                refine hR _ _ (Ext.refl _) ?_ trivial
                rfl
              · intro γ w' he hf; clear hf; refine ⟨trivial, ?_⟩; intro R hR
                have hc := he.cells
                go_simp
                (try go_ints); (try (rw [if_neg (by omega)])); (try (rw [if_pos (by omega)])); (try go_simp); (try go_ints)
                refine hR _ _ (Ext.refl _) ?_ trivial
                rfl
              · intro γ w' he hf; have f3 : IsZ w' (γ 3) (pcn Rr ^ b) := hf 3 (by decide); have f4 : IsZ w' (γ 4) (sgz n x * pcn Rr ^ b) := hf 4 (by decide); have f6 : IsZ w' (γ 6) (ld G).num := hf 6 (by decide); clear hf; refine ⟨trivial, ?_⟩; intro R hR
                go_simp
                refine Calls.mono (show Calls _ _ _ w' (Gives w' fun r w'' => IsZ w'' (r) ((ld G).num ^ d)) from power_z _ _ d M w' (f6.has (by have := HQ.out.2.2.1; have := HZ.out.2.2.2.2.2.2.2.1; omega)) HQ.out.2.2.1 HQ.out.2.2.2.2.1.1 HQ.out.2.2.2.2.1.2) ?_
                rintro e w2 ⟨v, rfl, hv, hx⟩
                exact ⟨v, rfl, hR v w2 hx rfl hv⟩
              · intro γ w' he hf; have f3 : IsZ w' (γ 3) (pcn Rr ^ b) := hf 3 (by decide); have f4 : IsZ w' (γ 4) (sgz n x * pcn Rr ^ b) := hf 4 (by decide); have f6 : IsZ w' (γ 6) (ld G).num := hf 6 (by decide); have f12 : IsZ w' (γ 12) ((ld G).num ^ d) := hf 12 (by decide); clear hf; refine ⟨trivial, ?_⟩; intro R hR
                go_simp
                refine Calls.mono (show Calls _ _ _ w' (Gives w' fun r w'' => IsZ w'' (r) (sgz n x * pcn Rr ^ b * (ld G).num ^ d)) from mul_z _ _ _ _ w' (f4.has HQ.out.2.2.2.2.2.2.1) (f12.has HQ.out.2.2.2.2.2.2.2.2.1)) ?_
                rintro e w2 ⟨v, rfl, hv, hx⟩
                exact ⟨v, rfl, hR v w2 hx rfl hv⟩
            case hloc1 =>
              exact ⟨⟨⟨⟨⟨⟨⟨⟨⟨⟨⟨⟨⟨⟨trivial, (fun γ γ' h => ⟨rfl, fun _ => rfl⟩)⟩, (fun γ γ' h => ⟨rfl, fun _ => rfl⟩)⟩, (fun γ γ' h => ⟨rfl, fun _ => rfl⟩)⟩, (fun γ γ' h => ⟨h 3 rfl, fun w' => (congrArg (fun a => IsZ w' (a) (pcn Rr ^ b)) (h 3 rfl))⟩)⟩, (fun γ γ' h => ⟨h 4 rfl, fun w' => (congrArg (fun a => IsZ w' (a) (sgz n x * pcn Rr ^ b)) (h 4 rfl))⟩)⟩, (fun γ γ' h => ⟨rfl, fun _ => rfl⟩)⟩, (fun γ γ' h => ⟨h 6 rfl, fun w' => (congrArg (fun a => IsZ w' (a) (ld G).num) (h 6 rfl))⟩)⟩, (fun γ γ' h => ⟨rfl, fun _ => rfl⟩)⟩, (fun γ γ' h => ⟨rfl, fun _ => rfl⟩)⟩, (fun γ γ' h => ⟨rfl, fun _ => rfl⟩)⟩, (fun γ γ' h => ⟨rfl, fun _ => rfl⟩)⟩, (fun γ γ' h => ⟨rfl, fun _ => rfl⟩)⟩, (fun γ γ' h => ⟨h 12 rfl, fun w' => (congrArg (fun a => IsZ w' (a) ((ld G).num ^ d)) (h 12 rfl))⟩)⟩, (fun γ γ' h => ⟨h 13 rfl, fun w' => (congrArg (fun a => IsZ w' (a) (sgz n x * pcn Rr ^ b * (ld G).num ^ d)) (h 13 rfl))⟩)⟩
            case hmono1 =>
              exact ⟨⟨⟨⟨⟨⟨⟨⟨⟨⟨⟨⟨⟨⟨trivial, (fun γ wA w' e h => h)⟩, (fun γ wA w' e h => h)⟩, (fun γ wA w' e h => h)⟩, (fun γ wA w' e h => (show IsZ wA (γ 3) (pcn Rr ^ b) from h).ext e)⟩, (fun γ wA w' e h => (show IsZ wA (γ 4) (sgz n x * pcn Rr ^ b) from h).ext e)⟩, (fun γ wA w' e h => h)⟩, (fun γ wA w' e h => (show IsZ wA (γ 6) (ld G).num from h).ext e)⟩, (fun γ wA w' e h => h)⟩, (fun γ wA w' e h => h)⟩, (fun γ wA w' e h => h)⟩, (fun γ wA w' e h => h)⟩, (fun γ wA w' e h => h)⟩, (fun γ wA w' e h => (show IsZ wA (γ 12) ((ld G).num ^ d) from h).ext e)⟩, (fun γ wA w' e h => (show IsZ wA (γ 13) (sgz n x * pcn Rr ^ b * (ld G).num ^ d) from h).ext e)⟩
            intro γ w6 hx6 hF
            have p3 : IsZ w6 (γ 3) (pcn Rr ^ b) := Each.get hF 3 (by decide)
            have p4 : IsZ w6 (γ 4) (sgz n x * pcn Rr ^ b) := Each.get hF 4 (by decide)
            have p6 : IsZ w6 (γ 6) (ld G).num := Each.get hF 6 (by decide)
            have p12 : IsZ w6 (γ 12) ((ld G).num ^ d) := Each.get hF 12 (by decide)
            have p13 : IsZ w6 (γ 13) (sgz n x * pcn Rr ^ b * (ld G).num ^ d) := Each.get hF 13 (by decide)
            clear hF
            simp only [fillAll, gV, kv, List.getD_cons_zero, List.getD_cons_succ, Act.put, List.setIfInBounds_toArray, List.set_cons_zero, List.set_cons_succ, List.toList_toArray, List.drop_succ_cons, List.drop_zero, List.drop_nil, Nat.zero_add, Nat.reduceAdd]
            generalize γ 3 = g3 at *
            generalize γ 4 = g4 at *
            generalize γ 6 = g6 at *
            generalize γ 12 = g12 at *
            generalize γ 13 = g13 at *
            clear γ
            clear p3 p4 p6 p12 ce80 ce81 fe8 ce100 ce101 fe10 H9
            replace e8 := e8.ext hx6
            replace ez := ez.ext hx6
            replace ey := ey.ext hx6
            replace hg := hg.ext hx6
            replace hsm := hsm.ext hx6
            replace hx := hx.trans hx6
            clear hx6
            obtain ⟨b5, A5, n5, c5, rfl⟩ := p13.cells
            obtain ⟨ce80, ce81⟩ := e8.cells2
            have fe8 := e8.frozen
            go_wp2_with fail
            obtain ⟨W7, eW, e8', U⟩ := e8.put2 (.bool b5) (.slice A5 n5 c5) rfl rfl
            rw [← eW]
            clear eW e8
            replace p13 := p13.kd U.kd
            replace ey := ey.upd U (by simp <;> omega)
            replace ez := ez.upd U (by simp <;> omega)
            replace hg := hg.upd U (by simp <;> omega)
            replace hsm := hsm.upd U (by simp <;> omega)
            replace hx := U.from_ hx (by simp <;> omega)
            have e8 := e8'
            clear U e8'
            have ex := BoxZ.mk e8 p13
            clear e8 p13
            obtain ⟨by_, By, ny, cy, e9, hby⟩ := ey
            have H9 := Lib.hid (And.intro (hby.has (show sz y.natAbs ≤ 1099511627776 by have := HZ.out.2.2.2.1; omega)) hg.1); clear hby
            obtain ⟨ce90, ce91⟩ := e9.cells2
            have fe9 := e9.frozen
            refine wp_region_par (k := 11) (D := [96, 97, 98, 99, 100, 101, 102, 103, 104, 105, 106]) (T := [[], [], [1], [], [], [3, 4], [3, 4, 5], [], [3, 4, 5, 6, 7], [1, 2, 3, 4, 5, 6, 7, 8], [0, 1, 2, 3, 4, 5, 6, 7, 8, 9], [0, 1, 2, 3, 4, 5, 6, 7, 8, 9, 10]]) (EK := [6, 1, 7, 8]) (EV := [?e2x0, ?e2x1, ?e2x2, ?e2x3]) (VL := [(kv ?v2x0), (kv ?v2x1), (fun γ => γ 2), (kv ?v2x3), (kv ?v2x4), (kv ?v2x5), (kv ?v2x6), (kv ?v2x7), (kv ?v2x8), (fun γ => γ 9), (fun γ => γ 10)]) (FL := fun γ w' => [True, True, IsZ w' (γ 2) (ld G).num, True, True, True, True, True, True, IsZ w' (γ 9) ((ld G).num ^ k), IsZ w' (γ 10) (y * (ld G).num ^ k)]) ?hE2 (by kernel_rfl) (by kernel_rfl) (by rfl) (by kernel_rfl) ?hloc2 ?hmono2 ?hstep2 ?htail2
            case hE2 => refine ⟨?_, ?_, ?_, ?_, trivial⟩ <;> (simp only [List.getElem?_toArray, List.getElem?_cons_succ, List.getElem?_cons_zero]; rfl)
            case hstep2 =>
              refine ⟨⟨⟨⟨⟨⟨⟨⟨⟨⟨⟨trivial, ?_⟩, ?_⟩, ?_⟩, ?_⟩, ?_⟩, ?_⟩, ?_⟩, ?_⟩, ?_⟩, ?_⟩, ?_⟩
              · intro γ w' he hf; clear hf; refine ⟨trivial, ?_⟩; intro R hR
                have hc := he.cells
                have cq0 := he.cell ce90
                have cq1 := he.cell ce91
                go_simp
                (try go_ints); (try (rw [if_neg (by omega)])); (try (rw [if_pos (by omega)])); (try go_simp); (try go_ints)
                refine hR _ _ (Ext.refl _) ?_ trivial
                rfl
              · intro γ w' he hf; clear hf; refine ⟨trivial, ?_⟩; intro R hR
                have hc := he.cells
                go_simp
                (try go_ints); (try (rw [if_neg (by omega)])); (try (rw [if_pos (by omega)])); (try go_simp); (try go_ints)
                refine hR _ _ (Ext.refl _) ?_ trivial
                rfl
              · intro γ w' he hf; clear hf; refine ⟨trivial, ?_⟩; intro R hR
                go_simp
                refine Calls.mono (show Calls _ _ _ w' (Gives w' fun r w'' => IsZ w'' (r) (ld G).num) from lead_z _ 0 G w' (H9.out.2.ext he) HS.out.nG) ?_
                rintro e w2 ⟨v, rfl, hv, hx⟩
                exact ⟨v, rfl, hR v w2 hx rfl hv⟩
              · intro γ w' he hf; clear hf; refine ⟨trivial, ?_⟩; intro R hR
                have hc := he.cells
                go_simp
                (try go_ints); (try (rw [if_neg (by omega)])); (try (rw [if_pos (by omega)])); (try go_simp); (try go_ints)
                refine hR _ _ (Ext.refl _) ?_ trivial
                rfl
              · intro γ w' he hf; clear hf; refine ⟨trivial, ?_⟩; intro R hR
                have hc := he.cells
                go_simp
                (try go_ints); (try (rw [if_neg (by omega)])); (try (rw [if_pos (by omega)])); (try go_simp); (try go_ints)
                refine hR _ _ (Ext.refl _) ?_ trivial
                rfl
              · intro γ w' he hf; clear hf; refine ⟨trivial, ?_⟩; intro R hR
                have hc := he.cells
                go_simp
                (try go_ints); (try (rw [if_neg (by omega)])); (try (rw [if_pos (by omega)])); (try go_simp); (try go_ints)
                refine hR _ _ (Ext.refl _) ?_ trivial
                rfl
              · intro γ w' he hf; clear hf; refine ⟨trivial, ?_⟩; intro R hR
                have hc := he.cells
                go_simp
                (try go_ints); (try (rw [if_neg (by omega)])); (try (rw [if_pos (by omega)])); (try go_simp); (try go_ints)
                refine hR _ _ (Ext.refl _) ?_ trivial
                rfl
              · intro γ w' he hf; clear hf; refine ⟨trivial, ?_⟩; intro R hR
                have hc := he.cells
                go_simp
                (try go_ints); (try (rw [if_neg (by omega)])); (try (rw [if_pos (by omega)])); (try go_simp); (try go_ints)
                refine hR _ _ (Ext.refl _) ?_ trivial
                rfl
              · intro γ w' he hf; clear hf; refine ⟨trivial, ?_⟩; intro R hR
                have hc := he.cells
                go_simp
                (try go_ints); (try (rw [if_neg (by omega)])); (try (rw [if_pos (by omega)])); (try go_simp); (try go_ints)
                refine hR _ _ (Ext.refl _) ?_ trivial
                rfl
              · intro γ w' he hf; have f2 : IsZ w' (γ 2) (ld G).num := hf 2 (by decide); clear hf; refine ⟨trivial, ?_⟩; intro R hR
                go_simp
                refine Calls.mono (show Calls _ _ _ w' (Gives w' fun r w'' => IsZ w'' (r) ((ld G).num ^ k)) from power_z _ _ k M w' (f2.has (by have := HQ.out.2.2.1; have := HZ.out.2.2.2.2.2.2.2.1; omega)) HQ.out.2.2.1 HQ.out.2.2.2.2.2.1.1 HQ.out.2.2.2.2.2.1.2) ?_
                rintro e w2 ⟨v, rfl, hv, hx⟩
                exact ⟨v, rfl, hR v w2 hx rfl hv⟩
              · intro γ w' he hf; have f2 : IsZ w' (γ 2) (ld G).num := hf 2 (by decide); have f9 : IsZ w' (γ 9) ((ld G).num ^ k) := hf 9 (by decide); clear hf; refine ⟨trivial, ?_⟩; intro R hR
                go_simp
                refine Calls.mono (show Calls _ _ _ w' (Gives w' fun r w'' => IsZ w'' (r) (y * (ld G).num ^ k)) from mul_z _ _ _ _ w' (H9.out.1.kd he.kd) (f9.has HQ.out.2.2.2.2.2.2.2.2.2.1)) ?_
                rintro e w2 ⟨v, rfl, hv, hx⟩
                exact ⟨v, rfl, hR v w2 hx rfl hv⟩
            case hloc2 =>
              exact ⟨⟨⟨⟨⟨⟨⟨⟨⟨⟨⟨trivial, (fun γ γ' h => ⟨rfl, fun _ => rfl⟩)⟩, (fun γ γ' h => ⟨rfl, fun _ => rfl⟩)⟩, (fun γ γ' h => ⟨h 2 rfl, fun w' => (congrArg (fun a => IsZ w' (a) (ld G).num) (h 2 rfl))⟩)⟩, (fun γ γ' h => ⟨rfl, fun _ => rfl⟩)⟩, (fun γ γ' h => ⟨rfl, fun _ => rfl⟩)⟩, (fun γ γ' h => ⟨rfl, fun _ => rfl⟩)⟩, (fun γ γ' h => ⟨rfl, fun _ => rfl⟩)⟩, (fun γ γ' h => ⟨rfl, fun _ => rfl⟩)⟩, (fun γ γ' h => ⟨rfl, fun _ => rfl⟩)⟩, (fun γ γ' h => ⟨h 9 rfl, fun w' => (congrArg (fun a => IsZ w' (a) ((ld G).num ^ k)) (h 9 rfl))⟩)⟩, (fun γ γ' h => ⟨h 10 rfl, fun w' => (congrArg (fun a => IsZ w' (a) (y * (ld G).num ^ k)) (h 10 rfl))⟩)⟩
            case hmono2 =>
              exact ⟨⟨⟨⟨⟨⟨⟨⟨⟨⟨⟨trivial, (fun γ wA w' e h => h)⟩, (fun γ wA w' e h => h)⟩, (fun γ wA w' e h => (show IsZ wA (γ 2) (ld G).num from h).ext e)⟩, (fun γ wA w' e h => h)⟩, (fun γ wA w' e h => h)⟩, (fun γ wA w' e h => h)⟩, (fun γ wA w' e h => h)⟩, (fun γ wA w' e h => h)⟩, (fun γ wA w' e h => h)⟩, (fun γ wA w' e h => (show IsZ wA (γ 9) ((ld G).num ^ k) from h).ext e)⟩, (fun γ wA w' e h => (show IsZ wA (γ 10) (y * (ld G).num ^ k) from h).ext e)⟩
            intro γ w6 hx6 hF
            have p2 : IsZ w6 (γ 2) (ld G).num := Each.get hF 2 (by decide)
            have p9 : IsZ w6 (γ 9) ((ld G).num ^ k) := Each.get hF 9 (by decide)
            have p10 : IsZ w6 (γ 10) (y * (ld G).num ^ k) := Each.get hF 10 (by decide)
            clear hF
            simp only [fillAll, gV, kv, List.getD_cons_zero, List.getD_cons_succ, Act.put, List.setIfInBounds_toArray, List.set_cons_zero, List.set_cons_succ, List.toList_toArray, List.drop_succ_cons, List.drop_zero, List.drop_nil, Nat.zero_add, Nat.reduceAdd]
            generalize γ 2 = g2 at *
            generalize γ 9 = g9 at *
            generalize γ 10 = g10 at *
            clear γ
            clear p2 p9 ce90 ce91 fe9 H9
            replace e9 := e9.ext hx6
            replace ez := ez.ext hx6
            replace ex := ex.ext hx6
            replace hg := hg.ext hx6
            replace hsm := hsm.ext hx6
            replace hx := hx.trans hx6
            clear hx6
            obtain ⟨b5, A5, n5, c5, rfl⟩ := p10.cells
            obtain ⟨ce90, ce91⟩ := e9.cells2
            have fe9 := e9.frozen
            go_wp2
            obtain ⟨W7, eW, e9', U⟩ := e9.put2 (.bool b5) (.slice A5 n5 c5) rfl rfl
            rw [← eW]
            clear eW e9
            replace p10 := p10.kd U.kd
            replace ex := ex.upd U (by simp <;> omega)
            replace ez := ez.upd U (by simp <;> omega)
            replace hg := hg.upd U (by simp <;> omega)
            replace hsm := hsm.upd U (by simp <;> omega)
            replace hx := U.from_ hx (by simp <;> omega)
            have e9 := e9'
            clear U e9'
            go_roundw
            case rel => exact ⟨G, pp Rr, _, _, HS.out.step h1 (by omega) HR.out HRr.out.2.2, hg, hsm, ez, by rw [← Hn.out, ← HA.out.2, ← Hdk.out.1]; exact ex, by rw [← Hdk.out.2]; exact BoxZ.mk e9 p10, hx⟩
            case measure => exact swm_lt (show pl G + pl (pp Rr) < pl F + pl G by rw [HP.out.1]; omega)
    · have hG1 : pl G = 1 := by omega
      have hG1' : (pl G : Int) = 1 := by omega
      obtain ⟨bx, Bx, nx, cx, e8, hbx⟩ := ex
      obtain ⟨by_, By, ny, cy, e9, hby⟩ := ey
      obtain ⟨Ag, cg', lg, eg', -, -, hAg, kg3, -, kg5⟩ := hg.1.form
      have eAg : Ag = some ⟨gg, og, none⟩ := by injection eg' with h5; exact h5.symm
      subst eAg
      obtain ⟨g6, o6, b6, A6, n6, c6, e66, -, q0, q1, hq⟩ := hAg.at_ (j := 0) (by omega)
      injection e66 with e66
      injection e66 with e661 e662
      subst e661 e662
      have hl0 : lg[0]'(by omega) = (G 0).num := by
        have h1 := congrFun kg5 0
        rw [cz_lt (show 0 < lg.length by omega)] at h1
        rw [← h1]; rfl
      rw [hl0] at hq
      simp only [Nat.zero_mul, Nat.add_zero] at q0 q1
      have hend := HS.out.end_ hG1 (res_int HX.out.2.1 HX.out.2.2.2.1)
      have HE := Lib.hid hend
      have hzG : sz (G 0).num.natAbs ≤ M := Nat.le_trans (qsz_nm _) (HZ.out.2.1 0)
      have haD : na * M ≤ (pl F0 + pl G0) * M := Nat.mul_le_mul_right _ (by have := HA.out.1; omega)
      have HW := Lib.hid (show sz (G 0).num.natAbs ≤ M ∧ 1 + na * M ≤ 1099511627776 ∧ na ≤ 1099511627776 ∧ sz ((G 0).num ^ na).natAbs ≤ 1099511627776 ∧ sz (x * (G 0).num ^ na).natAbs ≤ 1099511627776 ∧ M ≤ 1099511627776 ∧ sz x.natAbs ≤ 1099511627776 ∧ sz y.natAbs ≤ 1099511627776 by
        have z := HZ.out
        have t1 := sz_powz _ _ hzG na
        have t2 := sz_mul x.natAbs ((G 0).num ^ na).natAbs
        rw [← Int.natAbs_mul] at t2
        have := HA.out.1
        refine ⟨hzG, ?_, ?_, ?_, ?_, ?_, ?_, ?_⟩ <;> omega)
      have H9 := Lib.hid (And.intro hbx (And.intro hby hq)); clear hbx hby hq hend hzG haD kg5 hl0 hAg
      obtain ⟨ce80, ce81⟩ := e8.cells2
      have fe8 := e8.frozen
      rw [hG1]
      clear hG1' h1 hib
      go_wp2_with fail
      refine wp_region_par (k := 9) (D := [109, 110, 111, 112, 113, 114, 115, 116, 117]) (T := [[], [], [1], [1, 2], [], [4], [4, 5], [1, 2, 3, 4, 5, 6], [0, 1, 2, 3, 4, 5, 6, 7], [0, 1, 2, 3, 4, 5, 6, 7, 8]]) (EK := [5, 1, 0]) (EV := [?e3x0, ?e3x1, ?e3x2]) (VL := [(kv ?v3x0), (kv ?v3x1), (kv ?v3x2), (kv ?v3x3), (kv ?v3x4), (kv ?v3x5), (kv ?v3x6), (fun γ => γ 7), (fun γ => γ 8)]) (FL := fun γ w' => [True, True, True, True, True, True, True, IsZ w' (γ 7) ((G 0).num ^ na), IsZ w' (γ 8) (x * (G 0).num ^ na)]) ?hE3 (by kernel_rfl) (by kernel_rfl) (by rfl) (by kernel_rfl) ?hloc3 ?hmono3 ?hstep3 ?htail3
      case hE3 => refine ⟨?_, ?_, ?_, trivial⟩ <;> (simp only [List.getElem?_toArray, List.getElem?_cons_succ, List.getElem?_cons_zero]; rfl)
      case hstep3 =>
        refine ⟨⟨⟨⟨⟨⟨⟨⟨⟨trivial, ?_⟩, ?_⟩, ?_⟩, ?_⟩, ?_⟩, ?_⟩, ?_⟩, ?_⟩, ?_⟩
        · intro γ w' he hf; clear hf; refine ⟨trivial, ?_⟩; intro R hR
          have hc := he.cells
          have cq0 := he.cell ce80
          have cq1 := he.cell ce81
          have cq2 := he.cell q0
          have cq3 := he.cell q1
          go_simp
          (try go_ints); (try (rw [if_neg (by omega)])); (try (rw [if_pos (by omega)])); (try go_simp); (try go_ints)
          refine hR _ _ (Ext.refl _) ?_ trivial
          rfl
        · intro γ w' he hf; clear hf; refine ⟨trivial, ?_⟩; intro R hR
          have hc := he.cells
          go_simp
          (try go_ints); (try (rw [if_neg (by omega)])); (try (rw [if_pos (by omega)])); (try go_simp); (try go_ints)
          refine hR _ _ (Ext.refl _) ?_ trivial
          rfl
        · intro γ w' he hf; clear hf; refine ⟨trivial, ?_⟩; intro R hR
          have hc := he.cells
          go_simp
          (try go_ints); (try (rw [if_neg (by omega)])); (try (rw [if_pos (by omega)])); (try go_simp); (try go_ints)
          refine hR _ _ (Ext.refl _) ?_ trivial
          rfl
        · intro γ w' he hf; clear hf; refine ⟨trivial, ?_⟩; intro R hR
          have hc := he.cells
          have cq0 := he.cell ce80
          have cq1 := he.cell ce81
          have cq2 := he.cell q0
          have cq3 := he.cell q1
          go_simp
          (try go_ints); (try (rw [if_neg (by omega)])); (try (rw [if_pos (by omega)])); (try go_simp); (try go_ints)
          refine hR _ _ (Ext.refl _) ?_ trivial
          rfl
        · intro γ w' he hf; clear hf; refine ⟨trivial, ?_⟩; intro R hR
          have hc := he.cells
          go_simp
          (try go_ints); (try (rw [if_neg (by omega)])); (try (rw [if_pos (by omega)])); (try go_simp); (try go_ints)
          refine hR _ _ (Ext.refl _) ?_ trivial
          rfl
        · intro γ w' he hf; clear hf; refine ⟨trivial, ?_⟩; intro R hR
          have hc := he.cells
          go_simp
          (try go_ints); (try (rw [if_neg (by omega)])); (try (rw [if_pos (by omega)])); (try go_simp); (try go_ints)
          refine hR _ _ (Ext.refl _) ?_ trivial
          rfl
        · intro γ w' he hf; clear hf; refine ⟨trivial, ?_⟩; intro R hR
          have hc := he.cells
          go_simp
          (try go_ints); (try (rw [if_neg (by omega)])); (try (rw [if_pos (by omega)])); (try go_simp); (try go_ints)
          refine hR _ _ (Ext.refl _) ?_ trivial
          rfl
        · intro γ w' he hf; clear hf; refine ⟨trivial, ?_⟩; intro R hR
          go_simp
          refine Calls.mono (show Calls _ _ _ w' (Gives w' fun r w'' => IsZ w'' (r) ((G 0).num ^ na)) from power_z _ _ na M w' ((H9.out.2.2.kd he.kd).has (by have := HW.out; omega)) HW.out.1 HW.out.2.1 HW.out.2.2.1) ?_
          rintro e w2 ⟨v, rfl, hv, hx⟩
          exact ⟨v, rfl, hR v w2 hx rfl hv⟩
        · intro γ w' he hf; have f7 : IsZ w' (γ 7) ((G 0).num ^ na) := hf 7 (by decide); clear hf; refine ⟨trivial, ?_⟩; intro R hR
          go_simp
          refine Calls.mono (show Calls _ _ _ w' (Gives w' fun r w'' => IsZ w'' (r) (x * (G 0).num ^ na)) from mul_z _ _ _ _ w' ((H9.out.1.kd he.kd).has HW.out.2.2.2.2.2.2.1) (f7.has HW.out.2.2.2.1)) ?_
          rintro e w2 ⟨v, rfl, hv, hx⟩
          exact ⟨v, rfl, hR v w2 hx rfl hv⟩
      case hloc3 =>
        exact ⟨⟨⟨⟨⟨⟨⟨⟨⟨trivial, (fun γ γ' h => ⟨rfl, fun _ => rfl⟩)⟩, (fun γ γ' h => ⟨rfl, fun _ => rfl⟩)⟩, (fun γ γ' h => ⟨rfl, fun _ => rfl⟩)⟩, (fun γ γ' h => ⟨rfl, fun _ => rfl⟩)⟩, (fun γ γ' h => ⟨rfl, fun _ => rfl⟩)⟩, (fun γ γ' h => ⟨rfl, fun _ => rfl⟩)⟩, (fun γ γ' h => ⟨rfl, fun _ => rfl⟩)⟩, (fun γ γ' h => ⟨h 7 rfl, fun w' => (congrArg (fun a => IsZ w' (a) ((G 0).num ^ na)) (h 7 rfl))⟩)⟩, (fun γ γ' h => ⟨h 8 rfl, fun w' => (congrArg (fun a => IsZ w' (a) (x * (G 0).num ^ na)) (h 8 rfl))⟩)⟩
      case hmono3 =>
        exact ⟨⟨⟨⟨⟨⟨⟨⟨⟨trivial, (fun γ wA w' e h => h)⟩, (fun γ wA w' e h => h)⟩, (fun γ wA w' e h => h)⟩, (fun γ wA w' e h => h)⟩, (fun γ wA w' e h => h)⟩, (fun γ wA w' e h => h)⟩, (fun γ wA w' e h => h)⟩, (fun γ wA w' e h => (show IsZ wA (γ 7) ((G 0).num ^ na) from h).ext e)⟩, (fun γ wA w' e h => (show IsZ wA (γ 8) (x * (G 0).num ^ na) from h).ext e)⟩
      intro γ w6 hx6 hF
      have p7 : IsZ w6 (γ 7) ((G 0).num ^ na) := Each.get hF 7 (by decide)
      have p8 : IsZ w6 (γ 8) (x * (G 0).num ^ na) := Each.get hF 8 (by decide)
      clear hF
      simp only [fillAll, gV, kv, List.getD_cons_zero, List.getD_cons_succ, Act.put, List.setIfInBounds_toArray, List.set_cons_zero, List.set_cons_succ, List.toList_toArray, List.drop_succ_cons, List.drop_zero, List.drop_nil, Nat.zero_add, Nat.reduceAdd]
      generalize γ 7 = g7 at *
      generalize γ 8 = g8 at *
      clear γ
      have hy := H9.out.2.1.kd hx6.kd
      clear p7 ce80 ce81 fe8 q0 q1 H9
      replace e8 := e8.ext hx6
      replace e9 := e9.ext hx6
      replace ez := ez.ext hx6
      replace hx := hx.trans hx6
      clear hx6
      obtain ⟨b5, A5, n5, c5, rfl⟩ := p8.cells
      rw [HA.out.1] at p8
      have hsn := HW.out.2.2.2.2.1
      rw [HA.out.1] at hsn
      have Hsn := Lib.hid hsn; clear hsn
      have Hy := Lib.hid hy; clear hy
      obtain ⟨ce80, ce81⟩ := e8.cells2
      have fe8 := e8.frozen
      obtain ⟨ce90, ce91⟩ := e9.cells2
      have fe9 := e9.frozen
      go_wp2_with fail
      have hy := Hy.out
      obtain ⟨W7, eW, e8', U⟩ := e8.put2 (.bool b5) (.slice A5 n5 c5) rfl rfl
      rw [← eW]
      clear eW e8
      replace p8 := p8.kd U.kd
      replace hy := hy.kd U.kd
      replace ez := ez.upd U (by simp <;> omega)
      replace hx := U.from_ hx (by simp <;> omega)
      have e8 := e8'
      clear U e8'
      clear ce80 ce81 fe8 ce90 ce91 fe9 e9 Hy
      have H8 := Lib.hid (And.intro p8 hy); clear p8 hy
      refine Calls.mono (exact_z _ _ _ y _ (H8.out.1.has Hsn.out) (H8.out.2.has HW.out.2.2.2.2.2.2.2) HS.out.ny HE.out.1) ?_
      rintro e w10 ⟨r, rfl, ⟨q, rfl, hq⟩, hx10⟩
      rw [HE.out.2] at hq
      obtain ⟨b7, A7, n7, c7, rfl⟩ := hq.cells
      clear e8
      replace ez := ez.ext hx10
      replace hx := hx.trans hx10
      clear hx10
      have ez1 := ez.alloc (.cells #[.bool b7, .slice A7 n7 c7] 28)
      have hx1 := hx.alloc (.cells #[.bool b7, .slice A7 n7 c7] 28)
      have hq1 := hq.kd ((Ext.refl w10).alloc (.cells #[.bool b7, .slice A7 n7 c7] 28)).kd
      have Hq1 := Lib.hid hq1; clear hq1 hq
      obtain ⟨cez10, cez11⟩ := ez1.cells2
      have fez1 := ez1.frozen
      go_wp2
      have hq1 := Hq1.out
      obtain ⟨W11, eW, ez1', U⟩ := ez1.put2 (.bool b7) (.slice A7 n7 c7) rfl rfl
      rw [← eW]
      clear eW ez1
      replace hq1 := hq1.kd U.kd
      replace hx1 := U.from_ hx1 (by simp <;> omega)
      have ez1 := ez1'
      clear U ez1'
      clear cez10 cez11 fez1
      obtain ⟨cez10, cez11⟩ := ez1.cells2
      have fez1 := ez1.frozen
      refine bodyPost_ret (v := .agg #[.bool b7, .slice A7 n7 c7]) (by simp [results, Tryd.results7, go_sem, cez10, cez11]) rfl ?_
      exact Gives.mk hq1 hx1
end Go.Proofs.YtfacbpnegkjcgaaDoor
namespace Go.Hp
open Go.RowKit
/-- The digits that have come after k rounds, for a number of one digit. -/
def fd (N k : Nat) : List Nat := (List.range k).map fun j => if j = 0 then 48 + N else 48
theorem fd_succ (N k : Nat) : fd N (k + 1) = fd N k ++ [if k = 0 then 48 + N else 48] := by simp [fd, List.range_succ]
theorem fd_len (N k : Nat) : (fd N k).length = k := by simp [fd]
theorem fd_get {N k j : Nat} (h : j < (fd N k).length) : (fd N k)[j] = if j = 0 then 48 + N else 48 := by simp [fd]
/-- A row of bytes of the call's own. -/
def OwnB (e : TypeId) (base : Nat) (w : World) (v : Value) (l : List Nat) : Prop := w.ownsRow base e 1 v l.length (l.map fun d => Value.int .u8 (d : Nat))
theorem OwnB.alloc {e : TypeId} {base : Nat} {w : World} {v : Value} {l : List Nat} (h : OwnB e base w v l) (o : Obj) : OwnB e base (w.alloc o) v l := World.ownsRow.alloc h o
theorem OwnB.from_ {e : TypeId} {base : Nat} {a w w' : World} {v : Value} {l : List Nat} (h : OwnB e base w v l) (hg : w.grownBy w' v.ownBlock) (x : Ext a w) (hb : a.heap.size ≤ base) : Ext a w' :=
  x.grown hg fun k hk => Nat.le_trans hb (World.ownsRow.lt h k hk).1
theorem OwnB.row {e : TypeId} {base : Nat} {w : World} {v : Value} {l : List Nat} (h : OwnB e base w v l) (h0 : l ≠ []) : ∃ g cap, v = .slice (some ⟨g, 0, none⟩) l.length cap ∧ base ≤ g ∧ l.length ≤ cap ∧ cap ≤ maxLen ∧ ∀ j (hj : j < l.length), w.cell? ⟨g, j, none⟩ = some (.int .u8 (l[j] : Nat)) := by
  rcases h.2 with ⟨-, h1⟩ | ⟨g, cap, cur, hv, r⟩
  · exact absurd (List.eq_nil_of_length_eq_zero h1) h0
  · refine ⟨g, cap, hv, r.1, r.2.2.1, r.2.2.2.1, fun j hj => ?_⟩
    have := World.ownsRow.cells h (g := g) (by rw [hv]; rfl) j (.int .u8 (l[j] : Nat)) (by simp [hj])
    have e : (⟨g, 0, none⟩ : Addr).add j = ⟨g, j, none⟩ := by simp only [Addr.add]; split <;> simp_all
    rw [e] at this
    exact this
theorem Box.grown {A B : World} {row : Option Nat} {g : Nat} {t : TypeId} {cs : Array Value} (h : Box A g t cs) (hg : A.grownBy B row) (hne : row ≠ some g) : Box B g t cs :=
  ⟨(hg.block g h.lt (fun e => hne e.symm)).trans h.1, h.2⟩
theorem OwnB.ne {e : TypeId} {base g : Nat} {w : World} {v : Value} {l : List Nat} (h : OwnB e base w v l) (hg : g < base) : v.ownBlock ≠ some g := fun e => by
  have := (World.ownsRow.lt h g e).1; omega
end Go.Hp
namespace Go.Proofs.YtfacbpnegkjcgaaDoor
open Go.RowKit Go.Hp
theorem abs_z (v : Value) (x : Int) (w : World) (hv : HasZ w v x) : Calls Tryd.prog 67 #[v] w (Gives w fun r w' => IsZ w' r (x.natAbs : Nat)) := by
  obtain ⟨neg, A, n, c, N, rfl, h1, h2, h3, hN, hx⟩ := hv.form
  have HN := Lib.hid hN; clear hN hv
  have Hx := Lib.hid (show ((x.natAbs : Nat) : Int) = if false = true then -(N : Int) else N by rw [hx]; cases neg <;> simp); clear hx
  have hs : sz N ≤ n := HN.out.sz
  go_enter Tryd.func67, Tryd.ntmps67
  go_wp2_with fail
  refine Calls.mono (trimmed_num _ N n _ (HN.out.ext (((Ext.refl w).alloc _).alloc _))) ?_
  rintro e w1 ⟨r1, rfl, p5, hx1⟩
  go_wp2_with fail
  refine Calls.mono (clone_nat _ N _ p5 (by omega)) ?_
  rintro e w2 ⟨r2, rfl, p6, hx2⟩
  replace hx1 := hx1.trans hx2
  go_wp2_with fail
  refine Calls.mono (signed_z (x.natAbs : Nat) false _ N _ w2 Hx.out (p6.num (Nat.le_refl _))) ?_
  rintro e w3 ⟨r3, rfl, hr, hx3⟩
  replace hx1 := hx1.trans hx3
  obtain ⟨b5, A5, n5, c5, rfl⟩ := hr.cells
  have hc1 := hx1.cells
  have hf1 := hx1.frozens
  have Hfin := Lib.hid (fin_z hr hx1.a2 (NoDig.at_ hx1 (g := w.heap.size + 1) (by simp) (by simp [isDig])) (by omega))
  clear hr
  go_wp2
  refine bodyPost_ret (v := .agg #[.bool b5, .slice A5 n5 c5]) (by simp [results, Tryd.results67, go_sem, hc1]) rfl ?_
  exact Hfin.out
theorem append_b (W : World) (base ty : Nat) (v : Value) (l : List Nat) (d g : Nat) (z : Int) (h : OwnB 5 base W v l) (hz : z = (d : Nat)) (hn : l.length ≤ 8796093022208) (hb : base ≤ W.heap.size) (hg : g = W.heap.size) :
    ∃ v' w', (Builtin.append_ #[68, 68] ty #[v, .slice (some ⟨g, 0, none⟩) 1 1]).run Tryd.prog (W.alloc (.cells #[.int .u8 z] 5)) = .ok v' w' ∧ (OwnB 5 base w' v' (l ++ [d]) ∧ (W.alloc (.cells #[.int .u8 z] 5)).grownBy w' v.ownBlock) := by
  subst hz hg
  obtain ⟨i0, hi, hz0, hz1, hz2⟩ := info_parts infoU8
  obtain ⟨v', w', a, b, c, _⟩ := run_append_own (P := Tryd.prog) (W.alloc (.cells #[.int .u8 (d : Nat)] 5)) base 68 ty 5 i0 (.int .u8 0) 1 1 Tryd.underlying68 hi hz0 hz1 hz2 rfl (by decide) v l.length _ (h.alloc _) ⟨W.heap.size, 0, none⟩ 1 1 [.int .u8 (d : Nat)] rfl (news_new W _ _) (by intro u hu; simp at hu; subst hu; rfl) (by simp only [maxLen]; omega) (by omega) (by simp; omega)
  refine ⟨v', w', a, ?_, c⟩
  unfold OwnB
  rw [List.length_append, List.map_append]
  exact b
theorem reverse_one (A : Option Addr) (cap : Nat) (w : World) : Calls Tryd.prog 76 #[.slice A 1 cap] w fun e w' => e = .returned (.tuple #[]) ∧ w' = w := by
  go_enter Tryd.func76, Tryd.ntmps76
  go_wp2
  go_loop [2, 3] (fun i j => i = .int .i64 0 ∧ j = .int .i64 0) (fun _ _ => 0)
  case atStart => exact ⟨rfl, rfl⟩
  case round =>
    obtain ⟨rfl, rfl⟩ := hrel
    go_wp2
    go_end0
    exact ⟨rfl, rfl⟩
set_option maxRecDepth 20000 in
set_option maxHeartbeats 4000000 in
theorem format_one (v : Value) (N : Nat) (w : World) (hv : IsZ w v (N : Int)) (h1 : 1 ≤ N) (h9 : N ≤ 9) : Calls Tryd.prog 66 #[v] w (Gives w fun r _ => r = .string ⟨#[UInt8.ofNat (48 + N)]⟩) := by
  obtain ⟨q8, hq8⟩ : ∃ q, q = UInt8.ofNat (48 + N) := ⟨_, rfl⟩
  rw [← hq8]
  have H8 := Lib.hid (show q8.toNat = 48 + N by rw [hq8]; simp; omega); clear hq8
  obtain ⟨A, c, rfl, hc1, hc2⟩ := hv.natform
  have hnat := hv.natn
  obtain ⟨ds, hd, hnv, htop⟩ := hnat
  have hlen : ds.length = sz N := by
    obtain ⟨A', c', e1, -⟩ := hd
    injection e1 with e1 e2 e3; exact e2.symm
  have hsz : sz N = 1 := by
    have a1 : sz N ≤ 1 := sz_small (by omega)
    have a2 : ¬ sz N ≤ 0 := fun h => by have := sz_le_iff.1 h; rw [bp_zero] at this; omega
    omega
  rw [hsz] at hlen hc1 hd ⊢
  have HD := Lib.hid (And.intro hd (And.intro hlen (And.intro hnv htop)))
  clear hd hlen hnv htop hv
  have eb := Box.new w 28 #[.bool false, .slice A 1 c] (by simp [isDig])
  have hx := (Ext.refl w).alloc (.cells #[.bool false, .slice A 1 c] 28)
  go_enter Tryd.func66, Tryd.ntmps66
  go_wp2_with fail
  refine Calls.mono (trimmed_any _ ds _ (HD.out.1.ext hx)) ?_
  rintro e w1 ⟨r1, rfl, hr1, hx1⟩
  rw [trim_of_top HD.out.2.2.2] at hr1
  obtain ⟨A1, c1, rfl, -⟩ := id hr1
  have Hr1 := Lib.hid hr1; clear hr1
  rw [HD.out.2.1]
  replace eb := eb.ext hx1
  replace hx := hx.trans hx1
  clear hx1
  go_wp2
  go_loopw [3, 4] (fun mv dv wr => ((mv = .slice A1 1 c1 ∧ DigV wr mv ds ∧ dv = .slice none 0 0) ∨ (∃ A c, mv = .slice A 0 c ∧ OwnB 5 (w.heap.size + 1) wr dv (fd N 9))) ∧ Box wr w.heap.size 28 #[.bool false, .slice A 1 c] ∧ Ext w wr) (fun mv _ _ => lenV mv)
  case atStart => exact ⟨.inl ⟨rfl, by have := Hr1.out; rw [HD.out.2.1] at this; exact this, rfl⟩, eb, hx⟩
  case round =>
    clear eb hx Hr1
    obtain ⟨hst, eb, hx⟩ := hrel
    rcases hst with ⟨rfl, hd, rfl⟩ | ⟨A2, c2, rfl, hown⟩
    · have Hd := Lib.hid hd; clear hd
      go_wp2_with fail
      refine Calls.mono (short_any _ ds 1000000000 _ Hd.out (by omega) (by omega) (by rw [HD.out.2.1]; omega)) ?_
      rintro e w2 ⟨r, rfl, ⟨q, l, rfl, hq, hnq, hlq⟩, hx2⟩
      have hrN : nv ds % 1000000000 = N := by rw [HD.out.2.2.1]; omega
      rw [hrN]
      have htl : trim l = [] := (trim_nil_iff l).2 (by rw [hnq, HD.out.2.2.1]; omega)
      have Hq := Lib.hid (And.intro hq htl); clear hq hnq hlq htl hrN
      replace eb := eb.ext hx2
      replace hx := hx.trans hx2
      clear hx2 Hd
      go_wp2_with fail
      refine Calls.mono (trimmed_any _ l _ Hq.out.1) ?_
      rintro e w3 ⟨r, rfl, hr, hx3⟩
      rw [Hq.out.2] at hr
      obtain ⟨A3, c3, rfl, -⟩ := hr
      replace eb := eb.ext hx3
      replace hx := hx.trans hx3
      clear hx3 Hq
      go_wp2
      go_loopw [23, 4, 6] (fun kv dv rv wr => ∃ k : Nat, k ≤ 9 ∧ kv = .int .i64 k ∧ rv = .int .u32 ((if k = 0 then N else 0 : Nat)) ∧ OwnB 5 (w.heap.size + 1) wr dv (fd N k) ∧ Box wr w.heap.size 28 #[.bool false, .slice A 1 c] ∧ Ext w wr) (fun kv _ _ _ => 9 - (intOf kv).toNat)
      case atStart => exact ⟨0, by omega, rfl, rfl, World.ownsRow_nil _ _ _ _, eb, hx⟩
      case round =>
        clear eb hx
        obtain ⟨k, hk, rfl, rfl, hown, eb, hx⟩ := hrel
        have Hown := Lib.hid hown; clear hown
        have hsz2 := eb.lt
        by_cases hk9 : k < 9
        · obtain ⟨r, hr⟩ : ∃ r : Nat, r = if k = 0 then N else 0 := ⟨_, rfl⟩
          rw [← hr]
          have hr9 : r ≤ 9 := by rw [hr]; split <;> omega
          have hD : (if k = 0 then 48 + N else 48) = 48 + r := by rw [hr]; split <;> omega
          have Hr := Lib.hid hr; have HDd := Lib.hid hD; clear hr hD
          go_wp2_with (at_builtin; refine wpList_append_run rfl _ _ 68 rfl u4 (.slice (some ⟨wr.heap.size, 0, none⟩) 1 1) rfl rfl (append_b wr (w.heap.size + 1) _ _ (fd N k) (48 + r) _ _ Hown.out (by omega) (by rw [fd_len]; omega) hsz2 rfl) ?_)
          rintro v' w5 hown hg
          replace hx := (Hown.out.alloc _).from_ hg (hx.alloc _) (by omega)
          replace eb := (eb.alloc _).grown hg (Hown.out.ne (by omega))
          have Hown' := Lib.hid hown; clear hown hg
          go_wp2
          go_roundw
          case rel => exact ⟨k + 1, by omega, by go_num, by rw [if_neg (by omega)]; congr 1; omega, by rw [fd_succ, HDd.out]; exact Hown'.out, eb, hx⟩
          case measure => simp [intOf]; omega
        · obtain rfl : k = 9 := by omega
          go_wp2
          go_roundw
          case rel => exact ⟨.inr ⟨A3, c3, rfl, Hown.out⟩, eb, hx⟩
          case measure => simp [lenV]
    · obtain ⟨g, cap, rfl, hbg, hcap, hmax, hcell⟩ := hown.row (by simp [fd])
      rw [fd_len] at hcap
      have hcell' : ∀ j, j < 9 → wr.cell? ⟨g, j, none⟩ = some (.int .u8 ((if j = 0 then 48 + N else 48 : Nat))) := fun j hj => by
        rw [hcell j (by rw [fd_len]; exact hj), fd_get]
      have hmc : cap ≤ 9223372036854775807 := maxLen_le hmax
      have HC := Lib.hid hcell'
      clear hcell hcell' hown hmax
      rw [fd_len]
      have hbox := eb.cells2
      have Hx := Lib.hid hx; clear hx
      go_wp2
      go_loop [4] (fun dv => ∃ m : Nat, m < 9 ∧ dv = .slice (some ⟨g, 0, none⟩) (m + 1) cap) (fun dv => lenV dv)
      case atStart => exact ⟨8, by omega, rfl⟩
      case round =>
        obtain ⟨k, hk, rfl⟩ := hrel
        have hck := HC.out k hk
        by_cases hk0 : k = 0
        · subst hk0
          rw [if_pos rfl] at hck
          have hb0 : (((48 + N : Nat) : Int) == 48) = false := by simp; omega
          have hconv : (convert 68 9 (.slice (some ⟨g, 0, none⟩) 1 cap)).run Tryd.prog wr = .ok (.string ⟨#[q8]⟩) wr := run_convert_bytes_back (P := Tryd.prog) wr 68 9 5 ⟨g, 0, none⟩ cap [q8] Tryd.underlying68 Tryd.underlying5 Tryd.underlying9 (fun j hj => by
            obtain rfl : j = 0 := by simpa using hj
            have h0 := HC.out 0 (by omega)
            rw [if_pos rfl] at h0
            have e : (⟨g, 0, none⟩ : Addr).add 0 = ⟨g, 0, none⟩ := by simp [Addr.add]
            rw [e, h0]
            show some (Value.int .u8 ((48 + N : Nat) : Int)) = some (.int .u8 (q8.toNat : Int))
            rw [H8.out])
          obtain ⟨cb0, cb1⟩ := hbox
          go_wp2_with fail
          refine Calls.mono (reverse_one _ _ _) ?_
          rintro e w6 ⟨rfl, rfl⟩
          go_wp2
          go_ret
          exact Gives.mk rfl Hx.out
        · rw [if_neg hk0] at hck
          obtain ⟨k, rfl⟩ : ∃ m, k = m + 1 := ⟨k - 1, by omega⟩
          go_wp2
          go_round
          case rel => exact ⟨k, by omega, by go_num⟩
          case measure => simp [lenV]
end Go.Proofs.YtfacbpnegkjcgaaDoor
namespace Go.Hp
open Go.RowKit
/-- The indices that have come when k rounds of a walk from behind are over. -/
def dz (n k : Nat) (h : k ≤ n) : List (Fin n) := (List.range k).pmap (fun j (hj : j < n) => (⟨n - 1 - j, by omega⟩ : Fin n)) (fun j hj => by have := List.mem_range.1 hj; omega)
theorem dz_succ {n k : Nat} (h : k + 1 ≤ n) : dz n (k + 1) h = dz n k (by omega) ++ [⟨n - 1 - k, by omega⟩] := by
  unfold dz
  simp [List.range_succ, List.pmap_append]
theorem dz_length {n k : Nat} (h : k ≤ n) : (dz n k h).length = k := by simp [dz]
/-- The cells of one integer. -/
def IntCells (W : World) (b o : Nat) (v : Value) : Prop :=
  ∃ b1 A1 n1 c1, v = .agg #[.bool b1, .slice A1 n1 c1] ∧ W.cell? ⟨b, o, none⟩ = some (.bool b1) ∧ W.cell? ⟨b, o + 1, none⟩ = some (.slice A1 n1 c1)
theorem IntCells.below {n₀ b o : Nat} {A B : World} {v : Value} (h : Below n₀ A B) (hb : b < n₀) (c : IntCells A b o v) : IntCells B b o v := by
  obtain ⟨b1, A1, n1, c1, e, q0, q1⟩ := c
  exact ⟨b1, A1, n1, c1, e, (h.cell (p := ⟨b, o, none⟩) hb).trans q0, (h.cell (p := ⟨b, o + 1, none⟩) hb).trans q1⟩
/-- What a round keeps: what lay below n₀; and the box Bs. -/
def KpZ (n₀ Bs : Nat) (W W' : World) : Prop := Below n₀ W W' ∧ ∀ v, W.cell? ⟨Bs, 0, none⟩ = some v → W'.cell? ⟨Bs, 0, none⟩ = some v
theorem KpZ.refl (n₀ Bs : Nat) (W : World) : KpZ n₀ Bs W W := ⟨Below.refl _ _, fun _ h => h⟩
theorem KpZ.trans {n₀ Bs : Nat} {A B C : World} (h : KpZ n₀ Bs A B) (k : KpZ n₀ Bs B C) : KpZ n₀ Bs A C := ⟨h.1.trans k.1, fun v e => k.2 v (h.2 v e)⟩
theorem kpZ_b {n₀ Bs : Nat} {w : World} (hn : n₀ ≤ w.heap.size) (W : World) (l : Nat) (o o' : Obj) (hl : w.heap.size ≤ l) (h : W.heap[l]? = some o) (h1 : o.isCells = false) (h2 : o.isWalk = false) : KpZ n₀ Bs W (W.putObj l o') :=
  ⟨belowK_b hn W l o o' hl h h1 h2, fun v e => cell_kept e (grownBy_putObj' W l o') (fun r er => by cases er; exact ⟨o, h, h1⟩)⟩
end Go.Hp
namespace Go.Proofs.YtfacbpnegkjcgaaDoor
open Go.RowKit Go.Hp Go.Shelf
attribute [local go_sem] Oper.semAt_some
set_option maxRecDepth 100000 in
set_option maxHeartbeats 2000000 in
theorem zback1_in (F : Fence) (n : Nat) (h7 : F.fn 64) (hro : F.round = none) (hn : 1 ≤ n) (l Bs n₀ b off len cap : Nat) (enc : Fin len → Value) (hreach : len * 4 ≤ 1099511627776) (hb : b < n₀) (J Jx : List (Fin len) → World → Prop)
    (hY : ∀ pre x W, J pre W → pre.length < len → YieldAt F (n - 1) Tryd.prog l #[.int .i64 (x.1 : Nat), enc x] W fun e W' =>
      (e = .returned (.bool true) ∧ J (pre ++ [x]) W' ∧ KpZ n₀ Bs W W') ∨ (e = .returned (.bool false) ∧ Jx (pre ++ [x]) W'))
    (W : World) (hBs : W.cell? ⟨Bs, 0, none⟩ = some (.slice (some ⟨b, off, none⟩) len cap)) (hc : ∀ j (hj : j < len), IntCells W b (off + j * 2) (enc ⟨j, hj⟩)) (h0 : J [] W) :
    CallsIn F n Tryd.prog 64 #[.func (.yield l) #[] #[], .pointer (some ⟨Bs, 0, none⟩)] W fun e W' => (∃ v, e = .returned v) ∧
      ((∃ ys, ys = dz len len (Nat.le_refl _) ∧ J ys W') ∨ (∃ pre, (∃ k, ∃ h : k ≤ len, pre = dz len k h) ∧ Jx pre W')) := by
  refine callsIn_of_wp Tryd.func64 rfl h7 ?_ hro
  simp only [Tryd.ntmps64, List.size_toArray, List.length_cons, List.length_nil, Nat.reduceAdd, Nat.reduceSub, Array.replicate_succ, Array.replicate_zero, List.push_toArray, List.append_toArray, List.nil_append, List.cons_append]
  gi_wp2
  gi_loopw [3] (fun i wr => ∃ (k : Nat) (hk : k ≤ len), i = .int .i64 ((len : Int) - 1 - k) ∧ J (dz len k hk) wr ∧ KpZ n₀ Bs W wr)
    (fun i _ => (intOf i + 1).toNat)
  case atStart => exact ⟨0, Nat.zero_le _, by go_num, h0, KpZ.refl _ _ _⟩
  case round =>
    obtain ⟨k, hk, rfl, hJs, hnx⟩ := hrel
    by_cases hlt : k < len
    · obtain ⟨b1, A1, n1, c1, hv, q0, q1⟩ := (hc (len - 1 - k) (by omega)).below hnx.1 hb
      have hbx := hnx.2 _ hBs
      obtain ⟨fn, tmps, assign, body, hy, hR⟩ := hY _ ⟨len - 1 - k, by omega⟩ wr hJs (by rw [dz_length]; exact hlt)
      dsimp only at hy
      rw [hv] at hy
      obtain ⟨m, hm⟩ : ∃ m, m = len - 1 - k := ⟨_, rfl⟩
      have hmi : (len : Int) - 1 - k = (m : Int) := by omega
      have hml : m < len := by omega
      simp only [← hm] at hy q0 q1
      rw [hmi]
      clear hJs hY h0 hc
      have Hm := Lib.hid (And.intro hm hmi); clear hm hmi
      gi_wp2
      refine hR.mono ?_
      rintro e W3 (⟨rfl, hJ3, hk3⟩ | ⟨rfl, hJx3⟩)
      · gi_wp2
        go_roundw
        case rel => exact ⟨k + 1, by omega, by have := Hm.out.2; congr 1; omega, by rw [dz_succ]; exact hJ3, hnx.trans hk3⟩
        case measure => simp [intOf]
      · gi_wp2
        refine bodyPost_ret (results_none rfl _ _ _) rfl ?_
        exact ⟨⟨_, rfl⟩, .inr ⟨_, ⟨k + 1, by omega, (dz_succ (by omega)).symm⟩, hJx3⟩⟩
    · obtain rfl : k = len := by omega
      gi_wp2
      go_end0
      exact ⟨⟨_, rfl⟩, .inl ⟨_, rfl, hJs⟩⟩
set_option maxRecDepth 100000 in
set_option maxHeartbeats 1000000 in
theorem zback1_none_in (F : Fence) (n : Nat) (h7 : F.fn 64) (hro : F.round = none) (l Bs cap : Nat) (A : Option Addr) (J : List (Fin 0) → World → Prop) (W : World) (hBs : W.cell? ⟨Bs, 0, none⟩ = some (.slice A 0 cap)) (h0 : J [] W) :
    CallsIn F n Tryd.prog 64 #[.func (.yield l) #[] #[], .pointer (some ⟨Bs, 0, none⟩)] W fun e W' => (∃ v, e = .returned v) ∧ J [] W' := by
  refine callsIn_of_wp Tryd.func64 rfl h7 ?_ hro
  simp only [Tryd.ntmps64, List.size_toArray, List.length_cons, List.length_nil, Nat.reduceAdd, Nat.reduceSub, Array.replicate_succ, Array.replicate_zero, List.push_toArray, List.append_toArray, List.nil_append, List.cons_append]
  gi_wp2
  gi_loopw [3] (fun i wr => i = .int .i64 (-1) ∧ J [] wr) (fun _ _ => 0)
  case atStart => exact ⟨rfl, h0⟩
  case round =>
    obtain ⟨rfl, hJs⟩ := hrel
    gi_wp2
    go_end0
    exact ⟨⟨_, rfl⟩, hJs⟩
set_option maxHeartbeats 1000000 in
/-- slices.Backward(s): the slice is boxed; the function captures the box. -/
theorem zback_in (F : Fence) (n : Nat) (h5 : F.fn 43) (hro : F.round = none) (a : Option Addr) (len cap : Nat) (w : World) :
    CallsIn F n Tryd.prog 43 #[.slice a len cap] w fun e w' => e = .returned (.func (.func 64) #[] #[.pointer (some ⟨w.heap.size, 0, none⟩)]) ∧ w' = w.alloc (.cells #[.slice a len cap] 23) := by
  refine callsIn_of_wp Tryd.func43 rfl h5 ?_ hro
  simp only [Tryd.ntmps43, List.size_toArray, List.length_cons, List.length_nil, Nat.reduceAdd, Nat.reduceSub, Array.replicate_succ, Array.replicate_zero, List.push_toArray, List.append_toArray, List.nil_append, List.cons_append]
  gi_wp2
  go_ret
  exact ⟨rfl, rfl⟩
/-- The contract of slices.Backward's iterator over a slice of fractions that lies below n₀, its box at Bs. -/
theorem zback_stops (F : Fence) (n : Nat) (h7 : F.fn 64) (hro : F.round = none) (hn : 1 ≤ n) (Bs n₀ len cap : Nat) (A : Option Addr) (enc : Fin len → Value) (hreach : len * 4 ≤ 1099511627776) (w : World) (hBs : Bs < w.heap.size) (hn₀ : n₀ ≤ w.heap.size)
    (hc : w.cell? ⟨Bs, 0, none⟩ = some (.slice A len cap)) (hI : 0 < len → ∃ b off, A = some ⟨b, off, none⟩ ∧ b < n₀ ∧ ∀ j (hj : j < len), IntCells w b (off + j * 2) (enc ⟨j, hj⟩)) :
    SeqStopsK F n Tryd.prog 64 #[.pointer (some ⟨Bs, 0, none⟩)] (fun x : Fin len => #[Value.int .i64 (x.1 : Nat), enc x]) (KpZ n₀ Bs) (fun ys => ys = dz len len (Nat.le_refl _)) (fun pre => ∃ k, ∃ h : k ≤ len, pre = dz len k h) len w := fun l J Jx W hW _ _ hY h0 => by
  have hc' := (hW.cell (p := ⟨Bs, 0, none⟩) hBs).trans hc
  by_cases hl : 0 < len
  · obtain ⟨b, off, rfl, hb, hcs⟩ := hI hl
    exact zback1_in F n h7 hro hn l Bs n₀ b off len cap enc hreach hb J Jx hY W hc' (fun j hj => (hcs j hj).below (hW.mono hn₀) hb) h0
  · obtain rfl : len = 0 := by omega
    exact (zback1_none_in F n h7 hro l Bs cap A J W hc' h0).mono fun e W' ⟨he, hj⟩ => ⟨he, .inl ⟨_, rfl, hj⟩⟩
end Go.Proofs.YtfacbpnegkjcgaaDoor
