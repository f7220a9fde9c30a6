/- Lemmas: The walks of qpoly: rows. The walks of qpoly: Add, Sub, Scale. The walks of qpoly: Scale; the wrappers. The walk of qpoly.Mul. The walks of qpoly: Derivative. The division, place by place. Plain. The walk of qpoly.divide. Power sums, one after the other; how many digits they need. Plain. How many digits power sums need. Plain. The reference's power sums: what is left of the shifted derivative. Plain. The polynomial with given power sums. Plain. The walks of the reference's polynomials: Normal, Degree, At. The walks of the reference's polynomials: Add, Scale, Sub, Derivative. The walks of the reference's polynomials: Sub, Derivative, Mul. The walk of the reference's division of polynomials. Euclid's algorithm for polynomials: what a round keeps; sizes. Plain. Interpolation: Newton's and Lagrange's way; sizes. Plain. Euclid's algorithm with cofactors: what a round keeps; sizes. Plain. The walks of the reference's polynomials: Lead, Monic, Eval; contracts over polynomials. The walks of qpoly: monic, DivMod. The walks of qpoly: PowerSums. The walks of the reference's polynomials: PowerSums. The walks of qpoly: FromPowerSums. The walks of the reference's polynomials: FromPowerSums. The walks of the statements' helpers: Z, Q, Qs, Frac, SameRats. The walks of the statements' helpers: Frac. The walks of the statements' helpers: awake, long. What an argument reads as: polynomials in any form; the walk of long. Points: two fractions side by side; slices of points. What an argument reads as: slices of structs, once for all. Polynomials over the integers as arguments. The walks of the reference's polynomials over the integers: Normal, Degree, At, Lead. The walks of the helpers of the statements about zpoly: Zs, long. The walk of SameInts. The walk of awake of the statements about zpoly. The walks of the reference's polynomials over the integers: Content, Over, Primitive. Contracts of zpoly's functions over polynomials. The walk of the statement ZpolyContents. The walks of the reference's polynomials over the integers: Add, Scale, Sub. The walks of the reference's polynomials over the integers: Derivative, Mul; of the program's Derivative. Boxes through the rounds of a range over a function. Plain. The walk of zpoly.Eval. The walks of the reference's Raised and Shift; its polynomials over the integers, over polynomials. The walks of the reference's Eval and Compose over integers. Division of polynomials over the integers without remainder. Plain. The greatest common divisor over the integers: what a round keeps; what comes out. Plain. Products of integer polynomials: how many digits. Plain. Composition: what both sides compute, from the highest coefficient on. Plain. The walk of the reference's Compose. The walks of bigint.Exact where nothing is divided, and of zpoly.Divide. The walk of zpoly.Compose. -/
import Derived.Test.YtfacbpnegkjcgaaGreatDoorEv1
import Derived.Test.YtfacbpnegkjcgaaGreatDoorEv2
import Derived.Test.YtfacbpnegkjcgaaGreatDoorEv3
import Derived.Test.YtfacbpnegkjcgaaGreatDoorEv4
import Derived.Deep.RegionWith
import Derived.ProofKit
import Derived.ChangeSlices
import Derived.Deep.Slices
import Derived.RangeFuncNested
import Derived.RangeFuncBound
import Derived.RangeFuncCalls
import Derived.RangeFuncLeaves
import Derived.Shelf.Abstract
import Derived.Shelf.RegionOpen
import Derived.WalkKit
import Derived.OwnWalkIn
import Derived.TacticsInMore
import Derived.LoopNIn
import Derived.LoopIn
set_option linter.unusedVariables false
set_option linter.unusedSimpArgs false
namespace Go.Proofs.YtfacbpnegkjcgaaGreatDoor
open Go.RowKit Go.Hp
theorem QsV.trim {base : Nat} {w : World} {A : Option Addr} {l : List Rat} (h : QsAt base w A l) {c : Nat} (hl : l.length ≤ c) (hc : c ≤ 9223372036854775807 := by omega) : QsV base w (.slice A (trimR l).length c) (trimR l) := by
 refine ⟨A, c, rfl, by have := trimR_len l; omega, hc, ?_⟩
 rw [trimR_prefix l]
 exact RowAt.take h _
end Go.Proofs.YtfacbpnegkjcgaaGreatDoor
namespace Go.Hp
theorem HasQ.zero (w : World) : HasQ w (.agg #[.bool false, .slice none 0 0, .bool false, .slice none 0 0]) 0 :=
 ⟨_, _, _, _, _, _, _, _, 0, 0, rfl, (IsZ.zero w).has (by decide), (IsZ.zero w).has (by decide), by decide, by decide, by simp⟩
end Go.Hp
namespace Go.Proofs.YtfacbpnegkjcgaaGreatDoor
open Go.RowKit Go.Hp
end Go.Proofs.YtfacbpnegkjcgaaGreatDoor
namespace Go.Proofs.YtfacbpnegkjcgaaGreatDoor
open Go.RowKit Go.Hp
end Go.Proofs.YtfacbpnegkjcgaaGreatDoor
namespace Go.Hp
end Go.Hp
namespace Go.Proofs.YtfacbpnegkjcgaaGreatDoor
open Go.RowKit Go.Hp
end Go.Proofs.YtfacbpnegkjcgaaGreatDoor
namespace Go.Hp
end Go.Hp
namespace Go.Proofs.YtfacbpnegkjcgaaGreatDoor
open Go.RowKit Go.Hp
end Go.Proofs.YtfacbpnegkjcgaaGreatDoor
namespace Go.Hp
theorem map_full (l : List Rat) : l.map some = full l.length (co l) := by
 apply List.ext_getElem
 ·simp [full]
 ·intro i h1 h2
  have : i < l.length := by simpa using h1
  simp [full, co_lt this]
/-- A quotient, and no error. -/
def TupQ (w : World) (v : Value) (c : Rat) : Prop := ∃ a, v = .tuple #[a, .int .i64 0] ∧ IsQ w a c
theorem TupQ.ext {w w' : World} {v : Value} {c : Rat} (h : TupQ w v c) (e : Ext w w') : TupQ w' v c := by
 obtain ⟨a, h1, h2⟩ := h; exact ⟨a, h1, h2.ext e⟩
theorem full_of {la : List (Option Rat)} {n : Nat} {Q : Nat → Rat} (hl : la.length = n) (h : ∀ j (hj : j < la.length), la[j] = some (Q j)) : la = full n Q := by
 apply List.ext_getElem
 ·simp [full, hl]
 ·intro i h1 h2
  rw [h i h1]; simp [full]
end Go.Hp
namespace Go.Hp
/-- The state of a division before the step at i - 1. -/
def DivSt (F G : Nat → Rat) (n s t i : Nat) (la : List (Option Rat)) (Q R : Nat → Rat) : Prop :=
 la.length = n ∧ (∀ j (h : j < la.length), i ≤ j → la[j] = some (Q j)) ∧ (∀ j, j < i → Q j = 0) ∧ Sup n Q ∧ Sup (i + pl G - 1) R ∧ F = pad (cv Q G) R ∧ CD (s + (n - i) * (t + 1)) R
theorem DivSt.start {F G : Nat → Rat} {n s t : Nat} (hF : Sup (n + pl G - 1) F) (hs : CD s F) : DivSt F G n s t n (List.replicate n none) pz F :=
 ⟨by simp, fun j h h' => by simp at h; omega, fun _ _ => rfl, Sup.pz _, hF, by rw [pz_cv]; funext m; simp only [pad, pz]; grind, hs.mono (by omega)⟩
theorem DivSt.step {F G : Nat → Rat} {n s t k : Nat} {la : List (Option Rat)} {Q R : Nat → Rat} (hG : Fin_ G) (h0 : G ≠ pz) (hcG : CD t G) (h : DivSt F G n s t (k + 1) la Q R) (hk : k < n) {c : Rat} (hc : c = R (k + pl G - 1) / ld G) :
  DivSt F G n s t k (la.set k (some c)) (pad Q (mono k c)) (psb R (cv (mono k c) G)) := by
 obtain ⟨h1, h2, h3, h4, h5, h6, h7⟩ := h
 have hp := pl_pos hG h0
 refine ⟨by simpa using h1, fun j hj hkj => ?_, fun j hj => ?_, h4.pad ((mono_sup k c).mono (by omega)), ?_, ?_, ?_⟩
 ·rw [List.getElem_set]
  split
  ·rename_i e; subst e
   show some c = some (Q k + mono k c k)
   rw [h3 k (by omega), mono_at]; congr 1; grind
  ·rename_i e
   rw [h2 j (by simpa using hj) (by omega)]
   show some (Q j) = some (Q j + mono k c j)
   rw [mono_off (fun e' => e e'.symm)]; congr 1; grind
 ·show Q j + mono k c j = 0
  rw [h3 j (by omega), mono_off (by omega)]; grind
 ·subst hc
  exact div_step hG h0 (h5.mono (by omega))
 ·rw [pad_cv]
  funext m
  have := congrFun h6 m
  simp only [pad, psb] at this ⊢
  grind
 ·subst hc
  refine (CD.step (n := k) hG h0 h7 hcG).mono ?_
  have : n - k = (n - (k + 1)) + 1 := by omega
  rw [this, Nat.succ_mul]; omega
theorem DivSt.end_ {F G : Nat → Rat} {n s t : Nat} {la : List (Option Rat)} {Q R : Nat → Rat} (hF : Fin_ F) (hG : Fin_ G) (h0 : G ≠ pz) (h : DivSt F G n s t 0 la Q R) : la = full n Q ∧ Q = pq F G ∧ R = pr F G ∧ Sup n Q := by
 obtain ⟨h1, h2, h3, h4, h5, h6, h7⟩ := h
 have := div_eq hF hG h0 ⟨n, h4⟩ h6 (by rwa [Nat.zero_add] at h5)
 exact ⟨full_of h1 fun j hj => h2 j hj (Nat.zero_le _), this.1, this.2, h4⟩
end Go.Hp
namespace Go.Hp
theorem len_trim (l : List Rat) : (trimR l).length = pl (co l) := by rw [← (topR_trim l).pl, co_trimR]
end Go.Hp
namespace Go.Proofs.YtfacbpnegkjcgaaGreatDoor
open Go.RowKit Go.Hp
end Go.Proofs.YtfacbpnegkjcgaaGreatDoor
namespace Go.Hp
end Go.Hp
namespace Go.Hp
theorem rat_pow_add (x : Rat) (a b : Nat) : x ^ (a + b) = x ^ a * x ^ b := by
 induction b with
 | zero => rw [Nat.add_zero, Rat.pow_zero, Rat.mul_one]
 | succ b ih => rw [← Nat.add_assoc, Rat.pow_succ, ih, Rat.pow_succ, Rat.mul_assoc]
/-- q is an integer over D ^ k, at most Y. -/
def Fr (D k Y : Nat) (q : Rat) : Prop := ∃ m : Int, q = (m : Rat) / ((D : Rat) ^ k) ∧ m.natAbs ≤ Y
theorem Fr.mono {D k Y Y' : Nat} {q : Rat} (h : Fr D k Y q) (l : Y ≤ Y') : Fr D k Y' q := by obtain ⟨m, h1, h2⟩ := h; exact ⟨m, h1, by omega⟩
theorem Fr.zero (D k Y : Nat) : Fr D k Y 0 := ⟨0, by rw [show ((0 : Int) : Rat) = 0 from rfl, Rat.div_def, Rat.zero_mul], by simp⟩
theorem Fr.sub {D k Y Z : Nat} {p q : Rat} (h : Fr D k Y p) (g : Fr D k Z q) : Fr D k (Y + Z) (p - q) := by
 obtain ⟨m, h1, h2⟩ := h; obtain ⟨n, g1, g2⟩ := g
 refine ⟨m - n, ?_, ?_⟩
 ·rw [h1, g1, Rat.intCast_sub, Rat.div_def, Rat.div_def, Rat.div_def]; grind
 ·have := Int.natAbs_sub_le m n; omega
theorem Fr.mul {D a b Y Z : Nat} {p q : Rat} (h : Fr D a Y p) (g : Fr D b Z q) : Fr D (a + b) (Y * Z) (p * q) := by
 obtain ⟨m, h1, h2⟩ := h; obtain ⟨n, g1, g2⟩ := g
 refine ⟨m * n, ?_, ?_⟩
 ·rw [h1, g1, Rat.intCast_mul, Rat.div_def, Rat.div_def, Rat.div_def, rat_pow_add, Rat.inv_mul_rev]; grind
 ·rw [Int.natAbs_mul]; exact Nat.mul_le_mul h2 g2
theorem Fr.up {D k Y : Nat} {q : Rat} (hD : 0 < D) (h : Fr D k Y q) (j : Nat) : Fr D (k + j) (Y * D ^ j) q := by
 have h0 := natq hD
 have h1 : Fr D j (D ^ j) 1 := by
  refine ⟨((D ^ j : Nat) : Int), ?_, by simp⟩
  have h2 : (D : Rat) ^ j ≠ 0 := by
   induction j with
   | zero => rw [Rat.pow_zero]; decide
   | succ j ih => rw [Rat.pow_succ]; intro e; rcases Rat.mul_eq_zero.1 e with e | e <;> contradiction
  rw [Rat.intCast_natCast, Rat.natCast_pow]
  grind
 have := h.mul h1
 rwa [Rat.mul_one] at this
theorem Fr.qsz {D k Y : Nat} {q : Rat} (hD : 0 < D) (h : Fr D k Y q) {t : Nat} (h1 : sz Y ≤ t) (h2 : sz (D ^ k) ≤ t) (h3 : 1 ≤ t) : qsz q ≤ t := by
 obtain ⟨m, e, hm⟩ := h
 rw [← Rat.natCast_pow, divInt_eq] at e
 rw [e]
 exact qsz_divInt (Nat.le_trans (sz_mono hm) h1) (by simpa using h2) h3
section
variable {C S : Nat → Rat} {D X : Nat}
end
end Go.Hp
namespace Go.Hp
theorem CD.rv {s : Nat} {F : Nat → Rat} (h : CD s F) (d : Nat) : CD s (rv d F) := by
 obtain ⟨D, X, ⟨hD, hF⟩, h1, h2⟩ := h
 refine ⟨D, X, ⟨hD, fun i => ?_⟩, h1, h2⟩
 unfold Hp.rv
 split
 ·exact hF _
 ·exact ⟨0, by show (0 : Rat) = _; grind, by simp⟩
end Go.Hp
namespace Go.Hp
theorem sm_qsz {f : Nat → Rat} {t : Nat} (n : Nat) (h : ∀ i, i < n → qsz (f i) ≤ t) : qsz (sm n f) ≤ 1 + n * (t + 1) := by
 induction n with
 | zero => rw [sm_zero, qsz_zero]; omega
 | succ n ih =>
  have h1 := qsz_add (sm n f) (f n)
  have h2 := ih fun i hi => h i (by omega)
  have h3 := h n (by omega)
  rw [sm_succ, Nat.succ_mul]; omega
end Go.Hp
namespace Go.Hp
open Go.RowKit
/-- A row of the call's own as an array. -/
def ArrL (base : Nat) (w : World) (v : Value) (t : TypeId) (l : List Rat) : Prop := l = [] ∨ ∃ g cap, v = .slice (some ⟨g, 0, none⟩) l.length cap ∧ base ≤ g ∧ l.length ≤ cap ∧ cap ≤ 9223372036854775807 ∧ QArr w g t (l.map some)
/-- A polynomial as an array of the call's own, unless it is 0. -/
def ArrP (base : Nat) (w : World) (v : Value) (t : TypeId) (F : Nat → Rat) : Prop := pl F = 0 ∨ ∃ g cap, v = .slice (some ⟨g, 0, none⟩) (pl F) cap ∧ base ≤ g ∧ pl F ≤ cap ∧ cap ≤ 9223372036854775807 ∧ QArr w g t (full (pl F) F)
theorem QArr.pre {w : World} {g : Nat} {t : TypeId} {l : List (Option Rat)} (h : QArr w g t l) (n : Nat) : QArr w g t (l.take n) := by
 obtain ⟨cs, h1, h2, h3⟩ := h
 have hl : (l.take n).length ≤ l.length := List.length_take_le' _ _
 refine ⟨cs, h1, by omega, fun j hj => ?_⟩
 have := h3 j (by omega)
 rw [List.getElem_take]; exact this
theorem full_take (N n : Nat) (F : Nat → Rat) (h : n ≤ N) : (full N F).take n = full n F := by
 unfold full
 rw [← List.map_take, List.take_range, Nat.min_eq_left h]
theorem ArrL.fin {base n c : Nat} {w w' : World} {A : Option Addr} {t : TypeId} {l : List Rat} (h : ArrL base w (.slice A n c) t l) (e : Ext w w') : ArrP base w' (.slice A (trimR l).length c) t (co l) := by
 have hp : pl (co l) ≤ l.length := pl_le (co_sup l)
 rcases h with rfl | ⟨g, cap, e1, h1, h2, h3, h4⟩
 ·exact .inl (by rw [co_nil, pl_pz])
 ·refine .inr ⟨g, cap, ?_, h1, by omega, h3, ?_⟩
  ·rw [len_trim]
   injection e1 with e1 e2 e3
   rw [e1, e3]
  ·have := (h4.ext e).pre (pl (co l))
   rw [map_full, full_take _ _ _ hp] at this; exact this
end Go.Hp
namespace Go.Proofs.YtfacbpnegkjcgaaGreatDoor
open Go.RowKit Go.Hp
end Go.Proofs.YtfacbpnegkjcgaaGreatDoor
namespace Go.Proofs.YtfacbpnegkjcgaaGreatDoor
open Go.RowKit Go.Hp
end Go.Proofs.YtfacbpnegkjcgaaGreatDoor
namespace Go.Hp
open Go.RowKit
/-- A box with a fraction. -/
def BoxQ (w : World) (g : Nat) (t : TypeId) (q : Rat) : Prop := ∃ b A n c b' A' n' c', Box w g t #[.bool b, .slice A n c, .bool b', .slice A' n' c'] ∧ IsQ w (.agg #[.bool b, .slice A n c, .bool b', .slice A' n' c']) q
theorem BoxQ.ext {w w' : World} {g : Nat} {t : TypeId} {q : Rat} (h : BoxQ w g t q) (e : Ext w w') : BoxQ w' g t q := by
 obtain ⟨b, A, n, c, b', A', n', c', h1, h2⟩ := h; exact ⟨b, A, n, c, b', A', n', c', h1.ext e, h2.ext e⟩
theorem BoxQ.lt {w : World} {g : Nat} {t : TypeId} {q : Rat} (h : BoxQ w g t q) : g < w.heap.size := by
 obtain ⟨b, A, n, c, b', A', n', c', h1, h2⟩ := h; exact h1.lt
theorem BoxQ.upd {w w' : World} {g : Nat} {t : TypeId} {q : Rat} {G : List Nat} (h : BoxQ w g t q) (U : Upd G w w') (hg : g ∉ G) : BoxQ w' g t q := by
 obtain ⟨b, A, n, c, b', A', n', c', h1, h2⟩ := h; exact ⟨b, A, n, c, b', A', n', c', h1.upd U hg, h2.kd U.kd⟩
theorem BoxQ.mk {w : World} {g : Nat} {t : TypeId} {q : Rat} {b b' : Bool} {A A' : Option Addr} {n c n' c' : Nat} (h : Box w g t #[.bool b, .slice A n c, .bool b', .slice A' n' c']) (k : IsQ w (.agg #[.bool b, .slice A n c, .bool b', .slice A' n' c']) q) : BoxQ w g t q := ⟨_, _, _, _, _, _, _, _, h, k⟩
theorem OwnQ.off {base : Nat} {e : TypeId} {w w' : World} {v : Value} {l : List Rat} {g : Nat} (h : OwnQ base e w v l) (U : Upd [g] w w') (hg : ∀ k ∈ blk v, k < g) : OwnQ base e w' v l :=
 OwnR.upd h U (fun k hk hG => by have := hg k hk; simp at hG; omega) fun _ _ q => q.kd U.kd
theorem smm_qsz {F G : Nat → Rat} {s t : Nat} (hF : ∀ i, qsz (F i) ≤ s) (hG : ∀ i, qsz (G i) ≤ t) (n i : Nat) : qsz (sm i (fun j => F j * G (n - j))) ≤ 1 + i * (s + t + 1) :=
 sm_qsz i fun j _ => by have h1 := qsz_mul (F j) (G (n - j)); have h2 := hF j; have h3 := hG (n - j); omega
theorem mul_le_of {i k c d : Nat} (h : i ≤ k) (e : 1 + k * c ≤ d) : 1 + i * c ≤ d := by
 have : i * c ≤ k * c := Nat.mul_le_mul_right _ h
 omega
end Go.Hp
namespace Go.Proofs.YtfacbpnegkjcgaaGreatDoor
open Go.RowKit Go.Hp
end Go.Proofs.YtfacbpnegkjcgaaGreatDoor
namespace Go.Hp
open Go.RowKit
theorem QArr.hs {w : World} {g : Nat} {t : TypeId} {N c : Nat} {F : Nat → Rat} (h : QArr w g t (full N F)) (hs : ∀ i, i < N → qsz (F i) ≤ 274877906944) (hc : N ≤ c) (hm : c ≤ 9223372036854775807) : HsV 0 w (.slice (some ⟨g, 0, none⟩) N c) ((List.range N).map F) := by
 have hrow := h.row (full_row N F) (Nat.zero_le g)
 refine QsV.has (base := 0) ⟨_, c, by rw [range_len], by rw [range_len]; exact hc, hm, hrow⟩ fun q hq => ?_
 obtain ⟨i, hi, rfl⟩ := List.mem_map.1 hq
 exact hs i (List.mem_range.1 hi)
end Go.Hp
namespace Go.Proofs.YtfacbpnegkjcgaaGreatDoor
open Go.RowKit Go.Hp
end Go.Proofs.YtfacbpnegkjcgaaGreatDoor
namespace Go.Hp
theorem CD.mn {s : Nat} {F : Nat → Rat} (h : CD s F) : CD (2 * s) (mn F) := by
 have h1 := h.elem (pl F - 1)
 have h2 : Hp.qsz (1 / ld F) ≤ s := by
  have e : 1 / ld F = (ld F)⁻¹ := by rw [Rat.div_def, Rat.one_mul]
  rw [e]; exact Nat.le_trans (qsz_inv _) h1
 exact (h.psc (1 / ld F)).mono (by omega)
/-- How long the numbers may be after j rounds. -/
def gcb (s : Nat) : Nat → Nat
 | 0 => s
 | j + 1 => 18 * gcb s j + 16
theorem gcb_mono {s i j : Nat} (h : i ≤ j) : gcb s i ≤ gcb s j := by
  induction j with
  | zero => obtain rfl : i = 0 := by omega
            exact Nat.le_refl _
  | succ j ih =>
    rcases Nat.eq_or_lt_of_le h with e | e
    · rw [e]; exact Nat.le_refl _
    · have := ih (by omega)
      show _ ≤ 18 * gcb s j + 16
      omega
/-- The state after j rounds. -/
def GcSt (F0 G0 : Nat → Rat) (j : Nat) (F G : Nat → Rat) : Prop :=
 Fin_ F ∧ Fin_ G ∧ (∀ E, Fin_ E → (Dv E F ∧ Dv E G ↔ Dv E F0 ∧ Dv E G0)) ∧ CD (gcb 44 j) F ∧ CD (gcb 44 j) G ∧ pl F ≤ 7 ∧ pl G + j ≤ 7
theorem GcSt.start {F G : Nat → Rat} (hF : Fin_ F) (hG : Fin_ G) (cF : CD 22 F) (cG : CD 22 G) (lF : pl F ≤ 7) (lG : pl G ≤ 7) : GcSt F G 0 F G :=
 ⟨hF, hG, fun _ _ => Iff.rfl, cF.mono (by show 22 ≤ 44; omega), cG.mono (by show 22 ≤ 44; omega), lF, lG⟩
theorem GcSt.step {F0 G0 F G : Nat → Rat} {j : Nat} (h : GcSt F0 G0 j F G) (h0 : G ≠ pz) : GcSt F0 G0 (j + 1) G (mn (pr F G)) := by
 obtain ⟨hF, hG, hd, cF, cG, lF, lG⟩ := h
 have hp := pl_pos hG h0
 have hr := pr_fin hF hG
 have hs := pl_le (pr_sup hF hG h0)
 have c1 := CD.pr (n := 8) ((pl_sup hF).mono (by omega)) hG h0 cF cG
 refine ⟨hG, mn_fin hr, fun E hE => ?_, cG.mono (gcb_mono (by omega)), c1.mn.mono ?_, by omega, by rw [mn_pl hr]; omega⟩
 ·rw [dv_mn_iff hr, dv_step]; exact hd E hE
 ·show _ ≤ 18 * gcb 44 j + 16
  omega
theorem GcSt.end_ {F0 G0 F G : Nat → Rat} {j : Nat} (h : GcSt F0 G0 j F G) (h0 : G = pz) : IsG F0 G0 (mn F) := by
 obtain ⟨hF, hG, hd, _⟩ := h
 subst h0
 exact (IsG.zero hF).of hd
/-- What a division in a round asks. -/
theorem GcSt.room {F0 G0 F G : Nat → Rat} {j : Nat} (h : GcSt F0 G0 j F G) (h0 : G ≠ pz) : j ≤ 6 ∧ gcb 44 j + (pl F + 2) * (gcb 44 j + 1) + 2 * gcb 44 j + 2 ≤ 68719476736 ∧ pl (pr F G) ≤ 6 ∧ CD (9 * gcb 44 j + 8) (pr F G) := by
 obtain ⟨hF, hG, hd, cF, cG, lF, lG⟩ := h
 have hp := pl_pos hG h0
 have hs := pl_le (pr_sup hF hG h0)
 have c1 := CD.pr (n := 8) ((pl_sup hF).mono (by omega)) hG h0 cF cG
 have h6 : gcb 44 j ≤ gcb 44 6 := gcb_mono (by omega)
 have h7 : gcb 44 6 = 1528549360 := rfl
 have h8 : (pl F + 2) * (gcb 44 j + 1) ≤ 9 * (gcb 44 j + 1) := Nat.mul_le_mul_right _ (by omega)
 exact ⟨by omega, by omega, by omega, c1.mono (by omega)⟩
end Go.Hp
namespace Go.Hp
theorem pone_sup : Sup 1 pone := (Sup.pz 0).cs 1
theorem pone_fin : Fin_ pone := ⟨1, pone_sup⟩
theorem CD.pone : CD 3 pone := by
 have := CD.pz.cs 1
 have e : qsz (1 : Rat) = 1 := by decide
 rw [e] at this; exact this
/-- The steps of Horner's rule: what stands behind the coefficient at i. -/
def hor (F : Nat → Rat) (x : Rat) (n i : Nat) : Rat := evn (n - i) (fun j => F (i + j)) x
theorem hor_top (F : Nat → Rat) (x : Rat) (n : Nat) : hor F x n n = 0 := by unfold hor; rw [Nat.sub_self]; rfl
theorem hor_step (F : Nat → Rat) (x : Rat) {n i : Nat} (h : i < n) : hor F x n i = hor F x n (i + 1) * x + F i := by
 unfold hor
 obtain ⟨m, hm⟩ : ∃ m, n - i = m + 1 := ⟨n - i - 1, by omega⟩
 rw [hm, evn_tl, show n - (i + 1) = m from by omega]
 have : tl (fun j => F (i + j)) = fun j => F (i + 1 + j) := by funext j; show F (i + (j + 1)) = _; rw [show i + (j + 1) = i + 1 + j from by omega]
 rw [this]; show F (i + 0) + _ = _; rw [Nat.add_zero]; grind
theorem hor_zero (F : Nat → Rat) (x : Rat) (n : Nat) : hor F x n 0 = evn n F x := by unfold hor; simp
theorem evn_qsz {F : Nat → Rat} {x : Rat} {s t : Nat} (hF : ∀ i, qsz (F i) ≤ s) (hx : qsz x ≤ t) (n : Nat) : qsz (evn n F x) ≤ 1 + n * (s + t + 1) := by
 induction n generalizing F with
 | zero => show qsz 0 ≤ _; rw [qsz_zero]; omega
 | succ n ih =>
  rw [evn_tl]
  have h1 := qsz_add (F 0) (x * evn n (tl F) x)
  have h2 := qsz_mul x (evn n (tl F) x)
  have h3 := ih (F := tl F) fun i => hF (i + 1)
  have h4 := hF 0
  rw [Nat.succ_mul]; omega
theorem hor_qsz {F : Nat → Rat} {x : Rat} {s t : Nat} (hF : ∀ i, qsz (F i) ≤ s) (hx : qsz x ≤ t) (n i : Nat) : qsz (hor F x n i) ≤ 1 + n * (s + t + 1) := by
 have h1 := evn_qsz (F := fun j => F (i + j)) (fun j => hF (i + j)) hx (n - i)
 have h2 : (n - i) * (s + t + 1) ≤ n * (s + t + 1) := Nat.mul_le_mul_right _ (by omega)
 unfold hor; omega
theorem ev_qsz {F : Nat → Rat} {x : Rat} {s t n : Nat} (hs : Sup n F) (hF : ∀ i, qsz (F i) ≤ s) (hx : qsz x ≤ t) : qsz (ev F x) ≤ 1 + n * (s + t + 1) := by
 rw [ev_eq hs]; exact evn_qsz hF hx n
def Apart (X : Nat → Rat) (n : Nat) : Prop := ∀ i k, i < n → k < i → X i ≠ X k
theorem Apart.ne {X : Nat → Rat} {n : Nat} (h : Apart X n) {i k : Nat} (hi : i < n) (hk : k < n) (e : k ≠ i) : X i ≠ X k := by
 rcases Nat.lt_or_ge k i with l | l
 ·exact h i k hi l
 ·exact fun e2 => h k i hk (by omega) e2.symm
end Go.Hp
namespace Go.Hp
def xgb : Nat → Nat
 | 0 => 22
 | 1 => 22
 | j + 2 => xgb j + 8 * (xgb (j + 1) + 1)
def xgq (j : Nat) : Nat := 1 + 8 * (xgb j + 8 * (xgb (j + 1) + 1) + xgb (j + 1) + 1)
def xga : Nat → Nat
 | 0 => 3
 | 1 => 3
 | j + 2 => xga j + (xgq j + xga (j + 1) + 1) + 1
theorem xgb_le : ∀ j, xgb j ≤ xgb (j + 1)
 | 0 => Nat.le_refl _
 | j + 1 => by show _ ≤ xgb j + 8 * (xgb (j + 1) + 1); omega
theorem xga_le : ∀ j, xga j ≤ xga (j + 1)
 | 0 => Nat.le_refl _
 | j + 1 => by show _ ≤ xga j + (xgq j + xga (j + 1) + 1) + 1; omega
theorem mono_of {f : Nat → Nat} (h : ∀ j, f j ≤ f (j + 1)) {i j : Nat} (k : i ≤ j) : f i ≤ f j := by
  induction j with
  | zero => obtain rfl : i = 0 := by omega
            exact Nat.le_refl _
  | succ j ih =>
    rcases Nat.eq_or_lt_of_le k with e | e
    · rw [e]; exact Nat.le_refl _
    · exact Nat.le_trans (ih (by omega)) (h j)
theorem xgb7 : xgb 7 = 7310526 := rfl
theorem xga7 : xga 7 = 76218651 := rfl
def XgSt (F0 G0 : Nat → Rat) (j : Nat) (R S U N : Nat → Rat) : Prop :=
 (Fin_ R ∧ Fin_ S ∧ Fin_ U ∧ Fin_ N) ∧ (∀ E, Fin_ E → (Dv E R ∧ Dv E S ↔ Dv E F0 ∧ Dv E G0)) ∧
 (∃ V W, Fin_ V ∧ Fin_ W ∧ pad (cv U F0) (cv V G0) = R ∧ pad (cv N F0) (cv W G0) = S) ∧
 (CD (xgb j) R ∧ CD (xgb (j + 1)) S ∧ CD (xga j) U ∧ CD (xga (j + 1)) N) ∧ pl R ≤ 7 ∧ pl S + j ≤ 7 ∧ pl G0 ≤ 7 ∧
 ((j = 0 ∧ U = pone ∧ N = pz ∧ S = G0) ∨ (1 ≤ j ∧ pl N + pl R ≤ pl G0 + 1 ∧ pl U + pl R ≤ pl G0 + 1 ∧ pl S ≤ pl R ∧ R ≠ pz))
theorem XgSt.start {F G : Nat → Rat} (hF : Fin_ F) (hG : Fin_ G) (cF : CD 22 F) (cG : CD 22 G) (lF : pl F ≤ 7) (lG : pl G ≤ 7) : XgSt F G 0 F G pone pz :=
 ⟨⟨hF, hG, pone_fin, Fin_.pz⟩, fun _ _ => Iff.rfl, ⟨pz, pone, Fin_.pz, pone_fin, by rw [pone_cv, pz_cv]; funext n; simp only [pad, pz]; grind, by rw [pone_cv, pz_cv]; funext n; simp only [pad, pz]; grind⟩,
  ⟨cF, cG, CD.pone, CD.pz.mono (by show 1 ≤ 3; omega)⟩, lF, lG, lG, .inl ⟨rfl, rfl, rfl, rfl⟩⟩
theorem XgSt.step {F0 G0 R S U N : Nat → Rat} {j : Nat} (h : XgSt F0 G0 j R S U N) (h0 : S ≠ pz) : XgSt F0 G0 (j + 1) S (pr R S) N (psb U (cv (pq R S) N)) := by
 obtain ⟨⟨hR, hS, hU, hN⟩, hd, ⟨V, W, hV, hW, e1, e2⟩, ⟨cR, cS, cU, cN⟩, lR, lS, lG, hj⟩ := h
 have hp := pl_pos hS h0
 have hs := pl_le (pr_sup hR hS h0)
 have hR8 : Sup (8 + pl S - 1) R := (pl_sup hR).mono (by omega)
 have q8 := pq_sup hR8 hS h0
 have hq := pq_fin R S
 have c1 := CD.pr hR8 hS h0 cR cS
 have c2 := CD.pq hR8 hS h0 cR cS
 refine ⟨⟨hS, pr_fin hR hS, hN, hU.psb (hq.cv hN)⟩, fun E hE => by rw [dv_step]; exact hd E hE, ⟨W, psb V (cv (pq R S) W), hW, hV.psb (hq.cv hW), e2, ?_⟩,
  ⟨cS, c1, cN, cU.psb (CD.cv q8 (by omega) c2 cN)⟩, by omega, by omega, lG, .inr ?_⟩
 ·show _ = psb R (cv (pq R S) S)
  rw [psb_cv, psb_cv, cv_assoc, cv_assoc, ← e2, cv_pad]
  conv => rhs; rw [← e1]
  funext n; simp only [pad, psb]; grind
 ·rcases hj with ⟨rfl, rfl, rfl, rfl⟩ | ⟨hj, d1, d2, d3, d4⟩
  ·have e : psb pone (cv (pq R S) pz) = pone := by rw [cv_pz]; funext n; simp only [psb, pz]; grind
   have l1 := pl_le pone_sup
   rw [e, pl_pz]
   exact ⟨by omega, by omega, by omega, by omega, h0⟩
  ·have q1 := pq_sup (n := pl R - pl S + 1) ((pl_sup hR).mono (by omega)) hS h0
   have l1 : pl (psb U (cv (pq R S) N)) ≤ pl G0 + 1 - pl S := pl_le (((pl_sup hU).mono (by omega)).psb ((q1.cv (pl_sup hN)).mono (by omega)))
   exact ⟨by omega, by omega, by omega, by omega, h0⟩
/-- What a division in a round asks. -/
theorem XgSt.room {F0 G0 R S U N : Nat → Rat} {j : Nat} (h : XgSt F0 G0 j R S U N) (h0 : S ≠ pz) : j ≤ 6 ∧ xgb j ≤ 7310526 ∧ xgb (j + 1) ≤ 7310526 ∧ xga j ≤ 76218651 ∧ xga (j + 1) ≤ 76218651 ∧ Sup 8 (pq R S) ∧ pl N ≤ 8 ∧ (∀ i, qsz (pq R S i) ≤ 73105268) ∧
  xgb j + (pl R + 2) * (xgb (j + 1) + 1) + 2 * xgb (j + 1) + 2 ≤ 68719476736 ∧ (∀ i, qsz (cv (pq R S) N i) ≤ 661060805) ∧ pl U ≤ 8 := by
 obtain ⟨⟨hR, hS, hU, hN⟩, hd, -, ⟨cR, cS, cU, cN⟩, lR, lS, lG, hj⟩ := h
 have hp := pl_pos hS h0
 have hR8 : Sup (8 + pl S - 1) R := (pl_sup hR).mono (by omega)
 have q8 := pq_sup hR8 hS h0
 have b1 : xgb j ≤ 7310526 := by rw [← xgb7]; exact mono_of xgb_le (by omega)
 have b2 : xgb (j + 1) ≤ 7310526 := by rw [← xgb7]; exact mono_of xgb_le (by omega)
 have a1 : xga j ≤ 76218651 := by rw [← xga7]; exact mono_of xga_le (by omega)
 have a2 : xga (j + 1) ≤ 76218651 := by rw [← xga7]; exact mono_of xga_le (by omega)
 have c2 := CD.pq hR8 hS h0 cR cS
 have c3 := CD.cv q8 (by omega) c2 cN
 have h8 : (pl R + 2) * (xgb (j + 1) + 1) ≤ 9 * (xgb (j + 1) + 1) := Nat.mul_le_mul_right _ (by omega)
 have lN : pl N ≤ 8 ∧ pl U ≤ 8 := by
  rcases hj with ⟨rfl, rfl, rfl, rfl⟩ | ⟨hj, d1, d2, d3, d4⟩
  ·have := pl_le pone_sup
   rw [pl_pz]; omega
  ·omega
 refine ⟨by omega, b1, b2, a1, a2, q8, lN.1, fun i => ?_, by omega, fun i => ?_, lN.2⟩
 ·have := pq_qsz hR8 hS h0 cR cS i; omega
 ·have := c3.elem i; omega
/-- What comes out. -/
theorem XgSt.end_ {F0 G0 R S U N : Nat → Rat} {j : Nat} (h : XgSt F0 G0 j R S U N) (h0 : S = pz) (hF : Fin_ F0) (hG : Fin_ G0) (hg : G0 ≠ pz) (cF : CD 22 F0) (cG : CD 22 G0) (lF : pl F0 ≤ 7) :
  R ≠ pz ∧ CD 7310526 R ∧ CD 14621052 (mn R) ∧ CD 76218651 U ∧ CD 83529177 (psc (1 / ld R) U) ∧ pl U ≤ 7 ∧ 1 ≤ pl R ∧ pl R ≤ 7 ∧
  pq G0 (mn R) ≠ pz ∧ CD 1052715993 (pq G0 (mn R)) ∧ pl (pq G0 (mn R)) ≤ 7 ∧
  CD 8505257129 (pr (psc (1 / ld R) U) (pq G0 (mn R))) ∧ pl (pr (psc (1 / ld R) U) (pq G0 (mn R))) ≤ 7 ∧
  CD 8519878205 (psb (mn R) (cv (pr (psc (1 / ld R) U) (pq G0 (mn R))) F0)) ∧ pl (psb (mn R) (cv (pr (psc (1 / ld R) U) (pq G0 (mn R))) F0)) ≤ 14 ∧
  (∀ i, qsz (pq (psb (mn R) (cv (pr (psc (1 / ld R) U) (pq G0 (mn R))) F0)) G0 i) ≤ 8519878572) ∧
  IsX F0 G0 (mn R) (pr (psc (1 / ld R) U) (pq G0 (mn R))) (pq (psb (mn R) (cv (pr (psc (1 / ld R) U) (pq G0 (mn R))) F0)) G0) := by
 subst h0
 obtain ⟨⟨hR, hS, hU, hN⟩, hd, ⟨V, W, hV, hW, e1, e2⟩, ⟨cR, cS, cU, cN⟩, lR, lS, lG, hj⟩ := h
 rcases hj with ⟨rfl, rfl, rfl, e⟩ | ⟨hj, d1, d2, d3, d4⟩
 ·exact absurd e.symm hg
 have pR := pl_pos hR d4
 have cR' : CD 7310526 R := cR.mono (by rw [← xgb7]; exact mono_of xgb_le (by omega))
 have cU' : CD 76218651 U := cU.mono (by rw [← xga7]; exact mono_of xga_le (by omega))
 have hD := mn_fin hR
 have cD : CD 14621052 (mn R) := cR'.mn.mono (by omega)
 have hI : IsG F0 G0 (mn R) := (IsG.zero hR).of hd
 have hD0 := mn_ne hR d4
 have lD := mn_pl hR
 obtain ⟨A, hA, eA⟩ := hI.2.2.1
 obtain ⟨Q, hQ, eQ⟩ := hI.2.2.2.1
 have hper : pq G0 (mn R) = Q := by
  have := (pq_mul hQ hD hD0).1
  rw [← eQ] at this; exact this
 have hQ0 : Q ≠ pz := fun e => hg (by rw [eQ, e, pz_cv])
 have lQ : pl G0 = pl Q + pl (mn R) - 1 := by rw [eQ]; exact pl_cv hQ hD hQ0 hD0
 have pQ := pl_pos hQ hQ0
 have cQ : CD 1052715993 Q := by
  rw [← hper]
  exact (CD.pq (n := 8) ((pl_sup hG).mono (by omega)) hD hD0 cG cD).mono (by omega)
 have c1 : qsz (1 / ld R) ≤ 7310526 := by
  have e : 1 / ld R = (ld R)⁻¹ := by rw [Rat.div_def, Rat.one_mul]
  rw [e]; exact Nat.le_trans (qsz_inv _) (cR'.elem _)
 have cU1 : CD 83529177 (psc (1 / ld R) U) := (cU'.psc _).mono (by omega)
 have hU1 : Fin_ (psc (1 / ld R) U) := hU.psc _
 have lU1 : pl (psc (1 / ld R) U) ≤ 7 := Nat.le_trans (pl_le ((pl_sup hU).psc _)) (by omega)
 rw [hper]
 obtain ⟨U1, hU1e⟩ : ∃ U1, U1 = psc (1 / ld R) U := ⟨_, rfl⟩
 rw [← hU1e] at cU1 hU1 lU1 ⊢
 have hU2 := pr_fin hU1 hQ
 have cU2 : CD 8505257129 (pr U1 Q) := (CD.pr (n := 8) ((pl_sup hU1).mono (by omega)) hQ hQ0 cU1 cQ).mono (by omega)
 have sU2 := pr_sup hU1 hQ hQ0
 have lU2 := pl_le sU2
 have cX : CD 8519878205 (psb (mn R) (cv (pr U1 Q) F0)) := (cD.psb (CD.cv sU2 (by omega) cU2 cF)).mono (by omega)
 have hX : Fin_ (psb (mn R) (cv (pr U1 Q) F0)) := hD.psb (hU2.cv hF)
 have lX : pl (psb (mn R) (cv (pr U1 Q) F0)) ≤ 14 := pl_le (((pl_sup hD).mono (by omega)).psb (((pl_sup hU2).cv (pl_sup hF)).mono (by omega)))
 have key : psb (mn R) (cv (pr U1 Q) F0) = cv (pad (psc (1 / ld R) V) (cv (pq U1 Q) A)) G0 := by
  have k1 : cv (pr U1 Q) F0 = psb (cv U1 F0) (cv (cv (pq U1 Q) Q) F0) := by
   unfold pr; rw [psb_cv]
  have k2 : cv (cv (pq U1 Q) Q) F0 = cv (cv (pq U1 Q) A) G0 := by
   rw [cv_assoc, cv_assoc]
   congr 1
   conv => lhs; rw [eA]
   conv => rhs; rw [eQ]
   rw [← cv_assoc, ← cv_assoc, cv_comm Q A]
  have k3 : mn R = pad (cv U1 F0) (cv (psc (1 / ld R) V) G0) := by
   rw [hU1e, psc_cv, psc_cv]
   show psc (1 / ld R) R = _
   conv => lhs; rw [← e1]
   funext n; simp only [pad, psc]; grind
  rw [k1, k2, pad_cv]
  conv => lhs; rw [k3]
  funext n; simp only [pad, psb]; grind
 have hB : Fin_ (pad (psc (1 / ld R) V) (cv (pq U1 Q) A)) := (hV.psc _).pad ((pq_fin _ _).cv hA)
 have hV2 : pq (psb (mn R) (cv (pr U1 Q) F0)) G0 = pad (psc (1 / ld R) V) (cv (pq U1 Q) A) := by
  rw [key]; exact (pq_mul hB hG hg).1
 refine ⟨d4, cR', cD, cU', cU1, by omega, pR, lR, hQ0, cQ, by omega, cU2, by omega, cX, lX, fun i => ?_, hI, hU2, pq_fin _ _, ?_, sU2.mono (by omega)⟩
 ·have := pq_qsz (n := 15) ((pl_sup hX).mono (by omega)) hG hg cX cG i
  omega
 ·rw [hV2, ← key]
  funext n; simp only [pad, psb]; grind
end Go.Hp
namespace Go.Hp
open Go.RowKit
end Go.Hp
namespace Go.Proofs.YtfacbpnegkjcgaaGreatDoor
open Go.RowKit Go.Hp
/-! ### over polynomials -/
end Go.Proofs.YtfacbpnegkjcgaaGreatDoor
namespace Go.Proofs.YtfacbpnegkjcgaaGreatDoor
open Go.RowKit Go.Hp
end Go.Proofs.YtfacbpnegkjcgaaGreatDoor
namespace Go.Hp
open Go.RowKit
theorem OwnQ.at_ {base n c : Nat} {e : TypeId} {w : World} {A : Option Addr} {l : List Rat} (h : OwnQ base e w (.slice A n c) l) {j : Nat} (hj : j < l.length) :
  ∃ g o b A1 n c b' A1' n' c', A = some ⟨g, o, none⟩ ∧ base ≤ g ∧ w.cell? ⟨g, o + j * 4, none⟩ = some (.bool b) ∧ w.cell? ⟨g, o + j * 4 + 1, none⟩ = some (.slice A1 n c) ∧ w.cell? ⟨g, o + j * 4 + 2, none⟩ = some (.bool b') ∧ w.cell? ⟨g, o + j * 4 + 3, none⟩ = some (.slice A1' n' c') ∧ IsQ w (.agg #[.bool b, .slice A1 n c, .bool b', .slice A1' n' c']) l[j] := by
 obtain ⟨A', c', e1, h2, h3, h4⟩ := OwnQ.row h
 cases e1
 exact QsAt.at_ h4 hj
theorem OwnQ.shape {base : Nat} {e : TypeId} {w : World} {v : Value} {l : List Rat} (h : OwnQ base e w v l) : ∃ A c, v = .slice A l.length c ∧ l.length ≤ c ∧ c ≤ 9223372036854775807 := by
 obtain ⟨A', c', e1, h2, h3, h4⟩ := OwnQ.row h
 exact ⟨A', c', e1, h2, h3⟩
end Go.Hp
namespace Go.Proofs.YtfacbpnegkjcgaaGreatDoor
open Go.RowKit Go.Hp
end Go.Proofs.YtfacbpnegkjcgaaGreatDoor
namespace Go.Hp
open Go.RowKit
theorem IsP.upd {base : Nat} {G : List Nat} {w w' : World} {v : Value} {F : Nat → Rat} (h : IsP base w v F) (U : Upd G w w') (hG : ∀ g ∈ G, g < base) : IsP base w' v F := by
 obtain ⟨l, h1, h2, h3⟩ := h; exact ⟨l, RowV.upd h1 U hG fun _ _ q => q.kd U.kd, h2, h3⟩
end Go.Hp
namespace Go.Proofs.YtfacbpnegkjcgaaGreatDoor
open Go.RowKit Go.Hp
end Go.Proofs.YtfacbpnegkjcgaaGreatDoor
namespace Go.Hp
open Go.RowKit
end Go.Hp
namespace Go.Proofs.YtfacbpnegkjcgaaGreatDoor
open Go.RowKit Go.Hp
end Go.Proofs.YtfacbpnegkjcgaaGreatDoor
namespace Go.Hp
open Go.RowKit
/-- A new slice of one element is a row of the call's own. -/
theorem NewQ.own {w : World} {v : Value} {base : Nat} {q : Rat} {t : TypeId} (h : NewQ w v base q t) : OwnQ base t w v [q] := by
 obtain ⟨g, cs, rfl, h1, h2, h3, h4⟩ := h
 refine ⟨[cs], rfl, fun c hc => by simp at hc; subst hc; exact h3, ⟨by simp [h3], .inr ⟨g, 1, cs, rfl, h1, h2, by simp, by simp [maxLen], by simp [h3], ?_⟩⟩, fun j h h' => ?_⟩
 ·simp only [List.flatMap_cons, List.flatMap_nil, List.append_nil]
  exact List.take_of_length_le (by simp [h3])
 ·have : j = 0 := by simp at h; omega
  subst this; exact h4
end Go.Hp
namespace Go.Proofs.YtfacbpnegkjcgaaGreatDoor
open Go.RowKit Go.Hp
end Go.Proofs.YtfacbpnegkjcgaaGreatDoor
namespace Go.Hp
open Go.RowKit
theorem IsZ.of_one {w : World} {A : Option Addr} {c N : Nat} {b : Bool} {n : Int} (h : DigV w (.slice A 1 c) [N]) (h0 : N ≠ 0) (hn : n = if b then -(N : Int) else N) : IsZ w (.agg #[.bool b, .slice A 1 c]) n := by
 refine ⟨b, [N], ⟨_, rfl, h⟩, ?_, fun _ => by simpa using h0, fun _ => by simp⟩
 rw [hn]; unfold iv; simp [nv]
theorem IsZ.of_nil {w : World} : IsZ w (.agg #[.bool false, .slice none 0 0]) 0 := IsZ.zero w
end Go.Hp
namespace Go.Proofs.YtfacbpnegkjcgaaGreatDoor
open Go.RowKit Go.Hp
set_option maxHeartbeats 2000000 in
theorem z_b (n : Int) (w : World) (h1 : -4294967296 < n) (h2 : n < 4294967296) : Calls Tryz.prog 21 #[.int .i64 n] w (Gives w fun r w' => IsZ w' r n) := by
 go_enter Tryz.func21, Tryz.ntmps21
 by_cases hneg : n < 0
 ·have hb : decide (n < 0) = true := by simpa using hneg
  have Hw := Lib.hid (wrap_neg (x := n) (by omega) hneg)
  obtain ⟨N, hN⟩ : ∃ N, N = n.natAbs := ⟨_, rfl⟩
  have HN := Lib.hid hN
  have hNb : N < 4294967296 := by omega
  clear hN
  go_wp2
  obtain ⟨W9, eW9, e9, x9⟩ := Box.made (w.alloc (.cells #[.bool false, .slice none 0 0] 28)) 28 #[.bool true, .slice none 0 0] (by simp [isDig])
  rw [← eW9]
  clear eW9
  rw [World.size_alloc] at e9
  go_loopw [3] (fun uv wx => ∃ m : Nat, uv = .int .u64 m ∧ m < 4294967296 ∧ ((m = N ∧ Box wx (w.heap.size + 1) 28 #[.bool true, .slice none 0 0]) ∨ (m = 0 ∧ N ≠ 0 ∧ ∃ A c, Box wx (w.heap.size + 1) 28 #[.bool true, .slice A 1 c] ∧ DigV wx (.slice A 1 c) [N])) ∧ Ext (w.alloc (.cells #[.bool false, .slice none 0 0] 28)) wx) (fun uv _ => (intOf uv).toNat)
  case atStart => exact ⟨N, by rw [Hw.out, HN.out], hNb, .inl ⟨rfl, e9⟩, x9⟩
  case round =>
   clear e9 x9
   obtain ⟨m, rfl, hm, hst, hx⟩ := hrel
   by_cases h0 : m = 0
   ·have hr : ∃ A k c, Box wr (w.heap.size + 1) 28 #[.bool true, .slice A k c] ∧ IsZ wr (.agg #[.bool true, .slice A k c]) n := by
     rcases hst with ⟨e, hb⟩ | ⟨_, hne, A, c, hb, hd⟩
     ·exact ⟨_, _, _, hb, by have h3 := HN.out; omega⟩
     ·exact ⟨_, _, _, hb, IsZ.of_one hd hne (by have h3 := HN.out; (simp; omega))⟩
    obtain ⟨A5, n5, c5, ez, hr⟩ := hr
    have H0 := Lib.hid h0; clear h0
    have Hr := Lib.hid hr; clear hr hst
    have hm0 : ¬ (0 < (m : Int)) := by have := H0.out; omega
    obtain ⟨cez0, cez1⟩ := ez.cells2
    have fez := ez.frozen
    have hx1 := hx
    clear hx
    have hc1 := hx1.cells
    have hf1 := hx1.frozens
    have Hfin := Lib.hid (fin_z Hr.out hx1.a1 (NoDig.at_ hx1 (g := w.heap.size + 0) (by simp) (by simp [isDig])) (by omega))
    go_wp2
    refine bodyPost_ret (v := .agg #[.bool true, .slice A5 n5 c5]) (by simp [results, Tryz.results21, go_sem, hc1]) rfl ?_
    exact Hfin.out
   ·obtain ⟨rfl, ez⟩ : m = N ∧ Box wr (w.heap.size + 1) 28 #[.bool true, .slice none 0 0] := by
     rcases hst with ⟨e, hb⟩ | ⟨e, _⟩
     ·exact ⟨e, hb⟩
     ·exact absurd e h0
    have hm0 : 0 < m := by omega
    have hsz : w.heap.size ≤ wr.heap.size := hx.a1.size
    clear hst
    obtain ⟨cez0, cez1⟩ := ez.cells2
    have fez := ez.frozen
    go_wp2_with (at_builtin; refine wpList_append_run rfl _ _ 26 rfl (.slice none 0 0) (.slice (some ⟨wr.heap.size, 0, none⟩) 1 1) rfl rfl (append_d wr w.heap.size _ _ [] m _ _ (OwnD.nil _ _) (by first | rfl | omega) (by simp) hsz rfl) ?_)
    rintro v' w5 hown hg
    have xa : Ext wr w5 := ((Ext.refl wr).alloc _).grown hg (fun k hk => by simp [Value.ownBlock] at hk)
    have hd := hown.digv (Digs.cons hm Digs.nil)
    have hd2 := hd
    obtain ⟨A5, c5, rfl, -, -, -⟩ := hd2
    clear hown hg
    have ez5 := ez.ext xa
    replace hx := hx.trans xa
    clear ez xa cez0 cez1 fez
    obtain ⟨cez50, cez51⟩ := ez5.cells2
    have fez5 := ez5.frozen
    have Hd := Lib.hid hd; clear hd
    have H0 := Lib.hid h0; clear h0
    go_wp2
    have eb := ez5.set_ 1 (u := .slice A5 1 c5) rfl
    have U := Upd.set_ ez5.nodig 1 (.slice A5 1 c5)
    replace hx := U.from_ hx (by simp)
    have Hdd := Lib.hid (show DigV _ _ _ from DigV.kd Hd.out U.kd)
    go_roundw
    case rel => exact ⟨0, by go_num, by omega, .inr ⟨rfl, H0.out, A5, c5, eb, Hdd.out⟩, hx⟩
    case measure => simp [intOf] <;> omega
 ·have hb : decide (n < 0) = false := by simpa using hneg
  have Hw := Lib.hid (wrap_pos (x := n) (by omega) (by omega))
  obtain ⟨N, hN⟩ : ∃ N, N = n.natAbs := ⟨_, rfl⟩
  have HN := Lib.hid hN
  have hNb : N < 4294967296 := by omega
  clear hN
  go_wp2
  obtain ⟨W9, eW9, e9, x9⟩ := Box.made (w.alloc (.cells #[.bool false, .slice none 0 0] 28)) 28 #[.bool false, .slice none 0 0] (by simp [isDig])
  rw [← eW9]
  clear eW9
  rw [World.size_alloc] at e9
  go_loopw [3] (fun uv wx => ∃ m : Nat, uv = .int .u64 m ∧ m < 4294967296 ∧ ((m = N ∧ Box wx (w.heap.size + 1) 28 #[.bool false, .slice none 0 0]) ∨ (m = 0 ∧ N ≠ 0 ∧ ∃ A c, Box wx (w.heap.size + 1) 28 #[.bool false, .slice A 1 c] ∧ DigV wx (.slice A 1 c) [N])) ∧ Ext (w.alloc (.cells #[.bool false, .slice none 0 0] 28)) wx) (fun uv _ => (intOf uv).toNat)
  case atStart => exact ⟨N, by (congr 1; have h3 := HN.out; omega), hNb, .inl ⟨rfl, e9⟩, x9⟩
  case round =>
   clear e9 x9
   obtain ⟨m, rfl, hm, hst, hx⟩ := hrel
   by_cases h0 : m = 0
   ·have hr : ∃ A k c, Box wr (w.heap.size + 1) 28 #[.bool false, .slice A k c] ∧ IsZ wr (.agg #[.bool false, .slice A k c]) n := by
     rcases hst with ⟨e, hb⟩ | ⟨_, hne, A, c, hb, hd⟩
     ·exact ⟨_, _, _, hb, by have h3 := HN.out; (have e5 : n = 0 := by omega) ; rw [e5]; exact IsZ.of_nil⟩
     ·exact ⟨_, _, _, hb, IsZ.of_one hd hne (by have h3 := HN.out; (simp; omega))⟩
    obtain ⟨A5, n5, c5, ez, hr⟩ := hr
    have H0 := Lib.hid h0; clear h0
    have Hr := Lib.hid hr; clear hr hst
    have hm0 : ¬ (0 < (m : Int)) := by have := H0.out; omega
    obtain ⟨cez0, cez1⟩ := ez.cells2
    have fez := ez.frozen
    have hx1 := hx
    clear hx
    have hc1 := hx1.cells
    have hf1 := hx1.frozens
    have Hfin := Lib.hid (fin_z Hr.out hx1.a1 (NoDig.at_ hx1 (g := w.heap.size + 0) (by simp) (by simp [isDig])) (by omega))
    go_wp2
    refine bodyPost_ret (v := .agg #[.bool false, .slice A5 n5 c5]) (by simp [results, Tryz.results21, go_sem, hc1]) rfl ?_
    exact Hfin.out
   ·obtain ⟨rfl, ez⟩ : m = N ∧ Box wr (w.heap.size + 1) 28 #[.bool false, .slice none 0 0] := by
     rcases hst with ⟨e, hb⟩ | ⟨e, _⟩
     ·exact ⟨e, hb⟩
     ·exact absurd e h0
    have hm0 : 0 < m := by omega
    have hsz : w.heap.size ≤ wr.heap.size := hx.a1.size
    clear hst
    obtain ⟨cez0, cez1⟩ := ez.cells2
    have fez := ez.frozen
    go_wp2_with (at_builtin; refine wpList_append_run rfl _ _ 26 rfl (.slice none 0 0) (.slice (some ⟨wr.heap.size, 0, none⟩) 1 1) rfl rfl (append_d wr w.heap.size _ _ [] m _ _ (OwnD.nil _ _) (by first | rfl | omega) (by simp) hsz rfl) ?_)
    rintro v' w5 hown hg
    have xa : Ext wr w5 := ((Ext.refl wr).alloc _).grown hg (fun k hk => by simp [Value.ownBlock] at hk)
    have hd := hown.digv (Digs.cons hm Digs.nil)
    have hd2 := hd
    obtain ⟨A5, c5, rfl, -, -, -⟩ := hd2
    clear hown hg
    have ez5 := ez.ext xa
    replace hx := hx.trans xa
    clear ez xa cez0 cez1 fez
    obtain ⟨cez50, cez51⟩ := ez5.cells2
    have fez5 := ez5.frozen
    have Hd := Lib.hid hd; clear hd
    have H0 := Lib.hid h0; clear h0
    go_wp2
    have eb := ez5.set_ 1 (u := .slice A5 1 c5) rfl
    have U := Upd.set_ ez5.nodig 1 (.slice A5 1 c5)
    replace hx := U.from_ hx (by simp)
    have Hdd := Lib.hid (show DigV _ _ _ from DigV.kd Hd.out U.kd)
    go_roundw
    case rel => exact ⟨0, by go_num, by omega, .inr ⟨rfl, H0.out, A5, c5, eb, Hdd.out⟩, hx⟩
    case measure => simp [intOf] <;> omega
end Go.Proofs.YtfacbpnegkjcgaaGreatDoor
namespace Go.Hp
open Go.RowKit
/-- A slice of ints. -/
def IntsV (w : World) (v : Value) (ns : List Int) : Prop := ∃ g c, v = .slice (some ⟨g, 0, none⟩) ns.length c ∧ ns.length ≤ c ∧ c ≤ 9223372036854775807 ∧ ∀ j (h : j < ns.length), w.cell? ⟨g, j, none⟩ = some (.int .i64 ns[j])
theorem IntsV.new (w : World) (t : TypeId) (ns : List Int) (h : ns.length ≤ 1000) : IntsV (w.alloc (.cells (ns.map fun n => Value.int .i64 n).toArray t)) (.slice (some ⟨w.heap.size, 0, none⟩) ns.length ns.length) ns :=
 ⟨_, _, rfl, Nat.le_refl _, by omega, fun j hj => by
  rw [cell_of_row _ w.heap.size j _ t (0, 0) (heap_alloc_new w _)]
  simp [hj]⟩
theorem QsV.at_ {base n c : Nat} {w : World} {A : Option Addr} {l : List Rat} (h : QsV base w (.slice A n c) l) {j : Nat} (hj : j < l.length) :
  ∃ g o b A1 n c b' A1' n' c', A = some ⟨g, o, none⟩ ∧ base ≤ g ∧ w.cell? ⟨g, o + j * 4, none⟩ = some (.bool b) ∧ w.cell? ⟨g, o + j * 4 + 1, none⟩ = some (.slice A1 n c) ∧ w.cell? ⟨g, o + j * 4 + 2, none⟩ = some (.bool b') ∧ w.cell? ⟨g, o + j * 4 + 3, none⟩ = some (.slice A1' n' c') ∧ IsQ w (.agg #[.bool b, .slice A1 n c, .bool b', .slice A1' n' c']) l[j] := by
 obtain ⟨A', c', e1, h2, h3, h4⟩ := h
 have e5 : A' = A := by injection e1 with h1; exact h1.symm
 subst e5
 exact QsAt.at_ h4 hj
end Go.Hp
namespace Go.Proofs.YtfacbpnegkjcgaaGreatDoor
open Go.RowKit Go.Hp
end Go.Proofs.YtfacbpnegkjcgaaGreatDoor
namespace Go.Hp
end Go.Hp
namespace Go.Proofs.YtfacbpnegkjcgaaGreatDoor
open Go.RowKit Go.Hp
end Go.Proofs.YtfacbpnegkjcgaaGreatDoor
namespace Go.Hp
open Go.RowKit
theorem TopR.of {l : List Rat} (h : co l (l.length - 1) ≠ 0) : TopR l := fun h0 => by rw [← co_lt]; exact h
end Go.Hp
namespace Go.Proofs.YtfacbpnegkjcgaaGreatDoor
open Go.RowKit Go.Hp
end Go.Proofs.YtfacbpnegkjcgaaGreatDoor
namespace Go.Hp
open Go.RowKit
theorem addr_add (b o i : Nat) : (⟨b, o, none⟩ : Addr).add i = ⟨b, o + i, none⟩ := by unfold Addr.add; split <;> simp_all
/-- A fraction as it stands: sign and digits of the numerator and of the denominator. -/
abbrev Raw := Bool × List Nat × Bool × List Nat
def RawQ (w : World) (v : Value) (x : Raw) : Prop := ∃ A n c A' n' c', v = .agg #[.bool x.1, .slice A n c, .bool x.2.2.1, .slice A' n' c'] ∧ DigV w (.slice A n c) x.2.1 ∧ DigV w (.slice A' n' c') x.2.2.2
/-- A slice of fractions as they stand. -/
def PolyV (w : World) (v : Value) (l : List Raw) : Prop := RowV 4 RawQ 0 w v l
theorem RawQ.ext {w w' : World} {v : Value} {x : Raw} (h : RawQ w v x) (e : Ext w w') : RawQ w' v x := by
 obtain ⟨A, n, c, A', n', c', h1, h2, h3⟩ := h; exact ⟨A, n, c, A', n', c', h1, h2.ext e, h3.ext e⟩
theorem PolyV.ext {w w' : World} {v : Value} {l : List Raw} (h : PolyV w v l) (e : Ext w w') : PolyV w' v l := RowV.ext h e fun _ _ q => q.ext e
/-- No number of more than two digits. -/
def Small (x : Raw) : Prop := x.2.1.length ≤ 2 ∧ x.2.2.2.length ≤ 2
def ratOf (x : Raw) : Rat := Rat.divInt (iv x.1 x.2.1) (iv x.2.2.1 x.2.2.2)
theorem iv_abs (b : Bool) (ds : List Nat) : (iv b ds).natAbs = nv ds := by unfold iv; cases b <;> simp
theorem sz_dig {w : World} {v : Value} {ds : List Nat} (h : DigV w v ds) : sz (nv ds) ≤ ds.length := by
 obtain ⟨_, _, _, _, _, hA⟩ := h
 exact sz_nv hA.1
theorem RawQ.has {w : World} {v : Value} {x : Raw} (h : RawQ w v x) (hs : Small x) : HasQ w v (ratOf x) ∧ qsz (ratOf x) ≤ 2 := by
 obtain ⟨A, n, c, A', n', c', rfl, h2, h3⟩ := h
 have s1 := sz_dig h2
 have s2 := sz_dig h3
 obtain ⟨k1, k2⟩ := hs
 have e1 := iv_abs x.1 x.2.1
 have e2 := iv_abs x.2.2.1 x.2.2.2
 exact ⟨⟨_, A, n, c, _, A', n', c', _, _, rfl, ⟨_, _, ⟨_, rfl, h2⟩, rfl, by omega⟩, ⟨_, _, ⟨_, rfl, h3⟩, rfl, by omega⟩, by rw [e1]; omega, by rw [e2]; omega, rfl⟩,
  qsz_divInt (by rw [e1]; omega) (by rw [e2]; omega) (by omega)⟩
theorem PolyV.has {w : World} {v : Value} {l : List Raw} (h : PolyV w v l) (hs : ∀ x ∈ l, Small x) : HsV 0 w v (l.map ratOf) := by
 obtain ⟨A, c, h1, h2, h3, h4⟩ := h
 refine ⟨A, c, by simpa using h1, by simpa using h2, h3, fun h0 => ?_⟩
 obtain ⟨g, o, q1, q2, q3⟩ := h4 (by simpa using h0)
 refine ⟨g, o, q1, q2, fun j hj => ?_⟩
 have hj' : j < l.length := by simpa using hj
 obtain ⟨cs, r1, r2, r3⟩ := q3 j hj'
 refine ⟨cs, r1, r2, ?_⟩
 rw [List.getElem_map]
 exact (r3.has (hs _ (List.getElem_mem hj'))).1
theorem PolyV.len {w : World} {v : Value} {l : List Raw} (h : PolyV w v l) : ∃ A c, v = .slice A l.length c ∧ l.length ≤ c ∧ c ≤ 9223372036854775807 := by
 obtain ⟨A, c, h1, h2, h3, h4⟩ := h; exact ⟨A, c, h1, h2, h3⟩
theorem PolyV.at_ {w : World} {A : Option Addr} {n c : Nat} {l : List Raw} (h : PolyV w (.slice A n c) l) {j : Nat} (hj : j < l.length) :
  ∃ g o A1 n c A1' n' c', A = some ⟨g, o, none⟩ ∧ w.cell? ⟨g, o + j * 4, none⟩ = some (.bool l[j].1) ∧ w.cell? ⟨g, o + j * 4 + 1, none⟩ = some (.slice A1 n c) ∧ w.cell? ⟨g, o + j * 4 + 2, none⟩ = some (.bool l[j].2.2.1) ∧ w.cell? ⟨g, o + j * 4 + 3, none⟩ = some (.slice A1' n' c') ∧ n = l[j].2.1.length ∧ n' = l[j].2.2.2.length := by
 obtain ⟨A', c', e1, h2, h3, h4⟩ := h
 have e5 : A' = A := by injection e1 with h1; exact h1.symm
 subst e5
 obtain ⟨g, o, ha, hb, hc⟩ := h4 (by omega)
 obtain ⟨cs, q1, q2, q3⟩ := hc j hj
 obtain ⟨A1, n1, c1, A2, n2, c2, e, d1, d2⟩ := q3
 obtain rfl := agg4 e
 obtain ⟨_, _, f1, _⟩ := d1
 obtain ⟨_, _, f2, _⟩ := d2
 exact ⟨g, o, A1, n1, c1, A2, n2, c2, ha, q2 0 (by omega), q2 1 (by omega), q2 2 (by omega), q2 3 (by omega), by injection f1, by injection f2⟩
end Go.Hp
namespace Go.Proofs.YtfacbpnegkjcgaaGreatDoor
open Go.RowKit Go.Hp Go.Deep Go.ChangeShapes Go.ChangeAt
section
variable {H : Type} {enc : TypeId × Value → H} {w : World} {spare : Nat → Bool} {held : Bool}
theorem open_digs {fuel : Nat} {cs : List Value} {x : DataW H × List MemPlace} (h : DataW.trod enc Tryz.prog w 0 spare held fuel 26 cs = some x) : ∃ A n c ds, cs = [.slice A n c] ∧ DigV w (.slice A n c) ds := by
 rcases open_ints Tryz.underlying26 Tryz.underlying87 (by kernel_rfl) h with ⟨rfl, _⟩ | ⟨a, n, c, zs, rfl, _, hl, hm, hz, _, hcell, hwz⟩
 ·exact ⟨none, 0, 0, [], rfl, none, 0, rfl, Nat.le_refl _, by omega, fun d hd => by simp at hd, fun h => by simp at h⟩
 ·have hzl : n ≤ zs.length := by rw [hz]; split <;> omega
  have hw : ∀ z ∈ zs, 0 ≤ z ∧ z < 4294967296 := fun z hz => by
   have := hwz z hz
   simp [Lit.wf] at this
   have e1 : IntKind.u32.min = 0 := rfl
   have e2 : IntKind.u32.max = 4294967295 := rfl
   omega
  have hlen : ((zs.take n).map Int.toNat).length = n := by simp; omega
  refine ⟨some a, n, c, (zs.take n).map Int.toNat, rfl, some a, c, by rw [hlen], by rw [hlen]; exact hl, maxLen_le hm, ?_, fun _ => ⟨a, rfl, fun j hj => ?_⟩⟩
  ·intro d hd
   obtain ⟨z, hz1, rfl⟩ := List.mem_map.1 hd
   have := hw z (List.mem_of_mem_take hz1)
   omega
  ·rw [hlen] at hj
   have hjz : j < zs.length := by omega
   rw [hcell j hjz, List.getElem_map, List.getElem_take]
   have := hw zs[j] (List.getElem_mem hjz)
   rw [show zs.getD j 0 = zs[j] from by rw [List.getD_eq_getElem?_getD, List.getElem?_eq_getElem hjz]; rfl]
   congr 2; omega
set_option maxRecDepth 100000 in
theorem open_zraw {fuel : Nat} {cs : List Value} {x : DataW H × List MemPlace} (h : DataW.trod enc Tryz.prog w 0 spare held fuel 28 cs = some x) : ∃ b A n c ds, cs = [.bool b, .slice A n c] ∧ DigV w (.slice A n c) ds := by
 obtain ⟨y0, y1, n, _, hl, h0, h1⟩ := trod_struct2 Tryz.underlying28 h
 rw [show Tryz.prog.cellsOf 28 = 2 from by kernel_rfl] at hl
 match cs, hl with
 | [c0, c1], _ =>
  rw [show Tryz.prog.cellsOf 4 = 1 from by kernel_rfl] at h0
  rw [show Tryz.prog.cellsOf 26 = 1 from by kernel_rfl] at h1
  obtain ⟨b, e0, _⟩ := DataW.trod_bool Tryz.underlying4 h0
  obtain ⟨A, m, c, ds, e1, hd⟩ := open_digs h1
  simp at e0 e1
  subst e0 e1
  exact ⟨b, A, m, c, ds, rfl, hd⟩
set_option maxRecDepth 100000 in
theorem open_raw {fuel : Nat} {cs : List Value} {x : DataW H × List MemPlace} (h : DataW.trod enc Tryz.prog w 0 spare held fuel 61 cs = some x) : ∃ r : Raw, ∃ cs' : Array Value, cs = cs'.toList ∧ cs'.size = 4 ∧ RawQ w (.agg cs') r := by
 obtain ⟨y0, y1, n, _, hl, h0, h1⟩ := trod_struct2 Tryz.underlying61 h
 rw [show Tryz.prog.cellsOf 61 = 4 from by kernel_rfl] at hl
 match cs, hl with
 | [c0, c1, c2, c3], _ =>
  rw [show Tryz.prog.cellsOf 28 = 2 from by kernel_rfl] at h0 h1
  obtain ⟨b, A, m, c, ds, e0, hd⟩ := open_zraw h0
  obtain ⟨b', A', m', c', ds', e1, hd'⟩ := open_zraw h1
  simp at e0 e1
  obtain ⟨rfl, rfl⟩ := e0
  obtain ⟨rfl, rfl⟩ := e1
  exact ⟨(b, ds, b', ds'), #[.bool b, .slice A m c, .bool b', .slice A' m' c'], rfl, rfl, A, m, c, A', m', c', rfl, hd, hd'⟩
end
end Go.Proofs.YtfacbpnegkjcgaaGreatDoor
namespace Go.Hp
open Go.RowKit
/-- The cells of one point. -/
def HasPt (w : World) (v : Value) (p : Rat × Rat) : Prop :=
 ∃ b1 A1 n1 c1 b2 A2 n2 c2 b3 A3 n3 c3 b4 A4 n4 c4, v = .agg #[.bool b1, .slice A1 n1 c1, .bool b2, .slice A2 n2 c2, .bool b3, .slice A3 n3 c3, .bool b4, .slice A4 n4 c4] ∧
  HasQ w (.agg #[.bool b1, .slice A1 n1 c1, .bool b2, .slice A2 n2 c2]) p.1 ∧ HasQ w (.agg #[.bool b3, .slice A3 n3 c3, .bool b4, .slice A4 n4 c4]) p.2
theorem HasPt.ext {w w' : World} {v : Value} {p : Rat × Rat} (h : HasPt w v p) (e : Ext w w') : HasPt w' v p := by
 obtain ⟨b1, A1, n1, c1, b2, A2, n2, c2, b3, A3, n3, c3, b4, A4, n4, c4, h1, h2, h3⟩ := h
 exact ⟨b1, A1, n1, c1, b2, A2, n2, c2, b3, A3, n3, c3, b4, A4, n4, c4, h1, h2.ext e, h3.ext e⟩
def PtsV (w : World) (v : Value) (l : List (Rat × Rat)) : Prop := RowV 8 HasPt 0 w v l
def PtsAt (w : World) (A : Option Addr) (l : List (Rat × Rat)) : Prop := RowAt 8 HasPt 0 w A l
theorem PtsV.ext {w w' : World} {v : Value} {l : List (Rat × Rat)} (h : PtsV w v l) (e : Ext w w') : PtsV w' v l := RowV.ext h e fun _ _ q => q.ext e
theorem PtsAt.at_ {w : World} {A : Option Addr} {l : List (Rat × Rat)} (h : PtsAt w A l) {j : Nat} (hj : j < l.length) :
  ∃ g o b1 A1 n1 c1 b2 A2 n2 c2 b3 A3 n3 c3 b4 A4 n4 c4, A = some ⟨g, o, none⟩ ∧ w.cell? ⟨g, o + j * 8, none⟩ = some (.bool b1) ∧ w.cell? ⟨g, o + j * 8 + 1, none⟩ = some (.slice A1 n1 c1) ∧ w.cell? ⟨g, o + j * 8 + 2, none⟩ = some (.bool b2) ∧ w.cell? ⟨g, o + j * 8 + 3, none⟩ = some (.slice A2 n2 c2) ∧
   w.cell? ⟨g, o + j * 8 + 4, none⟩ = some (.bool b3) ∧ w.cell? ⟨g, o + j * 8 + 5, none⟩ = some (.slice A3 n3 c3) ∧ w.cell? ⟨g, o + j * 8 + 6, none⟩ = some (.bool b4) ∧ w.cell? ⟨g, o + j * 8 + 7, none⟩ = some (.slice A4 n4 c4) ∧
   HasQ w (.agg #[.bool b1, .slice A1 n1 c1, .bool b2, .slice A2 n2 c2]) l[j].1 ∧ HasQ w (.agg #[.bool b3, .slice A3 n3 c3, .bool b4, .slice A4 n4 c4]) l[j].2 := by
 obtain ⟨g, o, ha, hb, hc⟩ := h (by omega)
 obtain ⟨cs, q1, q2, q3⟩ := hc j hj
 obtain ⟨b1, A1, n1, c1, b2, A2, n2, c2, b3, A3, n3, c3, b4, A4, n4, c4, e, h1, h2⟩ := q3
 obtain rfl : cs = #[.bool b1, .slice A1 n1 c1, .bool b2, .slice A2 n2 c2, .bool b3, .slice A3 n3 c3, .bool b4, .slice A4 n4 c4] := by injection e
 exact ⟨g, o, b1, A1, n1, c1, b2, A2, n2, c2, b3, A3, n3, c3, b4, A4, n4, c4, ha, q2 0 (by omega), q2 1 (by omega), q2 2 (by omega), q2 3 (by omega), q2 4 (by omega), q2 5 (by omega), q2 6 (by omega), q2 7 (by omega), h1, h2⟩
theorem PtsV.len {w : World} {v : Value} {l : List (Rat × Rat)} (h : PtsV w v l) : ∃ A c, v = .slice A l.length c ∧ l.length ≤ c ∧ c ≤ 9223372036854775807 ∧ PtsAt w A l := h
def px (l : List (Rat × Rat)) (i : Nat) : Rat := (l.getD i (0, 0)).1
def py (l : List (Rat × Rat)) (i : Nat) : Rat := (l.getD i (0, 0)).2
theorem px_lt {l : List (Rat × Rat)} {i : Nat} (h : i < l.length) : px l i = l[i].1 := by unfold px; rw [List.getD_eq_getElem?_getD, List.getElem?_eq_getElem h]; rfl
theorem py_lt {l : List (Rat × Rat)} {i : Nat} (h : i < l.length) : py l i = l[i].2 := by unfold py; rw [List.getD_eq_getElem?_getD, List.getElem?_eq_getElem h]; rfl
/-- No two of the first n are equal: told one by one. -/
theorem Apart.step {X : Nat → Rat} {n : Nat} (h : Apart X n) (k : ∀ j, j < n → X n ≠ X j) : Apart X (n + 1) := fun i j hi hj => by
 rcases Nat.lt_or_ge i n with l | l
 ·exact h i j l hj
 ·obtain rfl : i = n := by omega
  exact k j hj
end Go.Hp
namespace Go.Hp
open Go.RowKit
theorem agg_of_cells {v : Value} {cs : Array Value} (h : v.cells.toList = cs.toList) (hs : cs.size = 4) : v = .agg cs := by
 have hc : v.cells = cs := Array.toList_inj.1 h
 subst hc
 cases v <;> first | rfl | (exfalso; simp [Value.cells] at hs)
/-- An integer as it stands: sign and digits. -/
abbrev RawI := Bool × List Nat
def RawZ (w : World) (v : Value) (x : RawI) : Prop := IntV w v x.1 x.2
theorem RawZ.ext {w w' : World} {v : Value} {x : RawI} (h : RawZ w v x) (e : Ext w w') : RawZ w' v x := by
 obtain ⟨u, h1, h2⟩ := h; exact ⟨u, h1, h2.ext e⟩
/-- A slice of integers as they stand. -/
def ZPolyV (w : World) (v : Value) (l : List RawI) : Prop := RowV 2 RawZ 0 w v l
theorem ZPolyV.ext {w w' : World} {v : Value} {l : List RawI} (h : ZPolyV w v l) (e : Ext w w') : ZPolyV w' v l := RowV.ext h e fun _ _ q => q.ext e
/-- A point as it stands. -/
abbrev RawPt := Raw × Raw
def RawP2 (w : World) (v : Value) (x : RawPt) : Prop :=
 ∃ b1 A1 n1 c1 b2 A2 n2 c2 b3 A3 n3 c3 b4 A4 n4 c4, v = .agg #[.bool b1, .slice A1 n1 c1, .bool b2, .slice A2 n2 c2, .bool b3, .slice A3 n3 c3, .bool b4, .slice A4 n4 c4] ∧
  RawQ w (.agg #[.bool b1, .slice A1 n1 c1, .bool b2, .slice A2 n2 c2]) x.1 ∧ RawQ w (.agg #[.bool b3, .slice A3 n3 c3, .bool b4, .slice A4 n4 c4]) x.2
theorem RawP2.ext {w w' : World} {v : Value} {x : RawPt} (h : RawP2 w v x) (e : Ext w w') : RawP2 w' v x := by
 obtain ⟨b1, A1, n1, c1, b2, A2, n2, c2, b3, A3, n3, c3, b4, A4, n4, c4, h1, h2, h3⟩ := h
 exact ⟨b1, A1, n1, c1, b2, A2, n2, c2, b3, A3, n3, c3, b4, A4, n4, c4, h1, h2.ext e, h3.ext e⟩
def PointsV (w : World) (v : Value) (l : List RawPt) : Prop := RowV 8 RawP2 0 w v l
def PointsAt (w : World) (A : Option Addr) (l : List RawPt) : Prop := RowAt 8 RawP2 0 w A l
theorem PointsV.ext {w w' : World} {v : Value} {l : List RawPt} (h : PointsV w v l) (e : Ext w w') : PointsV w' v l := RowV.ext h e fun _ _ q => q.ext e
theorem PointsAt.at_ {w : World} {A : Option Addr} {l : List RawPt} (h : PointsAt w A l) {j : Nat} (hj : j < l.length) :
  ∃ g o b1 A1 n1 c1 b2 A2 n2 c2 b3 A3 n3 c3 b4 A4 n4 c4, A = some ⟨g, o, none⟩ ∧ w.cell? ⟨g, o + j * 8, none⟩ = some (.bool b1) ∧ w.cell? ⟨g, o + j * 8 + 1, none⟩ = some (.slice A1 n1 c1) ∧ w.cell? ⟨g, o + j * 8 + 2, none⟩ = some (.bool b2) ∧ w.cell? ⟨g, o + j * 8 + 3, none⟩ = some (.slice A2 n2 c2) ∧
   w.cell? ⟨g, o + j * 8 + 4, none⟩ = some (.bool b3) ∧ w.cell? ⟨g, o + j * 8 + 5, none⟩ = some (.slice A3 n3 c3) ∧ w.cell? ⟨g, o + j * 8 + 6, none⟩ = some (.bool b4) ∧ w.cell? ⟨g, o + j * 8 + 7, none⟩ = some (.slice A4 n4 c4) ∧
   RawQ w (.agg #[.bool b1, .slice A1 n1 c1, .bool b2, .slice A2 n2 c2]) l[j].1 ∧ RawQ w (.agg #[.bool b3, .slice A3 n3 c3, .bool b4, .slice A4 n4 c4]) l[j].2 := by
 obtain ⟨g, o, ha, hb, hc⟩ := h (by omega)
 obtain ⟨cs, q1, q2, q3⟩ := hc j hj
 obtain ⟨b1, A1, n1, c1, b2, A2, n2, c2, b3, A3, n3, c3, b4, A4, n4, c4, e, h1, h2⟩ := q3
 obtain rfl : cs = #[.bool b1, .slice A1 n1 c1, .bool b2, .slice A2 n2 c2, .bool b3, .slice A3 n3 c3, .bool b4, .slice A4 n4 c4] := by injection e
 exact ⟨g, o, b1, A1, n1, c1, b2, A2, n2, c2, b3, A3, n3, c3, b4, A4, n4, c4, ha, q2 0 (by omega), q2 1 (by omega), q2 2 (by omega), q2 3 (by omega), q2 4 (by omega), q2 5 (by omega), q2 6 (by omega), q2 7 (by omega), h1, h2⟩
/-- Small points read as points. -/
def SmallP (x : RawPt) : Prop := Small x.1 ∧ Small x.2
def ptOf (x : RawPt) : Rat × Rat := (ratOf x.1, ratOf x.2)
theorem PointsV.has {w : World} {v : Value} {l : List RawPt} (h : PointsV w v l) (hs : ∀ x ∈ l, SmallP x) : PtsV w v (l.map ptOf) ∧ (∀ i, i < l.length → qsz (px (l.map ptOf) i) ≤ 2 ∧ qsz (py (l.map ptOf) i) ≤ 2) := by
 obtain ⟨A, c, h1, h2, h3, h4⟩ := h
 refine ⟨⟨A, c, by simpa using h1, by simpa using h2, h3, fun h0 => ?_⟩, fun i hi => ?_⟩
 ·obtain ⟨g, o, q1, q2, q3⟩ := h4 (by simpa using h0)
  refine ⟨g, o, q1, q2, fun j hj => ?_⟩
  have hj' : j < l.length := by simpa using hj
  obtain ⟨cs, r1, r2, b1, A1, n1, c1, b2, A2, n2, c2, b3, A3, n3, c3, b4, A4, n4, c4, e, k1, k2⟩ := q3 j hj'
  refine ⟨cs, r1, r2, ?_⟩
  rw [List.getElem_map]
  have hsm := hs _ (List.getElem_mem hj')
  exact ⟨b1, A1, n1, c1, b2, A2, n2, c2, b3, A3, n3, c3, b4, A4, n4, c4, e, (k1.has hsm.1).1, (k2.has hsm.2).1⟩
 ·obtain ⟨g, o, q1, q2, q3⟩ := h4 (by omega)
  obtain ⟨cs, r1, r2, b1, A1, n1, c1, b2, A2, n2, c2, b3, A3, n3, c3, b4, A4, n4, c4, e, k1, k2⟩ := q3 i hi
  have hsm := hs _ (List.getElem_mem hi)
  rw [px_lt (by simpa using hi), py_lt (by simpa using hi), List.getElem_map]
  exact ⟨(k1.has hsm.1).2, (k2.has hsm.2).2⟩
end Go.Hp
namespace Go.Proofs.YtfacbpnegkjcgaaGreatDoor
open Go.RowKit Go.Hp Go.Deep Go.ChangeShapes Go.ChangeAt
section
variable {H : Type} {enc : TypeId × Value → H} {w : World} {spare : Nat → Bool} {held : Bool}
/-- A slice of structs of k cells: told by what one struct reads as. -/
theorem open_rows {α : Type} {k E : Nat} (hk : 0 < k) {rd : World → Value → α → Prop} (hsz : Tryz.prog.cellsOf E = k)
  (hop : ∀ {fuel : Nat} {cs : List Value} {x : DataW H × List MemPlace}, DataW.trod enc Tryz.prog w 0 spare held fuel E cs = some x → ∃ r : α, ∃ cs' : Array Value, cs = cs'.toList ∧ cs'.size = k ∧ rd w (.agg cs') r)
  {T fuel : Nat} {v : Value} {x : DataW H × List MemPlace} (hT : Tryz.prog.underlying T = some (.slice E)) (h : DataW.trod enc Tryz.prog w 0 spare held fuel T v.cells.toList = some x) (hv : ∃ a n c, v = .slice a n c) : ∃ l : List α, RowV k rd 0 w v l := by
 obtain ⟨a0, n0, c0, rfl⟩ := hv
 rcases open_slice hT h with ⟨hcs, _⟩ | ⟨a, n, c, m, k', D, Pl, hcs, _, hl, hm, hmm, _, hel⟩
 ·simp [Value.cells] at hcs
  obtain ⟨rfl, rfl, rfl⟩ := hcs
  exact ⟨[], RowV.nil k rd 0 w⟩
 ·simp [Value.cells] at hcs
  obtain ⟨rfl, rfl, rfl⟩ := hcs
  have hnm : n0 ≤ m := by rw [hmm]; split <;> omega
  rw [hsz] at hel
  have key : ∀ i, i < n0 → ∃ r : α, ∃ cs : Array Value, cs.size = k ∧ (∀ j, j < k → w.cell? ((a.add (i * k)).add j) = cs[j]?) ∧ rd w (.agg cs) r := fun i hi => by
   obtain ⟨cs', h1, h2⟩ := hel i (by omega)
   obtain ⟨r, cs, rfl, h3, h4⟩ := hop h2
   obtain ⟨_, h5, h6⟩ := World.cells?_some h1
   exact ⟨r, cs, h3, fun j hj => by rw [h6 j hj]; simp, h4⟩
  have hc : ∀ n', n' ≤ n0 → ∃ l : List α, l.length = n' ∧ ∀ i (h : i < l.length), ∃ cs : Array Value, cs.size = k ∧ (∀ j, j < k → w.cell? ((a.add (i * k)).add j) = cs[j]?) ∧ rd w (.agg cs) l[i] := by
   intro n'
   induction n' with
   | zero => intro _; exact ⟨[], rfl, fun i h => by simp at h⟩
   | succ n' ih =>
    intro hn
    obtain ⟨l, hl1, hl2⟩ := ih (by omega)
    obtain ⟨r, cs, k1, k2, k3⟩ := key n' (by omega)
    refine ⟨l ++ [r], by simp [hl1], fun i hi => ?_⟩
    rcases Nat.lt_or_ge i l.length with h' | h'
    ·rw [List.getElem_append_left h']; exact hl2 i h'
    ·have e : i = n' := by simp at hi; omega
     subst e
     refine ⟨cs, k1, k2, ?_⟩
     rw [List.getElem_append_right h']
     simpa [hl1] using k3
  obtain ⟨l, hl1, hl2⟩ := hc n0 (Nat.le_refl _)
  refine ⟨l, some a, c0, by rw [hl1], by omega, maxLen_le hm, fun h0 => ?_⟩
  obtain ⟨b, off, spot⟩ := a
  obtain ⟨cs, k1, k2, k3⟩ := hl2 0 h0
  have hs : spot = none := by
   have := k2 0 hk
   rw [Array.getElem?_eq_getElem (by omega)] at this
   simpa [Addr.add] using World.cell?_spot this
  subst hs
  refine ⟨b, off, rfl, Nat.zero_le _, fun j hj => ?_⟩
  obtain ⟨cs, k1, k2, k3⟩ := hl2 j hj
  refine ⟨cs, k1, fun i hi => ?_, k3⟩
  rw [← k2 i hi, addr_add, addr_add]
set_option maxRecDepth 100000 in
theorem open_zp {fuel : Nat} {cs : List Value} {x : DataW H × List MemPlace} (h : DataW.trod enc Tryz.prog w 0 spare held fuel 28 cs = some x) : ∃ r : RawI, ∃ cs' : Array Value, cs = cs'.toList ∧ cs'.size = 2 ∧ RawZ w (.agg cs') r := by
 obtain ⟨b, A, n, c, ds, rfl, hd⟩ := open_zraw h
 exact ⟨(b, ds), #[.bool b, .slice A n c], rfl, rfl, _, rfl, hd⟩
theorem open_zpoly {T fuel : Nat} {v : Value} {x : DataW H × List MemPlace} (hT : Tryz.prog.underlying T = some (.slice 28)) (h : DataW.trod enc Tryz.prog w 0 spare held fuel T v.cells.toList = some x) (hv : ∃ a n c, v = .slice a n c) : ∃ l : List RawI, ZPolyV w v l :=
 open_rows (by decide) (by kernel_rfl) (fun h => open_zp h) hT h hv
end
end Go.Proofs.YtfacbpnegkjcgaaGreatDoor
namespace Go.Hp
open Go.RowKit
/-- The integer that a raw one stands for. -/
def zOf (x : RawI) : Int := iv x.1 x.2
theorem RawZ.has {w : World} {v : Value} {x : RawI} (h : RawZ w v x) (hs : x.2.length ≤ 1099511627776) : HasZ w v (zOf x) ∧ sz (zOf x).natAbs ≤ x.2.length := by
 have h' := h
 obtain ⟨s, rfl, hd⟩ := h'
 refine ⟨⟨x.1, x.2, h, rfl, hs⟩, ?_⟩
 have := sz_dig hd
 unfold zOf; rw [iv_abs]; exact this
theorem ZPolyV.len {w : World} {v : Value} {l : List RawI} (h : ZPolyV w v l) : ∃ A c, v = .slice A l.length c ∧ l.length ≤ c ∧ c ≤ 9223372036854775807 := by
 obtain ⟨A, c, h1, h2, h3, h4⟩ := h; exact ⟨A, c, h1, h2, h3⟩
theorem ZPolyV.at_ {w : World} {A : Option Addr} {n c : Nat} {l : List RawI} (h : ZPolyV w (.slice A n c) l) {j : Nat} (hj : j < l.length) :
  ∃ g o A1 c, A = some ⟨g, o, none⟩ ∧ w.cell? ⟨g, o + j * 2, none⟩ = some (.bool l[j].1) ∧ w.cell? ⟨g, o + j * 2 + 1, none⟩ = some (.slice A1 l[j].2.length c) ∧ RawZ w (.agg #[.bool l[j].1, .slice A1 l[j].2.length c]) l[j] := by
 obtain ⟨A', c', e1, h2, h3, h4⟩ := h
 have e5 : A' = A := by injection e1 with h1; exact h1.symm
 subst e5
 obtain ⟨g, o, q1, q2, q3⟩ := h4 (by omega)
 obtain ⟨cs, r1, r2, r3⟩ := q3 j hj
 have hr := r3
 obtain ⟨s, e, A1, c1, e2, k⟩ := r3
 subst e2
 have e := agg2 e
 subst e
 exact ⟨g, o, A1, c1, q1, r2 0 (by omega), r2 1 (by omega), hr⟩
theorem ZPolyV.has {w : World} {v : Value} {l : List RawI} {d : Nat} (h : ZPolyV w v l) (hs : ∀ x ∈ l, x.2.length ≤ d) (hd : d ≤ 1099511627776 := by omega) : HzV 0 w v (l.map zOf) ∧ ∀ x ∈ l.map zOf, sz x.natAbs ≤ d := by
 obtain ⟨A, c, h1, h2, h3, h4⟩ := h
 have key : ∀ j (hj : j < l.length), ∃ cs : Array Value, cs.size = 2 ∧ RawZ w (.agg cs) l[j] := fun j hj => by
  obtain ⟨g, o, q1, q2, q3⟩ := h4 (by omega)
  obtain ⟨cs, r1, r2, r3⟩ := q3 j hj
  exact ⟨cs, r1, r3⟩
 refine ⟨⟨A, c, by simpa using h1, by simpa using h2, h3, fun h0 => ?_⟩, fun x hx => ?_⟩
 ·obtain ⟨g, o, q1, q2, q3⟩ := h4 (by simpa using h0)
  refine ⟨g, o, q1, q2, fun j hj => ?_⟩
  have hj' : j < l.length := by simpa using hj
  obtain ⟨cs, r1, r2, r3⟩ := q3 j hj'
  refine ⟨cs, r1, r2, ?_⟩
  rw [List.getElem_map]
  exact (r3.has (Nat.le_trans (hs _ (List.getElem_mem hj')) hd)).1
 ·obtain ⟨y, hy, rfl⟩ := List.mem_map.1 hx
  obtain ⟨j, hj, rfl⟩ := List.getElem_of_mem hy
  obtain ⟨cs, -, r3⟩ := key j hj
  have := hs _ (List.getElem_mem hj)
  exact Nat.le_trans (r3.has (by omega)).2 this
theorem ZPolyV.qsz {w : World} {v : Value} {l : List RawI} {d : Nat} (h : ZPolyV w v l) (hs : ∀ x ∈ l, x.2.length ≤ d) (hd : d ≤ 1099511627776 := by omega) (h1 : 1 ≤ d := by omega) (i : Nat) : qsz (cz (l.map zOf) i) ≤ d := cz_qsz (h.has hs hd).2 h1 i
end Go.Hp
namespace Go.Hp
open Go.RowKit
theorem lzf_succ (k : Nat) (F : Nat → Rat) : lzf (k + 1) F = lzf k F ++ [(F k).num] := by simp [lzf, List.range_succ]
theorem small_lenz {n : Nat} (h : n ≤ 1099511627776) : n + 1 ≤ maxLen := by simp only [maxLen]; omega
theorem lzf_cz (l : List Int) : lzf l.length (cz l) = l := by
 apply List.ext_getElem
 ·rw [lzf_len]
 ·intro i h1 h2; rw [lzf_get, cz_lt h2]; rfl
end Go.Hp
namespace Go.Proofs.YtfacbpnegkjcgaaGreatDoor
open Go.RowKit Go.Hp
theorem append_rz (W : World) (base ty g : Nat) (v : Value) (l : List Int) (q : Int) {b : Bool} {A : Option Addr} {n c : Nat} (h : OwnZ base 28 W v l) (hq : IsZ W (.agg #[.bool b, .slice A n c]) q) (hn : l.length ≤ 1099511627776) (hb : base ≤ W.heap.size) (hg : g = W.heap.size) :
  ∃ v' w', (Builtin.append_ #[22, 22] ty #[v, .slice (some ⟨g, 0, none⟩) 1 1]).run Tryz.prog (W.alloc (.cells #[.bool b, .slice A n c] 28)) = .ok v' w' ∧ (OwnZ base 28 w' v' (l ++ [q]) ∧ Upd (blk v) (W.alloc (.cells #[.bool b, .slice A n c] 28)) w') := by
 subst hg
 obtain ⟨g, cs, e1, h1, h2, h3, h4⟩ := NewZ.mk hq (base := W.heap.size) (Nat.le_refl _) 28
 cases e1
 obtain ⟨i0, hi, hz0, hz1, hz2⟩ := info_parts info_int
 have ho := IsZ.one h4
 have hx := (Ext.refl W).alloc (.cells #[.bool b, .slice A n c] 28)
 obtain ⟨v', w', a, b, c⟩ := OwnR.append (P := Tryz.prog) (h.ext hx) 22 ty i0 _ 32 Tryz.underlying22 hi hz0 hz1 hz2 rfl (by simp [nodig, isDig, Value.cells]) (by decide) ⟨W.heap.size, 0, none⟩ 1 cs h3 h4 h2.news ho.1 ho.2.1 (small_lenz hn) (by omega) (Nat.le_trans hb hx.size) (fun _ _ _ k hq => IsZ.kd hq k)
 exact ⟨v', w', a, b, c⟩
set_option maxHeartbeats 1000000 in
theorem normal_rz (v : Value) (l : List Int) (w : World) (hv : HzV 0 w v l) (hn : l.length ≤ 1099511627776) : Calls Tryz.prog 20 #[v] w (Gives w fun r w' => IsZP w.heap.size w' r (cz l)) := by
 have hqs := hv.sz
 obtain ⟨A, c, rfl, hl, hc, hA⟩ := hv
 have HA : Hid (HzAt 0 w A l) := Lib.hid hA; clear hA
 have HQ := Lib.hid hqs; clear hqs
 go_enter Tryz.func20, Tryz.ntmps20
 go_wp2
 go_loopw [3, 4] (fun ov iv wr => ∃ (k : Nat), k ≤ l.length ∧ iv = .int .i64 k ∧ OwnZ w.heap.size 28 wr ov (lzf k (cz l)) ∧ Ext w wr) (fun _ iv _ => l.length - (intOf iv).toNat)
 case atStart => exact ⟨0, Nat.zero_le _, rfl, OwnR.nil _ _ _ _ _, Ext.refl _⟩
 case round =>
  obtain ⟨k, hk, rfl, hown, hx⟩ := hrel
  by_cases hkl : k < l.length
  ·obtain ⟨g, o, b, A1, n, c1, rfl, _, q0, q1, hq⟩ := HA.out.at_ (j := k) hkl
   replace q0 := hx.cell q0
   replace q1 := hx.cell q1
   have Hq := Lib.hid (hq.kd hx.kd); clear hq
   go_wp2_with fail
   refine Calls.mono (norm_r _ _ _ Hq.out) ?_
   rintro e w2 ⟨r, rfl, hr, hx2⟩
   obtain ⟨b5, A5, n5, c5, rfl⟩ := hr.cells
   have Hr := Lib.hid hr; clear hr
   replace hown := hown.ext hx2
   replace hx := hx.trans hx2
   have Hown := Lib.hid hown; clear hown
   have hsz := hx.size
   clear hx2 q0 q1 Hq
   go_wp2_with (at_builtin; refine wpList_append_run rfl _ _ 22 rfl u3 (.slice (some ⟨w2.heap.size, 0, none⟩) 1 1) rfl rfl (append_rz w2 w.heap.size _ _ _ _ _ Hown.out Hr.out (by first | (rw [lzf_len]; omega) | omega) hsz rfl) ?_)
   first | intro v' w5 hown U | rintro v' w5 ⟨hown, U⟩
   replace hx := (Hown.out.ext ((Ext.refl w2).alloc _)).from_ U (hx.alloc _) (Nat.le_refl _)
   have Hown' := Lib.hid hown; clear hown U
   go_wp2
   go_roundw
   case rel => exact ⟨k + 1, by omega, by go_num, by rw [lzf_succ, cz_lt hkl]; exact Hown'.out, hx⟩
   case measure => simp [intOf] <;> omega
  ·obtain rfl : k = l.length := by omega
   rw [lzf_cz] at hown
   obtain ⟨A2, c2, rfl, h2, h3, h4⟩ := OwnZ.row hown
   have Hrow : Hid (ZsAt w.heap.size wr A2 l) := Lib.hid h4; clear h4 hown
   have hx0 := hx
   go_wp2
   clear hx
   go_loopw [5] (fun nv wx => ∃ m : Nat, m ≤ l.length ∧ nv = .int .i64 m ∧ (∀ j, m ≤ j → (h : j < l.length) → l[j] = 0) ∧ Ext wr wx) (fun nv _ => (intOf nv).toNat)
   case atStart => exact ⟨l.length, Nat.le_refl _, rfl, fun j h1 h2 => by omega, Ext.refl _⟩
   case round =>
    obtain ⟨m, hm, rfl, hz, hx⟩ := hrel
    have Hz := Lib.hid hz; clear hz
    by_cases h0 : 0 < m
    ·obtain ⟨m, rfl⟩ : ∃ k, m = k + 1 := ⟨m - 1, by omega⟩
     have hml : m < l.length := by omega
     have Hrow' : Hid (ZsAt w.heap.size _ A2 l) := Lib.hid Hrow.out
     obtain ⟨g, o, b, A1, n, c1, rfl, hb, q0, q1, hq⟩ := Hrow'.out.at_ (j := m) hml
     replace q0 := hx.cell q0
     replace q1 := hx.cell q1
     have Hq := Lib.hid ((hq.has (HQ.out _ (List.getElem_mem hml))).kd hx.kd); clear hq
     go_wp2_with fail
     refine Calls.mono (sign_r _ l[m] _ Hq.out) ?_
     rintro e w2 ⟨r, rfl, rfl, hx2⟩
     by_cases hd0 : l[m]'(by omega) = 0
     ·have hb : (l[m].sign == 0) = true := by rw [hd0]; rfl
      have Hd := Lib.hid hd0; clear hd0
      go_wp2
      go_roundw
      case rel => exact ⟨m, by omega, by go_num, fun j h1 h2 => by
       rcases Nat.eq_or_lt_of_le h1 with e | e
       ·subst e; exact Hd.out
       ·exact Hz.out j (by omega) h2, hx.trans hx2⟩
      case measure => simp [intOf] <;> omega
     ·have hb : (l[m].sign == 0) = false := by
       have : l[m].sign ≠ 0 := fun e => hd0 (Int.sign_eq_zero_iff_zero.1 e)
       simpa using this
      have Hd := Lib.hid hd0; clear hd0
      go_wp2
      go_ret
      have hlen := trimZ_take hm Hz.out (fun h _ => by simpa using Hd.out)
      have hR := (ZsV.trim (Hrow.out.ext (hx.trans hx2)) h2 h3)
      rw [hlen] at hR
      exact Gives.mk (IsZP.of_trim hR rfl) ((hx0.trans hx).trans hx2)
    ·obtain rfl : m = 0 := by omega
     have hlen := trimZ_take hm Hz.out (fun h hh => by omega)
     have hR := (ZsV.trim (Hrow.out.ext hx) h2 h3)
     rw [hlen] at hR
     have HR := Lib.hid (And.intro hR hlen); clear hR hlen
     go_wp2
     go_ret
     exact Gives.mk (IsZP.of_trim HR.out.1 rfl) (hx0.trans hx)
theorem degree_rz (v : Value) (l : List Int) (w : World) (hv : HzV 0 w v l) (hn : l.length ≤ 1099511627776) : Calls Tryz.prog 25 #[v] w (Gives w fun r _ => r = .int .i64 ((pl (cz l) : Int) - 1)) := by
 have HV := Lib.hid hv
 obtain ⟨A, c, rfl⟩ := hv.len
 clear hv
 have hpl : pl (cz l) ≤ l.length := pl_le (cz_sup l)
 go_enter Tryz.func25, Tryz.ntmps25
 go_wp2_with fail
 refine Calls.mono (normal_rz _ l _ HV.out hn) ?_
 rintro e w1 ⟨r, rfl, hr, hx1⟩
 obtain ⟨A2, c2, rfl, -⟩ := hr.shape
 clear hr
 go_wp2
 go_ret
 exact Gives.mk rfl hx1
theorem at_rz (v : Value) (l : List Int) (k : Nat) (w : World) (hv : HzV 0 w v l) (hk : k ≤ 9223372036854775807) : Calls Tryz.prog 88 #[v, .int .i64 (k : Nat)] w (Gives w fun r w' => IsZ w' r (cz l k).num) := by
 obtain ⟨A, c, rfl, hl, hc, hA⟩ := hv
 by_cases hkl : k < l.length
 ·obtain ⟨g, o, b, A1, n, c1, rfl, _, q0, q1, hq⟩ := HzAt.at_ hA (j := k) hkl
  rw [cz_lt hkl]
  have Hq := Lib.hid hq; clear hq hA
  have hkc : (k : Int) < l.length := by omega
  replace q0 := ((Ext.refl w).alloc (.cells #[.bool false, .slice none 0 0] 28)).cell q0
  replace q1 := ((Ext.refl w).alloc (.cells #[.bool false, .slice none 0 0] 28)).cell q1
  go_enter Tryz.func88, Tryz.ntmps88
  go_wp2_with fail
  refine Calls.mono (norm_r _ _ _ (Hq.out.kd ((Ext.refl w).alloc _).kd)) ?_
  rintro e w1 ⟨r, rfl, hr, hx1⟩
  clear q0 q1
  obtain ⟨b5, A5, n5, c5, rfl⟩ := hr.cells
  have hc1 := hx1.cells
  have hf1 := hx1.frozens
  have Hfin := Lib.hid (fin_z hr hx1.a1 (NoDig.at_ hx1 (g := w.heap.size + 0) (by simp) (by simp [isDig])) (by omega))
  clear hr
  go_wp2
  refine bodyPost_ret (v := .agg #[.bool b5, .slice A5 n5 c5]) (by simp [results, Tryz.results88, go_sem, hc1]) rfl ?_
  exact Hfin.out
 ·have hz : (cz l k).num = 0 := by rw [cz_ge (by omega)]; rfl
  have hkc : ¬ (k : Int) < l.length := by omega
  have Hz := Lib.hid hz; clear hz hA
  rw [Hz.out]
  go_enter Tryz.func88, Tryz.ntmps88
  go_wp2_with fail
  refine Calls.mono (of_r 0 _ (by omega) (by omega)) ?_
  rintro e w1 ⟨r, rfl, hr, hx1⟩
  obtain ⟨b5, A5, n5, c5, rfl⟩ := hr.cells
  have hc1 := hx1.cells
  have hf1 := hx1.frozens
  have Hfin := Lib.hid (fin_z hr hx1.a1 (NoDig.at_ hx1 (g := w.heap.size + 0) (by simp) (by simp [isDig])) (by omega))
  clear hr
  go_wp2
  refine bodyPost_ret (v := .agg #[.bool b5, .slice A5 n5 c5]) (by simp [results, Tryz.results88, go_sem, hc1]) rfl ?_
  exact Hfin.out
end Go.Proofs.YtfacbpnegkjcgaaGreatDoor
namespace Go.Hp
open Go.RowKit
/-- The slices that long is handed. -/
def ListsZ (w : World) (g : Nat) (vs : List (Value × List RawI)) : Prop := ∀ j (h : j < vs.length), w.cell? ⟨g, j, none⟩ = some vs[j].1 ∧ ZPolyV w vs[j].1 vs[j].2
/-- What long answers. -/
def LongZ (most d : Nat) (vs : List (Value × List RawI)) (w : World) (e : Ending) (w' : World) : Prop := w = w' ∧ ∃ b : Bool, e = .returned (.bool b) ∧ (b = false → ∀ p ∈ vs, p.2.length ≤ most ∧ ∀ x ∈ p.2, x.2.length ≤ d)
def FineZ (most d : Nat) (l : List RawI) : Prop := l.length ≤ most ∧ ∀ x ∈ l, x.2.length ≤ d
theorem listsZ_two (w : World) (t : TypeId) {v u : Value} {l m : List RawI} (h1 : ZPolyV w v l) (h2 : ZPolyV w u m) {g : Nat} (hg : g = w.heap.size) : ListsZ (w.alloc (.cells #[v, u] t)) g [(v, l), (u, m)] := by
 subst hg
 intro j hj
 have hj2 : j < 2 := by simpa using hj
 match j, hj2 with
 | 0, _ => exact ⟨by rw [cell_of_row _ w.heap.size 0 _ t (0, 0) (heap_alloc_new w _)]; rfl, h1.ext ((Ext.refl w).alloc _)⟩
 | 1, _ => exact ⟨by rw [cell_of_row _ w.heap.size 1 _ t (0, 0) (heap_alloc_new w _)]; rfl, h2.ext ((Ext.refl w).alloc _)⟩
end Go.Hp
namespace Go.Proofs.YtfacbpnegkjcgaaGreatDoor
open Go.RowKit Go.Hp
set_option maxRecDepth 20000 in
set_option maxHeartbeats 1000000 in
theorem zs_b (v : Value) (ns : List Int) (w : World) (hv : IntsV w v ns) (hn : ns.length ≤ 1000) (hs : ∀ n ∈ ns, -4294967296 < n ∧ n < 4294967296) : Calls Tryz.prog 59 #[v] w (Gives w fun r w' => ZsV w.heap.size w' r ns) := by
 obtain ⟨g, c, rfl, h1, h2, h3⟩ := hv
 have H3 := Lib.hid (And.intro h3 hs); clear h3 hs
 go_enter Tryz.func59, Tryz.ntmps59
 go_wp2
 go_loopw [3, 4] (fun ov iv wr => ∃ (k : Nat), k ≤ ns.length ∧ iv = .int .i64 k ∧ OwnZ w.heap.size 28 wr ov (ns.take k) ∧ Ext w wr) (fun _ iv _ => ns.length - (intOf iv).toNat)
 case atStart => exact ⟨0, Nat.zero_le _, rfl, OwnR.nil _ _ _ _ _, Ext.refl _⟩
 case round =>
  obtain ⟨k, hk, rfl, hown, hx⟩ := hrel
  have Hown0 := Lib.hid hown; clear hown
  by_cases hkl : k < ns.length
  ·have q0 := hx.cell (H3.out.1 k hkl)
   obtain ⟨m, hm⟩ : ∃ m, m = ns[k] := ⟨_, rfl⟩
   rw [← hm] at q0
   have hb := H3.out.2 ns[k] (List.getElem_mem hkl)
   rw [← hm] at hb
   have Hm := Lib.hid hm; clear hm
   go_wp2_with fail
   refine Calls.mono (z_b m _ hb.1 hb.2) ?_
   rintro e w2 ⟨r, rfl, hr, hx2⟩
   obtain ⟨b5, A5, n5, c5, rfl⟩ := hr.cells
   have Hr := Lib.hid hr; clear hr
   have hown := Hown0.out.ext hx2
   have Hown := Lib.hid hown; clear hown
   replace hx := hx.trans hx2
   have hsz := hx.size
   have hlk : (ns.take k).length ≤ 1000 := Nat.le_trans (List.length_take_le _ _) (by omega)
   clear hx2 q0 Hown0
   go_wp2_with (at_builtin; refine wpList_append_run rfl _ _ 22 rfl u3 (.slice (some ⟨w2.heap.size, 0, none⟩) 1 1) rfl rfl (append_rz w2 w.heap.size _ _ _ _ _ Hown.out Hr.out (by first | (rw [lzf_len]; omega) | omega) hsz rfl) ?_)
   first | intro v' w5 hown U | rintro v' w5 ⟨hown, U⟩
   replace hx := (Hown.out.ext ((Ext.refl w2).alloc _)).from_ U (hx.alloc _) (Nat.le_refl _)
   have Hown' := Lib.hid hown; clear hown U
   go_wp2
   go_roundw
   case rel => exact ⟨k + 1, by omega, by go_num, by
    rw [List.take_succ_eq_append_getElem hkl, ← Hm.out]; exact Hown'.out, hx⟩
   case measure => simp [intOf] <;> omega
  ·obtain rfl : k = ns.length := by omega
   have hq := OwnZ.row Hown0.out
   rw [List.take_of_length_le (Nat.le_refl _)] at hq
   have Hq := Lib.hid hq; clear hq Hown0
   go_wp2
   go_ret
   exact Gives.mk Hq.out hx
set_option maxHeartbeats 2000000 in
theorem zlong_b (most d : Nat) (g c : Nat) (vs : List (Value × List RawI)) (w : World) (hm : most ≤ 1000) (hd : d ≤ 1000) (hn : vs.length ≤ 1000) (hc : vs.length ≤ c) (hv : ListsZ w g vs) :
  Calls Tryz.prog 12 #[.int .i64 (most : Nat), .int .i64 (d : Nat), .slice (some ⟨g, 0, none⟩) vs.length c] w (LongZ most d vs w) := by
 have HV := Lib.hid hv; clear hv
 go_enter Tryz.func12, Tryz.ntmps12
 go_wp2
 go_loop [7] (fun iv => ∃ i : Nat, i ≤ vs.length ∧ iv = .int .i64 i ∧ ∀ j (h : j < vs.length), j < i → FineZ most d vs[j].2) (fun iv => vs.length - (intOf iv).toNat)
 case atStart => exact ⟨0, Nat.zero_le _, rfl, fun j h h' => by omega⟩
 case round =>
  obtain ⟨i, hi, rfl, hst⟩ := hrel
  have Hst := Lib.hid hst; clear hst
  by_cases hil : i < vs.length
  ·obtain ⟨q, hp⟩ := HV.out i hil
   obtain ⟨A1, c1, e1, hl1, hl2⟩ := hp.len
   rw [e1] at q hp
   obtain ⟨l, hl⟩ : ∃ l, l = vs[i].2 := ⟨_, rfl⟩
   rw [← hl] at q hp hl1
   have Hl := Lib.hid (And.intro hl hp); clear hl hp e1
   by_cases hlong : most < l.length
   ·skip
    go_wp2
    go_ret
    exact ⟨rfl, true, rfl, fun h => by cases h⟩
   ·go_wp2
    go_loop [8] (fun kv => ∃ k : Nat, k ≤ l.length ∧ kv = .int .i64 k ∧ ∀ j (h : j < l.length), j < k → l[j].2.length ≤ d) (fun kv => l.length - (intOf kv).toNat)
    case atStart => exact ⟨0, Nat.zero_le _, rfl, fun j h h' => by omega⟩
    case round =>
     obtain ⟨k, hk, rfl, hsm⟩ := hrel
     have Hsm := Lib.hid hsm; clear hsm
     by_cases hkl : k < l.length
     ·obtain ⟨g', o', B1, d1, rfl, r0, r1, -⟩ := Hl.out.2.at_ hkl
      obtain ⟨n, hn1⟩ : ∃ n, n = l[k].2.length := ⟨_, rfl⟩
      rw [← hn1] at r1
      have He := Lib.hid hn1; clear hn1
      by_cases hx1 : d < n
      ·skip
       go_wp2
       go_ret
       exact ⟨rfl, true, rfl, fun h => by cases h⟩
      ·go_wp2
       go_round
       case rel => exact ⟨k + 1, by omega, by go_num, fun j h1 h2 => by
        rcases Nat.lt_or_ge j k with h | h
        ·exact Hsm.out j h1 h
        ·obtain rfl : j = k := by omega
         have := He.out
         omega⟩
       case measure => simp [intOf] <;> omega
     ·obtain rfl : k = l.length := by omega
      go_wp2
      go_round
      case rel => exact ⟨i + 1, by omega, by go_num, fun j h1 h2 => by
       rcases Nat.lt_or_ge j i with h | h
       ·exact Hst.out j h1 h
       ·obtain rfl : j = i := by omega
        rw [← Hl.out.1]
        exact ⟨by omega, fun x hx => by
         obtain ⟨j, hj, rfl⟩ := List.getElem_of_mem hx
         exact Hsm.out j hj hj⟩⟩
      case measure => simp [intOf] <;> omega
  ·obtain rfl : i = vs.length := by omega
   go_wp2
   go_ret
   exact ⟨rfl, false, rfl, fun _ p hp => by
    obtain ⟨j, hj, rfl⟩ := List.getElem_of_mem hp
    exact Hst.out j hj hj⟩
end Go.Proofs.YtfacbpnegkjcgaaGreatDoor
namespace Go.Proofs.YtfacbpnegkjcgaaGreatDoor
open Go.RowKit Go.Hp
set_option maxHeartbeats 1000000 in
theorem sameints_d (v u : Value) (l m : List Int) (b1 b2 : Nat) (w : World) (hv : ZsV b1 w v l) (hu : ZsV b2 w u m) (hn : l.length ≤ 1099511627776) : Calls Tryz.prog 17 #[v, u] w (Gives w fun r _ => r = .bool (decide (l = m))) := by
 have HV := Lib.hid hv; have HU := Lib.hid hu
 obtain ⟨A, c, rfl⟩ := RowV.len hv
 obtain ⟨E, d, rfl⟩ := RowV.len hu
 clear hv hu
 obtain ⟨D, hD⟩ : ∃ D, D = decide (l = m) := ⟨_, rfl⟩
 rw [← hD]
 have HD := Lib.hid hD; clear hD
 by_cases hlen : l.length = m.length
 ·have hb : ((l.length : Int) != (m.length : Int)) = false := by simp [hlen]
  have Hlen := Lib.hid hlen; clear hlen
  go_enter Tryz.func17, Tryz.ntmps17
  go_wp2
  go_loopw [5] (fun iv wr => ∃ (k : Nat), k ≤ l.length ∧ iv = .int .i64 k ∧ (∀ j (h : j < l.length) (h' : j < m.length), j < k → l[j] = m[j]) ∧ Ext w wr) (fun iv _ => l.length - (intOf iv).toNat)
  case atStart => exact ⟨0, Nat.zero_le _, rfl, fun j h h' h0 => by omega, Ext.refl _⟩
  case round =>
   obtain ⟨k, hk, rfl, heq, hx⟩ := hrel
   have Heq := Lib.hid heq; clear heq
   by_cases hkl : k < l.length
   ·have hkm : k < m.length := by have := Hlen.out; omega
    obtain ⟨g, o, b, A1, n, c1, rfl, _, q0, q1, hq⟩ := HV.out.at_ (j := k) hkl
    obtain ⟨g', o', bb, B1, m1, d1, rfl, _, r0, r1, hq'⟩ := HU.out.at_ (j := k) hkm
    replace q0 := hx.cell q0
    replace q1 := hx.cell q1
    replace r0 := hx.cell r0
    replace r1 := hx.cell r1
    have Hq := Lib.hid (And.intro (hq.kd hx.kd) (hq'.kd hx.kd)); clear hq hq'
    go_wp2_with fail
    refine wp_region_par (k := 8) (D := [17, 18, 19, 20, 21, 22, 23, 24]) (T := [[], [], [0, 1], [0, 1, 2], [], [], [4, 5], [4, 5, 6], [0, 1, 2, 3, 4, 5, 6, 7], [0, 1, 2, 3, 4, 5, 6, 7, 8]]) (EK := [0, 5, 1]) (EV := [?e1x0, ?e1x1, ?e1x2]) (VL := [(kv ?v1x0), (kv ?v1x1), (kv ?v1x2), (kv ?v1x3), (kv ?v1x4), (kv ?v1x5), (kv ?v1x6), (kv ?v1x7)]) (FL := fun γ w' => [True, True, True, True, True, True, True, True]) ?hE1 (by kernel_rfl) (by kernel_rfl) (by rfl) (by kernel_rfl) ?hloc1 ?hmono1 ?hstep1 ?htail1
    case hE1 => refine ⟨?_, ?_, ?_, trivial⟩ <;> (simp only [List.getElem?_toArray, List.getElem?_cons_succ, List.getElem?_cons_zero]; rfl)
    case hstep1 =>
     refine ⟨⟨⟨⟨⟨⟨⟨⟨trivial, ?_⟩, ?_⟩, ?_⟩, ?_⟩, ?_⟩, ?_⟩, ?_⟩, ?_⟩
     ·intro γ w' he hf; clear hf; refine ⟨trivial, ?_⟩; intro R hR
      have hc := he.cells
      go_simp
      (try go_ints); (try (rw [if_neg (by omega)])); (try (rw [if_pos (by omega)])); (try go_simp); (try go_ints)
      refine hR _ _ (Ext.refl _) ?_ trivial
      rfl
     ·intro γ w' he hf; clear hf; refine ⟨trivial, ?_⟩; intro R hR
      have hc := he.cells
      go_simp
      (try go_ints); (try (rw [if_neg (by omega)])); (try (rw [if_pos (by omega)])); (try go_simp); (try go_ints)
      refine hR _ _ (Ext.refl _) ?_ trivial
      rfl
     ·intro γ w' he hf; clear hf; refine ⟨trivial, ?_⟩; intro R hR
      have hc := he.cells
      go_simp
      (try go_ints); (try (rw [if_neg (by omega)])); (try (rw [if_pos (by omega)])); (try go_simp); (try go_ints)
      refine hR _ _ (Ext.refl _) ?_ trivial
      rfl
     ·intro γ w' he hf; clear hf; refine ⟨trivial, ?_⟩; intro R hR
      have hc := he.cells
      have cq0 := he.cell q0
      have cq1 := he.cell q1
      have cq2 := he.cell r0
      have cq3 := he.cell r1
      go_simp
      (try go_ints); (try (rw [if_neg (by omega)])); (try (rw [if_pos (by omega)])); (try go_simp); (try go_ints)
      refine hR _ _ (Ext.refl _) ?_ trivial
      rfl
     ·intro γ w' he hf; clear hf; refine ⟨trivial, ?_⟩; intro R hR
      have hc := he.cells
      go_simp
      (try go_ints); (try (rw [if_neg (by omega)])); (try (rw [if_pos (by omega)])); (try go_simp); (try go_ints)
      refine hR _ _ (Ext.refl _) ?_ trivial
      rfl
     ·intro γ w' he hf; clear hf; refine ⟨trivial, ?_⟩; intro R hR
      have hc := he.cells
      go_simp
      (try go_ints); (try (rw [if_neg (by omega)])); (try (rw [if_pos (by omega)])); (try go_simp); (try go_ints)
      refine hR _ _ (Ext.refl _) ?_ trivial
      rfl
     ·intro γ w' he hf; clear hf; refine ⟨trivial, ?_⟩; intro R hR
      have hc := he.cells
      go_simp
      (try go_ints); (try (rw [if_neg (by omega)])); (try (rw [if_pos (by omega)])); (try go_simp); (try go_ints)
      refine hR _ _ (Ext.refl _) ?_ trivial
      rfl
     ·intro γ w' he hf; clear hf; refine ⟨trivial, ?_⟩; intro R hR
      have hc := he.cells
      have cq0 := he.cell q0
      have cq1 := he.cell q1
      have cq2 := he.cell r0
      have cq3 := he.cell r1
      go_simp
      (try go_ints); (try (rw [if_neg (by omega)])); (try (rw [if_pos (by omega)])); (try go_simp); (try go_ints)
      refine hR _ _ (Ext.refl _) ?_ trivial
      rfl
    case hloc1 =>
     exact ⟨⟨⟨⟨⟨⟨⟨⟨trivial, (fun γ γ' h => ⟨rfl, fun _ => rfl⟩)⟩, (fun γ γ' h => ⟨rfl, fun _ => rfl⟩)⟩, (fun γ γ' h => ⟨rfl, fun _ => rfl⟩)⟩, (fun γ γ' h => ⟨rfl, fun _ => rfl⟩)⟩, (fun γ γ' h => ⟨rfl, fun _ => rfl⟩)⟩, (fun γ γ' h => ⟨rfl, fun _ => rfl⟩)⟩, (fun γ γ' h => ⟨rfl, fun _ => rfl⟩)⟩, (fun γ γ' h => ⟨rfl, fun _ => rfl⟩)⟩
    case hmono1 =>
     exact ⟨⟨⟨⟨⟨⟨⟨⟨trivial, (fun γ wA w' e h => h)⟩, (fun γ wA w' e h => h)⟩, (fun γ wA w' e h => h)⟩, (fun γ wA w' e h => h)⟩, (fun γ wA w' e h => h)⟩, (fun γ wA w' e h => h)⟩, (fun γ wA w' e h => h)⟩, (fun γ wA w' e h => h)⟩
    intro γ w1 hx1 hF
    clear hF
    simp only [fillAll, gV, kv, List.getD_cons_zero, List.getD_cons_succ, Act.put, List.setIfInBounds_toArray, List.set_cons_zero, List.set_cons_succ, List.toList_toArray, List.drop_succ_cons, List.drop_zero, List.drop_nil, Nat.zero_add, Nat.reduceAdd]
    clear γ
    go_wp2_with fail
    refine Calls.mono (sameint_b _ _ l[k] m[k] _ (Hq.out.1.kd hx1.kd) (Hq.out.2.kd hx1.kd)) ?_
    rintro e w2 ⟨r, rfl, rfl, hx2⟩
    replace hx := (hx.trans hx1).trans hx2
    clear q0 q1 r0 r1 hx1 hx2 Hq
    by_cases he : l[k] = m[k]
    ·have hb2 : decide (l[k] = m[k]) = true := decide_eq_true he
     have He := Lib.hid he; clear he
     go_wp2
     go_roundw
     case rel => exact ⟨k + 1, by omega, by go_num, fun j h h' h0 => by
      rcases Nat.lt_or_ge j k with h1 | h1
      ·exact Heq.out j h h' h1
      ·obtain rfl : j = k := by omega
       exact He.out, hx⟩
     case measure => simp [intOf] <;> omega
    ·have hb2 : decide (l[k] = m[k]) = false := decide_eq_false he
     have He := Lib.hid he; clear he
     have hd : D = false := by
      rw [HD.out]
      refine decide_eq_false fun e => He.out ?_
      subst e; rfl
     have HD' := Lib.hid hd; clear hd
     go_wp2
     go_ret
     rw [HD'.out]
     exact Gives.mk rfl hx
   ·obtain rfl : k = l.length := by omega
    have hd : D = true := by
     rw [HD.out]
     refine decide_eq_true (List.ext_getElem Hlen.out fun i h h' => Heq.out i h h' h)
    have HD' := Lib.hid hd; clear HV HU hd
    go_wp2
    go_ret
    rw [HD'.out]
    exact Gives.mk rfl hx
 ·have hb : ((l.length : Int) != (m.length : Int)) = true := by simp; omega
  have hd : D = false := by rw [HD.out]; exact decide_eq_false fun e => hlen (by rw [e])
  have HD' := Lib.hid hd; clear HV HU hd hlen
  go_enter Tryz.func17, Tryz.ntmps17
  go_wp2
  go_ret
  rw [HD'.out]
  exact Gives.mk rfl (Ext.refl _)
theorem sameints_p (v u : Value) (F G : Nat → Rat) (b1 b2 : Nat) (w : World) (hv : IsZP b1 w v F) (hu : IsZP b2 w u G) (hn : pl F ≤ 1099511627776) : Calls Tryz.prog 17 #[v, u] w (Gives w fun r _ => ∃ b : Bool, r = .bool b ∧ (b = true ↔ F = G)) := by
 obtain ⟨l, h1, h2, h3, rfl⟩ := hv.zs
 obtain ⟨m, k1, k2, k3, rfl⟩ := hu.zs
 refine Gives.imp (sameints_d v u l m b1 b2 w h1 k1 (by omega)) fun r _ h => ⟨_, h, ?_⟩
 rw [decide_eq_true_iff]
 exact ⟨fun e => by rw [e], fun e => zs_uniq h3 k3 e⟩
theorem sameints_t (v u : Value) (F : Nat → Rat) (b1 b2 : Nat) (w : World) (hv : IsZP b1 w v F) (hu : IsZP b2 w u F) (hn : pl F ≤ 1099511627776) : Calls Tryz.prog 17 #[v, u] w (Gives w fun r _ => r = .bool true) :=
 Gives.imp (sameints_p v u F F b1 b2 w hv hu hn) fun r _ ⟨b, h1, h2⟩ => by rw [h1, h2.2 rfl]
end Go.Proofs.YtfacbpnegkjcgaaGreatDoor
namespace Go.Hp
open Go.RowKit
theorem IntsV.ext {w w' : World} {v : Value} {ns : List Int} (h : IntsV w v ns) (e : Ext w w') : IntsV w' v ns := by
 obtain ⟨g, c, h1, h2, h3, h4⟩ := h
 exact ⟨g, c, h1, h2, h3, fun j hj => e.cell (h4 j hj)⟩
theorem aw_res : (res (cz [1, 0, 1]) (cz [-2, 1])).num = 5 := by
 have h1 : pl (cz [1, 0, 1]) = 3 := pl_eq (cz_sup [1, 0, 1]) (fun _ => by decide +kernel)
 have h2 : pl (cz [-2, 1]) = 2 := pl_eq (cz_sup [-2, 1]) (fun _ => by decide +kernel)
 unfold res
 rw [h1, h2]
 decide +kernel
theorem aw_mul : pl (cv (cz [1, 1]) (cz [1, 1])) = 3 := by
 have h : pl (cz [1, 1]) = 2 := pl_eq (cz_sup [1, 1]) (fun _ => by decide +kernel)
 have h0 : cz [1, 1] ≠ pz := fun e => by rw [e, pl_pz] at h; omega
 rw [pl_cv (Fin_.cz _) (Fin_.cz _) h0 h0, h]
/-- A slice of three. -/
def Sl3 (v : Value) : Prop := ∃ A c, v = .slice A 3 c
theorem small_cz {l : List Int} (h : ∀ x ∈ l, sz x.natAbs ≤ 1) (i : Nat) : qsz (cz l i) ≤ 1 := cz_qsz h (by omega) i
end Go.Hp
namespace Go.Proofs.YtfacbpnegkjcgaaGreatDoor
open Go.RowKit Go.Hp
theorem sameint_t (v u : Value) (x : Int) (w : World) (hv : IsZ w v x) (hu : IsZ w u x) : Calls Tryz.prog 15 #[v, u] w (Gives w fun r _ => r = .bool true) :=
 Gives.imp (sameint_b v u x x w hv hu) fun r _ h => by rw [h]; simp
set_option maxRecDepth 20000 in
set_option maxHeartbeats 4000000 in
theorem awake_z (w : World) : Calls Tryz.prog 11 #[] w (Gives w fun r _ => r = .bool true) := by
 have K1 := Lib.hid (show ∀ x ∈ ([1, 0, 1] : List Int), sz x.natAbs ≤ 1 by decide +kernel)
 have K2 := Lib.hid (show ∀ x ∈ ([-2, 1] : List Int), sz x.natAbs ≤ 1 by decide +kernel)
 have K3 := Lib.hid (show ∀ x ∈ ([1, 1] : List Int), sz x.natAbs ≤ 1 by decide +kernel)
 go_enter Tryz.func11, Tryz.ntmps11
 go_wp2_with fail
 refine Calls.mono (zs_b _ [1, 0, 1] _ (IntsV.new w _ [1, 0, 1] (by decide)) (by decide) (by decide)) ?_
 rintro e w1 ⟨r1, rfl, h1, hx⟩
 have H1 := Lib.hid (h1.has (fun x hx => by have := K1.out x hx; omega)); clear h1
 replace hx := hx.a1
 go_wp2_with fail
 refine Calls.mono (zs_b _ [-2, 1] _ (IntsV.new w1 _ [-2, 1] (by decide)) (by decide) (by decide)) ?_
 rintro e w2 ⟨r2, rfl, h2, hx2⟩
 have H2 := Lib.hid (h2.has (fun x hx => by have := K2.out x hx; omega)); clear h2
 have H1 := Lib.hid (H1.out.ext hx2.a1)
 replace hx := hx.trans hx2.a1
 clear hx2
 have hpl1 : pl (cz [1, 0, 1]) ≤ 3 := pl_le (cz_sup [1, 0, 1])
 have hpl2 : pl (cz [-2, 1]) ≤ 2 := pl_le (cz_sup [-2, 1])
 have HB := Lib.hid (show 8 + 8 * ((pl (cz [1, 0, 1]) + pl (cz [-2, 1]) + 1) * ((pl (cz [1, 0, 1]) + pl (cz [-2, 1]) + 1) * ((1 + 1) * 2 ^ (pl (cz [1, 0, 1]) + pl (cz [-2, 1]))))) ≤ 1099511627776 from by
  have a1 : 2 ^ (pl (cz [1, 0, 1]) + pl (cz [-2, 1])) ≤ 2 ^ 5 := Nat.pow_le_pow_right (by decide) (by omega)
  have a2 : (pl (cz [1, 0, 1]) + pl (cz [-2, 1]) + 1) * ((pl (cz [1, 0, 1]) + pl (cz [-2, 1]) + 1) * ((1 + 1) * 2 ^ (pl (cz [1, 0, 1]) + pl (cz [-2, 1])))) ≤ 6 * (6 * ((1 + 1) * 2 ^ 5)) := Nat.mul_le_mul (by omega) (Nat.mul_le_mul (by omega) (Nat.mul_le_mul_left _ a1))
  omega)
 clear hpl1 hpl2
 go_wp2_with fail
 refine Calls.mono (resultant_z _ _ [1, 0, 1] [-2, 1] 1 _ H1.out H2.out (small_cz K1.out) (small_cz K2.out) (by decide) (by decide) HB.out) ?_
 rintro e w3 ⟨r3, rfl, h3, hx3⟩
 rw [aw_res] at h3
 obtain ⟨b5, A5, n5, c5, rfl⟩ := h3.cells
 obtain ⟨W9, eW9, e9, x9⟩ := Box.made w3 28 #[.bool b5, .slice A5 n5 c5] (by simp [isDig])
 replace hx := (hx.trans hx3).trans x9
 have H3 := Lib.hid (h3.kd x9.kd)
 clear hx3 h3 H1 H2 HB
 go_upto_region 2 with (fail)
 rw [← eW9]
 clear eW9 x9
 generalize w3.heap.size = gb at *
 obtain ⟨q0, q1⟩ := e9.cells2
 go_wp2_with fail
 refine wp_region_par (k := 18) (D := [7, 8, 9, 10, 11, 12, 13, 14, 15, 16, 17, 18, 19, 20, 21, 22, 23, 24]) (T := [[], [], [0, 1], [0, 1, 2], [0, 1, 2, 3], [0, 1, 2, 3, 4], [0, 1, 2, 3, 4, 5], [0, 1, 2, 3, 4, 5, 6], [0, 1, 2, 3, 4, 5, 6, 7], [0, 1, 2, 3, 4, 5, 6, 7, 8], [0, 1, 2, 3, 4, 5, 6, 7, 8, 9], [0, 1, 2, 3, 4, 5, 6, 7, 8, 9, 10], [0, 1, 2, 3, 4, 5, 6, 7, 8, 9], [0, 1, 2, 3, 4, 5, 6, 7, 8, 9, 10, 11, 12], [0, 1, 2, 3, 4, 5, 6, 7, 8, 9, 10, 11, 12, 13], [0, 1, 2, 3, 4, 5, 6, 7, 8, 9, 10, 11, 12, 13, 14], [0, 1, 2, 3, 4, 5, 6, 7, 8, 9, 10, 11, 12, 13, 14, 15], [0, 1, 2, 3, 4, 5, 6, 7, 8, 9, 10, 11, 12, 13, 14, 15, 16], [0, 1, 2, 3, 4, 5, 6, 7, 8, 9, 10, 11, 12, 13, 14, 15, 16, 17]]) (EK := [1]) (EV := [?e1x0]) (VL := [(kv ?v1x0), (fun γ => γ 1), (kv (.bool true)), (kv ?v1x3), (fun γ => γ 4), (fun γ => γ 5), (kv (.string ⟨#[51, 42, 120, 94, 50, 32, 45, 32, 120, 32, 43, 32, 53]⟩)), (kv ?v1x7), (kv ?v1x8), (kv ?v1x9), (fun γ => γ 10), (fun γ => γ 11), (fun γ => γ 12), (fun γ => γ 13), (fun γ => γ 14), (kv (.int .i64 3)), (kv ?v1x16), (kv ?v1x17)]) (FL := fun γ w' => [True, IsZ w' (γ 1) 5, True, True, IntsV w' (γ 4) [5, -1, 3], ZsV 0 w' (γ 5) [5, -1, 3], True, True, True, True, IntsV w' (γ 10) [1, 1], ZsV 0 w' (γ 11) [1, 1], IntsV w' (γ 12) [1, 1], ZsV 0 w' (γ 13) [1, 1], Sl3 (γ 14), True, True, True]) ?hE1 (by kernel_rfl) (by kernel_rfl) (by rfl) (by kernel_rfl) ?hloc1 ?hmono1 ?hstep1 ?htail1
 case hE1 => refine ⟨?_, trivial⟩ <;> (simp only [List.getElem?_toArray, List.getElem?_cons_succ, List.getElem?_cons_zero]; rfl)
 case hstep1 =>
  refine ⟨⟨⟨⟨⟨⟨⟨⟨⟨⟨⟨⟨⟨⟨⟨⟨⟨⟨trivial, ?_⟩, ?_⟩, ?_⟩, ?_⟩, ?_⟩, ?_⟩, ?_⟩, ?_⟩, ?_⟩, ?_⟩, ?_⟩, ?_⟩, ?_⟩, ?_⟩, ?_⟩, ?_⟩, ?_⟩, ?_⟩
  ·intro γ w' he hf; clear hf; refine ⟨trivial, ?_⟩; intro R hR
   have hc := he.cells
   have cq0 := he.cell q0
   have cq1 := he.cell q1
   go_simp
   (try go_ints); (try (rw [if_neg (by omega)])); (try (rw [if_pos (by omega)])); (try go_simp); (try go_ints)
   refine hR _ _ (Ext.refl _) ?_ trivial
   rfl
  ·intro γ w' he hf; clear hf; refine ⟨trivial, ?_⟩; intro R hR
   go_simp
   refine Calls.mono (show Calls _ _ _ w' (Gives w' fun r w'' => IsZ w'' (r) 5) from z_b 5 w' (by omega) (by omega)) ?_
   rintro e w2 ⟨v, rfl, hv, hx⟩
   exact ⟨v, rfl, hR v w2 hx rfl hv⟩
  ·intro γ w' he hf; have f1 : IsZ w' (γ 1) 5 := hf 1 (by decide); clear hf; refine ⟨trivial, ?_⟩; intro R hR
   go_simp
   refine Calls.mono (show Calls _ _ _ w' (Gives w' fun r _ => r = .bool true) from sameint_t _ _ 5 w' (H3.out.kd he.kd) f1) ?_
   rintro e w2 ⟨v, rfl, rfl, hx⟩
   exact ⟨_, rfl, hR _ w2 hx rfl trivial⟩
  ·intro γ w' he hf; have f1 : IsZ w' (γ 1) 5 := hf 1 (by decide); clear hf; refine ⟨trivial, ?_⟩; intro R hR
   have hc := he.cells
   go_simp
   (try go_ints); (try (rw [if_neg (by omega)])); (try (rw [if_pos (by omega)])); (try go_simp); (try go_ints)
   refine hR _ _ (Ext.refl _) ?_ trivial
   rfl
  ·intro γ w' he hf; have f1 : IsZ w' (γ 1) 5 := hf 1 (by decide); clear hf; refine ⟨rfl, ?_⟩; intro R hR
   go_simp
   exact hR _ _ ((Ext.refl _).alloc _) rfl (IntsV.new w' _ [5, -1, 3] (by decide))
  ·intro γ w' he hf; have f1 : IsZ w' (γ 1) 5 := hf 1 (by decide); have f4 : IntsV w' (γ 4) [5, -1, 3] := hf 4 (by decide); clear hf; refine ⟨rfl, ?_⟩; intro R hR
   go_simp
   refine Calls.mono (show Calls _ _ _ w' (Gives w' fun r w'' => ZsV 0 w'' (r) [5, -1, 3]) from Gives.imp (zs_b _ [5, -1, 3] w' f4 (by decide) (by decide)) fun _ _ h => RowV.base_le h (Nat.zero_le _)) ?_
   rintro e w2 ⟨v, rfl, hv, hx⟩
   exact ⟨v, rfl, hR v w2 hx rfl hv⟩
  ·intro γ w' he hf; have f1 : IsZ w' (γ 1) 5 := hf 1 (by decide); have f4 : IntsV w' (γ 4) [5, -1, 3] := hf 4 (by decide); have f5 : ZsV 0 w' (γ 5) [5, -1, 3] := hf 5 (by decide); clear hf; refine ⟨rfl, ?_⟩; intro R hR
   go_simp
   refine Calls.mono (show Calls _ _ _ w' (Gives w' fun r _ => r = .string ⟨#[51, 42, 120, 94, 50, 32, 45, 32, 120, 32, 43, 32, 53]⟩) from format_aw _ 0 w' f5) ?_
   rintro e w2 ⟨v, rfl, rfl, hx⟩
   exact ⟨_, rfl, hR _ w2 hx rfl trivial⟩
  ·intro γ w' he hf; have f1 : IsZ w' (γ 1) 5 := hf 1 (by decide); have f4 : IntsV w' (γ 4) [5, -1, 3] := hf 4 (by decide); have f5 : ZsV 0 w' (γ 5) [5, -1, 3] := hf 5 (by decide); clear hf; refine ⟨rfl, ?_⟩; intro R hR
   have hc := he.cells
   go_simp
   (try go_ints); (try (rw [if_neg (by omega)])); (try (rw [if_pos (by omega)])); (try go_simp); (try go_ints)
   refine hR _ _ (Ext.refl _) ?_ trivial
   rfl
  ·intro γ w' he hf; have f1 : IsZ w' (γ 1) 5 := hf 1 (by decide); have f4 : IntsV w' (γ 4) [5, -1, 3] := hf 4 (by decide); have f5 : ZsV 0 w' (γ 5) [5, -1, 3] := hf 5 (by decide); clear hf; refine ⟨trivial, ?_⟩; intro R hR
   have hc := he.cells
   go_simp
   (try go_ints); (try (rw [if_neg (by omega)])); (try (rw [if_pos (by omega)])); (try go_simp); (try go_ints)
   refine hR _ _ (Ext.refl _) ?_ trivial
   rfl
  ·intro γ w' he hf; have f1 : IsZ w' (γ 1) 5 := hf 1 (by decide); have f4 : IntsV w' (γ 4) [5, -1, 3] := hf 4 (by decide); have f5 : ZsV 0 w' (γ 5) [5, -1, 3] := hf 5 (by decide); clear hf; refine ⟨trivial, ?_⟩; intro R hR
   have hc := he.cells
   go_simp
   (try go_ints); (try (rw [if_neg (by omega)])); (try (rw [if_pos (by omega)])); (try go_simp); (try go_ints)
   refine hR _ _ (Ext.refl _) ?_ trivial
   rfl
  ·intro γ w' he hf; have f1 : IsZ w' (γ 1) 5 := hf 1 (by decide); have f4 : IntsV w' (γ 4) [5, -1, 3] := hf 4 (by decide); have f5 : ZsV 0 w' (γ 5) [5, -1, 3] := hf 5 (by decide); clear hf; refine ⟨rfl, ?_⟩; intro R hR
   go_simp
   exact hR _ _ ((Ext.refl _).alloc _) rfl (IntsV.new w' _ [1, 1] (by decide))
  ·intro γ w' he hf; have f1 : IsZ w' (γ 1) 5 := hf 1 (by decide); have f4 : IntsV w' (γ 4) [5, -1, 3] := hf 4 (by decide); have f5 : ZsV 0 w' (γ 5) [5, -1, 3] := hf 5 (by decide); have f10 : IntsV w' (γ 10) [1, 1] := hf 10 (by decide); clear hf; refine ⟨rfl, ?_⟩; intro R hR
   go_simp
   refine Calls.mono (show Calls _ _ _ w' (Gives w' fun r w'' => ZsV 0 w'' (r) [1, 1]) from Gives.imp (zs_b _ [1, 1] w' f10 (by decide) (by decide)) fun _ _ h => RowV.base_le h (Nat.zero_le _)) ?_
   rintro e w2 ⟨v, rfl, hv, hx⟩
   exact ⟨v, rfl, hR v w2 hx rfl hv⟩
  ·intro γ w' he hf; have f1 : IsZ w' (γ 1) 5 := hf 1 (by decide); have f4 : IntsV w' (γ 4) [5, -1, 3] := hf 4 (by decide); have f5 : ZsV 0 w' (γ 5) [5, -1, 3] := hf 5 (by decide); clear hf; refine ⟨rfl, ?_⟩; intro R hR
   go_simp
   exact hR _ _ ((Ext.refl _).alloc _) rfl (IntsV.new w' _ [1, 1] (by decide))
  ·intro γ w' he hf; have f1 : IsZ w' (γ 1) 5 := hf 1 (by decide); have f4 : IntsV w' (γ 4) [5, -1, 3] := hf 4 (by decide); have f5 : ZsV 0 w' (γ 5) [5, -1, 3] := hf 5 (by decide); have f10 : IntsV w' (γ 10) [1, 1] := hf 10 (by decide); have f11 : ZsV 0 w' (γ 11) [1, 1] := hf 11 (by decide); have f12 : IntsV w' (γ 12) [1, 1] := hf 12 (by decide); clear hf; refine ⟨rfl, ?_⟩; intro R hR
   go_simp
   refine Calls.mono (show Calls _ _ _ w' (Gives w' fun r w'' => ZsV 0 w'' (r) [1, 1]) from Gives.imp (zs_b _ [1, 1] w' f12 (by decide) (by decide)) fun _ _ h => RowV.base_le h (Nat.zero_le _)) ?_
   rintro e w2 ⟨v, rfl, hv, hx⟩
   exact ⟨v, rfl, hR v w2 hx rfl hv⟩
  ·intro γ w' he hf; have f1 : IsZ w' (γ 1) 5 := hf 1 (by decide); have f4 : IntsV w' (γ 4) [5, -1, 3] := hf 4 (by decide); have f5 : ZsV 0 w' (γ 5) [5, -1, 3] := hf 5 (by decide); have f10 : IntsV w' (γ 10) [1, 1] := hf 10 (by decide); have f11 : ZsV 0 w' (γ 11) [1, 1] := hf 11 (by decide); have f12 : IntsV w' (γ 12) [1, 1] := hf 12 (by decide); have f13 : ZsV 0 w' (γ 13) [1, 1] := hf 13 (by decide); clear hf; refine ⟨rfl, ?_⟩; intro R hR
   go_simp
   refine Calls.mono (zmul_p _ _ [1, 1] [1, 1] 1 1 w' (f11.has (fun x hx => by have := K3.out x hx; omega)) (f13.has (fun x hx => by have := K3.out x hx; omega)) (small_cz K3.out) (small_cz K3.out) (by decide) (by decide) (by decide)) ?_
   rintro e w2 ⟨v, rfl, hv, hx⟩
   obtain ⟨A, c, e1, -⟩ := hv.shape
   rw [aw_mul] at e1
   exact ⟨v, rfl, hR v w2 hx rfl ⟨A, c, e1⟩⟩
  ·intro γ w' he hf; have f1 : IsZ w' (γ 1) 5 := hf 1 (by decide); have f4 : IntsV w' (γ 4) [5, -1, 3] := hf 4 (by decide); have f5 : ZsV 0 w' (γ 5) [5, -1, 3] := hf 5 (by decide); have f10 : IntsV w' (γ 10) [1, 1] := hf 10 (by decide); have f11 : ZsV 0 w' (γ 11) [1, 1] := hf 11 (by decide); have f12 : IntsV w' (γ 12) [1, 1] := hf 12 (by decide); have f13 : ZsV 0 w' (γ 13) [1, 1] := hf 13 (by decide); have f14 : Sl3 (γ 14) := hf 14 (by decide); clear hf; refine ⟨rfl, ?_⟩; intro R hR
   obtain ⟨A14, c14, e14⟩ := f14
   have hc := he.cells
   go_simp
   (try go_ints); (try (rw [if_neg (by omega)])); (try (rw [if_pos (by omega)])); (try go_simp); (try go_ints)
   refine hR _ _ (Ext.refl _) ?_ trivial
   rfl
  ·intro γ w' he hf; have f1 : IsZ w' (γ 1) 5 := hf 1 (by decide); have f4 : IntsV w' (γ 4) [5, -1, 3] := hf 4 (by decide); have f5 : ZsV 0 w' (γ 5) [5, -1, 3] := hf 5 (by decide); have f10 : IntsV w' (γ 10) [1, 1] := hf 10 (by decide); have f11 : ZsV 0 w' (γ 11) [1, 1] := hf 11 (by decide); have f12 : IntsV w' (γ 12) [1, 1] := hf 12 (by decide); have f13 : ZsV 0 w' (γ 13) [1, 1] := hf 13 (by decide); have f14 : Sl3 (γ 14) := hf 14 (by decide); clear hf; refine ⟨rfl, ?_⟩; intro R hR
   have hc := he.cells
   go_simp
   (try go_ints); (try (rw [if_neg (by omega)])); (try (rw [if_pos (by omega)])); (try go_simp); (try go_ints)
   refine hR _ _ (Ext.refl _) ?_ trivial
   rfl
  ·intro γ w' he hf; have f1 : IsZ w' (γ 1) 5 := hf 1 (by decide); have f4 : IntsV w' (γ 4) [5, -1, 3] := hf 4 (by decide); have f5 : ZsV 0 w' (γ 5) [5, -1, 3] := hf 5 (by decide); have f10 : IntsV w' (γ 10) [1, 1] := hf 10 (by decide); have f11 : ZsV 0 w' (γ 11) [1, 1] := hf 11 (by decide); have f12 : IntsV w' (γ 12) [1, 1] := hf 12 (by decide); have f13 : ZsV 0 w' (γ 13) [1, 1] := hf 13 (by decide); have f14 : Sl3 (γ 14) := hf 14 (by decide); clear hf; refine ⟨trivial, ?_⟩; intro R hR
   have hc := he.cells
   go_simp
   (try go_ints); (try (rw [if_neg (by omega)])); (try (rw [if_pos (by omega)])); (try go_simp); (try go_ints)
   refine hR _ _ (Ext.refl _) ?_ trivial
   rfl
 case hloc1 =>
  exact ⟨⟨⟨⟨⟨⟨⟨⟨⟨⟨⟨⟨⟨⟨⟨⟨⟨⟨trivial, (fun γ γ' h => ⟨rfl, fun _ => rfl⟩)⟩, (fun γ γ' h => ⟨h 1 rfl, fun w' => (congrArg (fun a => IsZ w' (a) 5) (h 1 rfl))⟩)⟩, (fun γ γ' h => ⟨rfl, fun _ => rfl⟩)⟩, (fun γ γ' h => ⟨rfl, fun _ => rfl⟩)⟩, (fun γ γ' h => ⟨h 4 rfl, fun w' => (congrArg (fun a => IntsV w' (a) [5, -1, 3]) (h 4 rfl))⟩)⟩, (fun γ γ' h => ⟨h 5 rfl, fun w' => (congrArg (fun a => ZsV 0 w' (a) [5, -1, 3]) (h 5 rfl))⟩)⟩, (fun γ γ' h => ⟨rfl, fun _ => rfl⟩)⟩, (fun γ γ' h => ⟨rfl, fun _ => rfl⟩)⟩, (fun γ γ' h => ⟨rfl, fun _ => rfl⟩)⟩, (fun γ γ' h => ⟨rfl, fun _ => rfl⟩)⟩, (fun γ γ' h => ⟨h 10 rfl, fun w' => (congrArg (fun a => IntsV w' (a) [1, 1]) (h 10 rfl))⟩)⟩, (fun γ γ' h => ⟨h 11 rfl, fun w' => (congrArg (fun a => ZsV 0 w' (a) [1, 1]) (h 11 rfl))⟩)⟩, (fun γ γ' h => ⟨h 12 rfl, fun w' => (congrArg (fun a => IntsV w' (a) [1, 1]) (h 12 rfl))⟩)⟩, (fun γ γ' h => ⟨h 13 rfl, fun w' => (congrArg (fun a => ZsV 0 w' (a) [1, 1]) (h 13 rfl))⟩)⟩, (fun γ γ' h => ⟨h 14 rfl, fun w' => (congrArg (fun a => Sl3 (a)) (h 14 rfl))⟩)⟩, (fun γ γ' h => ⟨rfl, fun _ => rfl⟩)⟩, (fun γ γ' h => ⟨rfl, fun _ => rfl⟩)⟩, (fun γ γ' h => ⟨rfl, fun _ => rfl⟩)⟩
 case hmono1 =>
  exact ⟨⟨⟨⟨⟨⟨⟨⟨⟨⟨⟨⟨⟨⟨⟨⟨⟨⟨trivial, (fun γ wA w' e h => h)⟩, (fun γ wA w' e h => (show IsZ wA (γ 1) 5 from h).ext e)⟩, (fun γ wA w' e h => h)⟩, (fun γ wA w' e h => h)⟩, (fun γ w w' e h => IntsV.ext h e)⟩, (fun γ wA w' e h => (show ZsV 0 wA (γ 5) [5, -1, 3] from h).ext e)⟩, (fun γ wA w' e h => h)⟩, (fun γ wA w' e h => h)⟩, (fun γ wA w' e h => h)⟩, (fun γ wA w' e h => h)⟩, (fun γ w w' e h => IntsV.ext h e)⟩, (fun γ wA w' e h => (show ZsV 0 wA (γ 11) [1, 1] from h).ext e)⟩, (fun γ w w' e h => IntsV.ext h e)⟩, (fun γ wA w' e h => (show ZsV 0 wA (γ 13) [1, 1] from h).ext e)⟩, (fun γ w w' e h => h)⟩, (fun γ wA w' e h => h)⟩, (fun γ wA w' e h => h)⟩, (fun γ wA w' e h => h)⟩
 intro γ w4 hx4 hF
 have p1 : IsZ w4 (γ 1) 5 := Each.get hF 1 (by decide)
 have p4 : IntsV w4 (γ 4) [5, -1, 3] := Each.get hF 4 (by decide)
 have p5 : ZsV 0 w4 (γ 5) [5, -1, 3] := Each.get hF 5 (by decide)
 have p10 : IntsV w4 (γ 10) [1, 1] := Each.get hF 10 (by decide)
 have p11 : ZsV 0 w4 (γ 11) [1, 1] := Each.get hF 11 (by decide)
 have p12 : IntsV w4 (γ 12) [1, 1] := Each.get hF 12 (by decide)
 have p13 : ZsV 0 w4 (γ 13) [1, 1] := Each.get hF 13 (by decide)
 have p14 : Sl3 (γ 14) := Each.get hF 14 (by decide)
 clear hF
 simp only [fillAll, gV, kv, List.getD_cons_zero, List.getD_cons_succ, Act.put, List.setIfInBounds_toArray, List.set_cons_zero, List.set_cons_succ, List.toList_toArray, List.drop_succ_cons, List.drop_zero, List.drop_nil, Nat.zero_add, Nat.reduceAdd]
 generalize γ 1 = g1 at *
 generalize γ 4 = g4 at *
 generalize γ 5 = g5 at *
 generalize γ 10 = g10 at *
 generalize γ 11 = g11 at *
 generalize γ 12 = g12 at *
 generalize γ 13 = g13 at *
 generalize γ 14 = g14 at *
 clear γ
 clear p4 p5 p10 p11 p12 p13
 go_wp2
 go_ret
 exact Gives.mk rfl (hx.trans hx4)
end Go.Proofs.YtfacbpnegkjcgaaGreatDoor
namespace Go.Hp
open Go.RowKit
end Go.Hp
namespace Go.Proofs.YtfacbpnegkjcgaaGreatDoor
open Go.RowKit Go.Hp
end Go.Proofs.YtfacbpnegkjcgaaGreatDoor
namespace Go.Proofs.YtfacbpnegkjcgaaGreatDoor
open Go.RowKit Go.Hp
end Go.Proofs.YtfacbpnegkjcgaaGreatDoor
namespace Go.Hp
end Go.Hp
namespace Go.Proofs.YtfacbpnegkjcgaaGreatDoor
open Go.RowKit Go.Hp
end Go.Proofs.YtfacbpnegkjcgaaGreatDoor
namespace Go.Hp
open Go.RowKit
theorem qz_num {q : Rat} {s : Nat} (h : qsz q ≤ s) : sz q.num.natAbs ≤ s := by unfold qsz at h; omega
theorem lzf_hz' {base : Nat} {w : World} {v : Value} {n : Nat} {F : Nat → Rat} {e : TypeId} (h : OwnZ base e w v (lzf n F)) (hs : ∀ i, i < n → qsz (F i) ≤ 1099511627776) : HzV 0 w v (lzf n F) :=
 ZsV.has h.row fun x hx => by
  obtain ⟨i, hi, rfl⟩ := List.getElem_of_mem hx
  rw [lzf_get]
  have := hs i (by rw [lzf_len] at hi; exact hi)
  unfold qsz at this; omega
theorem lz_at {la : List Int} {F : Nat → Rat} (e : cz la = F) {i : Nat} (h : i < la.length) : la[i] = (F i).num := by
 subst e; rw [cz_lt h]; rfl
end Go.Hp
namespace Go.Proofs.YtfacbpnegkjcgaaGreatDoor
open Go.RowKit Go.Hp
set_option maxHeartbeats 1000000 in
theorem add_rzp (v u : Value) (l m : List Int) (s t : Nat) (w : World) (hv : HzV 0 w v l) (hu : HzV 0 w u m) (hs : ∀ i, qsz (cz l i) ≤ s) (ht : ∀ i, qsz (cz m i) ≤ t) (hst : s + t + 1 ≤ 549755813888) (hn : l.length ≤ 549755813888) (hm : m.length ≤ 549755813888) :
  Calls Tryz.prog 37 #[v, u] w (Gives w fun r w' => IsZP w.heap.size w' r (pad (cz l) (cz m))) := by
 have HV := Lib.hid hv; have HU := Lib.hid hu
 obtain ⟨A, c, rfl⟩ := hv.len
 obtain ⟨E, d, rfl⟩ := hu.len
 clear hv hu
 have HS := Lib.hid (And.intro hs ht); clear hs ht
 obtain ⟨N, hN⟩ : ∃ N, N = max l.length m.length := ⟨_, rfl⟩
 have h1 : l.length ≤ N := by omega
 have h2 : m.length ≤ N := by omega
 have h3 : N ≤ 549755813888 := by omega
 have h4 : ∀ k, k < N → k < l.length ∨ k < m.length := fun k hk => by omega
 have H4 := Lib.hid h4; clear h4 hN
 go_enter Tryz.func37, Tryz.ntmps37
 go_wp2
 go_loopw [5, 6] (fun ov iv wr => ∃ (k : Nat), k ≤ N ∧ iv = .int .i64 k ∧ OwnZ w.heap.size 28 wr ov (lzf k (pad (cz l) (cz m))) ∧ Ext w wr) (fun _ iv _ => N - (intOf iv).toNat)
 case atStart => exact ⟨0, Nat.zero_le _, rfl, OwnR.nil _ _ _ _ _, Ext.refl _⟩
 case round =>
  obtain ⟨k, hk, rfl, hown, hx⟩ := hrel
  by_cases hkN : k < N
  ·have Hown0 := Lib.hid hown; clear hown
   by_cases hk1 : k < l.length
   ·skip
    go_wp2_with fail
    refine Calls.mono (at_rz _ l k _ (HV.out.ext hx) (by omega)) ?_
    rintro e w2 ⟨r2, rfl, hr2, hx2⟩
    have Hr2 := Lib.hid hr2; clear hr2
    replace hx := hx.trans hx2
    go_wp2_with fail
    refine Calls.mono (at_rz _ m k _ (HU.out.ext hx) (by omega)) ?_
    rintro e w3 ⟨r3, rfl, hr3, hx3⟩
    have Hr3 := Lib.hid hr3; clear hr3
    replace hx := hx.trans hx3
    go_wp2_with fail
    refine Calls.mono (add_r _ _ _ _ _ ((Hr2.out.kd hx3.kd).has (by have := qz_num (HS.out.1 k); omega)) (Hr3.out.has (by have := qz_num (HS.out.2 k); omega)) (by have := qz_num (HS.out.1 k); omega) (by have := qz_num (HS.out.2 k); omega)) ?_
    rintro e w4 ⟨r4, rfl, hr4, hx4⟩
    obtain ⟨b5, A5, n5, c5, rfl⟩ := hr4.cells
    have Hr := Lib.hid hr4; clear hr4
    replace hx := hx.trans hx4
    have hown := ((Hown0.out.ext hx2).ext hx3).ext hx4
    have Hown := Lib.hid hown; clear hown
    have hsz := hx.size
    clear hx2 hx3 hx4
    go_wp2_with (at_builtin; refine wpList_append_run rfl _ _ 22 rfl u5 (.slice (some ⟨w4.heap.size, 0, none⟩) 1 1) rfl rfl (append_rz w4 w.heap.size _ _ _ _ _ Hown.out Hr.out (by first | (rw [lzf_len]; omega) | omega) hsz rfl) ?_)
    first | intro v' w5 hown U | rintro v' w5 ⟨hown, U⟩
    replace hx := (Hown.out.ext ((Ext.refl w4).alloc _)).from_ U (hx.alloc _) (Nat.le_refl _)
    have Hown' := Lib.hid hown; clear hown U
    go_wp2
    go_roundw
    case rel => exact ⟨k + 1, by omega, by go_num, by rw [lzf_succ, show (pad (cz l) (cz m) k).num = (cz l k).num + (cz m k).num from (ZI.cz l).num_add (ZI.cz m) k k]; exact Hown'.out, hx⟩
    case measure => simp [intOf] <;> omega
   ·have hk2 : k < m.length := by rcases H4.out k hkN with h | h <;> omega
    have hk1' : ¬ (k : Int) < l.length := by omega
    go_wp2_with fail
    refine Calls.mono (at_rz _ l k _ (HV.out.ext hx) (by omega)) ?_
    rintro e w2 ⟨r2, rfl, hr2, hx2⟩
    have Hr2 := Lib.hid hr2; clear hr2
    replace hx := hx.trans hx2
    go_wp2_with fail
    refine Calls.mono (at_rz _ m k _ (HU.out.ext hx) (by omega)) ?_
    rintro e w3 ⟨r3, rfl, hr3, hx3⟩
    have Hr3 := Lib.hid hr3; clear hr3
    replace hx := hx.trans hx3
    go_wp2_with fail
    refine Calls.mono (add_r _ _ _ _ _ ((Hr2.out.kd hx3.kd).has (by have := qz_num (HS.out.1 k); omega)) (Hr3.out.has (by have := qz_num (HS.out.2 k); omega)) (by have := qz_num (HS.out.1 k); omega) (by have := qz_num (HS.out.2 k); omega)) ?_
    rintro e w4 ⟨r4, rfl, hr4, hx4⟩
    obtain ⟨b5, A5, n5, c5, rfl⟩ := hr4.cells
    have Hr := Lib.hid hr4; clear hr4
    replace hx := hx.trans hx4
    have hown := ((Hown0.out.ext hx2).ext hx3).ext hx4
    have Hown := Lib.hid hown; clear hown
    have hsz := hx.size
    clear hx2 hx3 hx4
    go_wp2_with (at_builtin; refine wpList_append_run rfl _ _ 22 rfl u5 (.slice (some ⟨w4.heap.size, 0, none⟩) 1 1) rfl rfl (append_rz w4 w.heap.size _ _ _ _ _ Hown.out Hr.out (by first | (rw [lzf_len]; omega) | omega) hsz rfl) ?_)
    first | intro v' w5 hown U | rintro v' w5 ⟨hown, U⟩
    replace hx := (Hown.out.ext ((Ext.refl w4).alloc _)).from_ U (hx.alloc _) (Nat.le_refl _)
    have Hown' := Lib.hid hown; clear hown U
    go_wp2
    go_roundw
    case rel => exact ⟨k + 1, by omega, by go_num, by rw [lzf_succ, show (pad (cz l) (cz m) k).num = (cz l k).num + (cz m k).num from (ZI.cz l).num_add (ZI.cz m) k k]; exact Hown'.out, hx⟩
    case measure => simp [intOf] <;> omega
  ·obtain rfl : k = N := by omega
   have hk1' : ¬ (k : Int) < l.length := by omega
   have hk2' : ¬ (k : Int) < m.length := by omega
   have hh := lzf_hz' hown (fun i hi => (by have h1 := qsz_addz (ZI.cz l) (ZI.cz m) i i; have h2 := HS.out.1 i; have h3 := HS.out.2 i; show qsz (cz l i + cz m i) ≤ _; omega))
   have hczl := cz_lzf (n := k) (F := pad (cz l) (cz m)) ((ZI.cz l).pad (ZI.cz m)) (((cz_sup l).mono (by omega)).pad ((cz_sup m).mono (by omega)))
   obtain ⟨A2, c2, e2⟩ := hh.len
   rw [lzf_len] at e2
   rw [e2] at hh
   clear hown
   subst e2
   have HH := Lib.hid (And.intro hh hczl); clear hh hczl
   go_wp2_with fail
   refine Calls.mono (normal_rz _ _ _ HH.out.1 (by rw [lzf_len]; omega)) ?_
   rintro e w9 ⟨r, rfl, hr, hx9⟩
   rw [HH.out.2] at hr
   have hsz := (hx).size
   have Hr := Lib.hid hr; clear hr
   go_wp2
   go_ret
   exact Gives.mk (Hr.out.base_le (by omega)) ((hx).trans hx9)
end Go.Proofs.YtfacbpnegkjcgaaGreatDoor
namespace Go.Hp
open Go.RowKit
theorem OwnZ.off {base : Nat} {e : TypeId} {w w' : World} {v : Value} {l : List Int} {g : Nat} (h : OwnZ base e w v l) (U : Upd [g] w w') (hg : ∀ k ∈ blk v, k < g) : OwnZ base e w' v l :=
 OwnR.upd h U (fun k hk hG => by have := hg k hk; simp at hG; omega) fun _ _ q => q.kd U.kd
theorem sm_zi {F G : Nat → Rat} (hF : ZI F) (hG : ZI G) (n : Nat) : ∀ i, ∃ z : Int, sm i (fun j => F j * G (n - j)) = (z : Rat) := fun i =>
 sm_int fun j _ => by rw [hF.num j, hG.num (n - j), ← Rat.intCast_mul]; exact ⟨_, rfl⟩
theorem sm_nsucc {F G : Nat → Rat} (hF : ZI F) (hG : ZI G) (n i : Nat) : (sm (i + 1) (fun j => F j * G (n - j))).num = (sm i (fun j => F j * G (n - j))).num + (F i).num * (G (n - i)).num := by
 rw [sm_succ]
 obtain ⟨z, e⟩ := sm_zi hF hG n i
 rw [e, hF.num i, hG.num (n - i), ← Rat.intCast_mul, num_add]; rfl
end Go.Hp
namespace Go.Proofs.YtfacbpnegkjcgaaGreatDoor
open Go.RowKit Go.Hp
set_option maxRecDepth 20000 in
set_option maxHeartbeats 4000000 in
theorem mul_rzp (v u : Value) (l m : List Int) (s t : Nat) (w : World) (hv : HzV 0 w v l) (hu : HzV 0 w u m) (hs : ∀ i, qsz (cz l i) ≤ s) (ht : ∀ i, qsz (cz m i) ≤ t) (hst : 1 + (l.length + m.length) * (s + t + 1) ≤ 274877906944) (hn : l.length ≤ 274877906944) (hm : m.length ≤ 274877906944) :
  Calls Tryz.prog 40 #[v, u] w (Gives w fun r w' => IsZP w.heap.size w' r (cv (cz l) (cz m))) := by
 have HV := Lib.hid hv; have HU := Lib.hid hu
 obtain ⟨A, c, rfl⟩ := hv.len
 obtain ⟨E, d, rfl⟩ := hu.len
 clear hv hu
 have hp0 := pl_le (cz_sup l)
 have hq0 := pl_le (cz_sup m)
 have HF := Lib.hid (And.intro (Fin_.cz l) (Fin_.cz m))
 have HI := Lib.hid (And.intro (ZI.cz l) (ZI.cz m))
 obtain ⟨F, hF⟩ : ∃ F, F = cz l := ⟨_, rfl⟩
 obtain ⟨G, hG⟩ : ∃ G, G = cz m := ⟨_, rfl⟩
 rw [← hF, ← hG] at HF HI
 rw [← hF] at hs hp0
 rw [← hG] at ht hq0
 rw [← hF, ← hG]
 have HN := Lib.hid (And.intro (normal_rz _ l w HV.out (by omega)) (fun w' (e : Ext w w') => normal_rz _ m w' (HU.out.ext e) (by omega)))
 rw [← hF, ← hG] at HN
 clear hF hG HV HU
 have HS := Lib.hid (And.intro hs (And.intro ht hst)); clear hs ht hst
 go_enter Tryz.func40, Tryz.ntmps40
 go_wp2_with fail
 refine Calls.mono HN.out.1 ?_
 rintro e w1 ⟨r1, rfl, hr1, hx1⟩
 have Hr1 := Lib.hid hr1; clear hr1
 go_wp2_with fail
 refine Calls.mono (HN.out.2 w1 hx1) ?_
 rintro e w2 ⟨r2, rfl, hr2, hx2⟩
 obtain ⟨A1, c1, la, rfl, k1, k2, hA, k3, k4, k5⟩ := (Hr1.out.ext hx2).form
 obtain ⟨A2, c2, lb, rfl, k6, k7, hB, k8, k9, k10⟩ := hr2.form
 replace hx1 := hx1.trans hx2
 have HA := Lib.hid (And.intro hA (And.intro k3 k5)); have HB := Lib.hid (And.intro hB (And.intro k8 k10))
 clear hx2 Hr1 hr2 hA hB k3 k4 k5 k8 k9 k10 HN
 obtain ⟨p, hp⟩ : ∃ p, p = pl F := ⟨_, rfl⟩
 obtain ⟨q, hq⟩ : ∃ q, q = pl G := ⟨_, rfl⟩
 rw [← hp] at HA hp0 ⊢
 rw [← hp] at k1
 rw [← hq] at HB hq0 k6 ⊢
 have HP := Lib.hid (And.intro hp hq); clear hp hq
 by_cases h0 : p = 0
 ·have b0 : ((p : Int) == 0) = true := by rw [h0]; rfl
  have H0 := Lib.hid h0; clear h0
  go_wp2
  go_ret
  have : F = pz := (pl_zero HF.out.1).1 (by rw [← HP.out.1]; exact H0.out)
  rw [this, pz_cv]
  exact Gives.mk (IsZP.nil _ _) hx1
 have b0 : ((p : Int) == 0) = false := by simpa using h0
 by_cases h1 : q = 0
 ·have b1 : ((q : Int) == 0) = true := by rw [h1]; rfl
  have H1 := Lib.hid h1; clear h0 h1
  go_wp2
  go_ret
  have : G = pz := (pl_zero HF.out.2).1 (by rw [← HP.out.2]; exact H1.out)
  rw [this, cv_pz]
  exact Gives.mk (IsZP.nil _ _) hx1
 have b1 : ((q : Int) == 0) = false := by simpa using h1
 have sF : Sup p F := by rw [HP.out.1]; exact pl_sup HF.out.1
 have sG : Sup q G := by rw [HP.out.2]; exact pl_sup HF.out.2
 have HZ := Lib.hid (And.intro sF sG); clear sF sG
 obtain ⟨N, hN⟩ : ∃ N, p + q = N + 1 := ⟨p + q - 1, by omega⟩
 have hN1 : N ≤ 549755813888 := by omega
 have HL := Lib.hid (show N + 1 ≤ l.length + m.length by omega)
 have hpb : p ≤ 549755813888 := by omega
 have hqb : q ≤ 549755813888 := by omega
 clear h0 h1 hp0 hq0
 have HW := Lib.hid hx1; clear hx1
 obtain ⟨wb, hwb⟩ : ∃ wb : World, wb = w2 := ⟨_, rfl⟩
 subst hwb
 go_wp2
 go_loopw [7, 8] (fun ov iv wr => ∃ (n : Nat), n ≤ N ∧ iv = .int .i64 n ∧ OwnZ wb.heap.size 28 wr ov (lzf n (cv F G)) ∧ Ext wb wr) (fun _ iv _ => N - (intOf iv).toNat)
 case atStart => exact ⟨0, Nat.zero_le _, rfl, OwnR.nil _ _ _ _ _, Ext.refl _⟩
 case round =>
  obtain ⟨n, hn, rfl, hown, hx⟩ := hrel
  by_cases hnN : n < N
  ·have Hown0 := Lib.hid hown; clear hown
   go_wp2_with fail
   refine Calls.mono (of_r 0 _ (by omega) (by omega)) ?_
   rintro e w3 ⟨r3, rfl, hr3, hx3⟩
   obtain ⟨b5, A5, n5, c5, rfl⟩ := hr3.cells
   have hown := Hown0.out.ext hx3
   have Hbk := Lib.hid (fun g hg => (OwnR.blk_ge hown g hg).2)
   replace hx := hx.trans hx3
   clear hx3 Hown0
   go_upto_region 9 with (fail)
   obtain ⟨W9, eW9, e9, x9⟩ := Box.made w3 28 #[.bool b5, .slice A5 n5 c5] (by simp [isDig])
   rw [← eW9]
   clear eW9
   have eb := BoxZ.mk e9 (hr3.kd x9.kd)
   replace hown := OwnZ.ext hown x9
   have Hsz9 := Lib.hid hx.size
   replace hx := hx.trans x9
   have Hown := Lib.hid hown
   clear x9 hr3 e9 hown
   generalize w3.heap.size = gb at *
   go_wp2
   go_loopw [10] (fun iv wx => ∃ (i : Nat), i ≤ n + 1 ∧ iv = .int .i64 i ∧ BoxZ wx gb 28 (sm i (fun j => F j * G (n - j))).num ∧ OwnZ wb.heap.size 28 wx u7 (lzf n (cv F G)) ∧ Ext wb wx) (fun iv _ => n + 1 - (intOf iv).toNat)
   case atStart => exact ⟨0, Nat.zero_le _, rfl, eb, Hown.out, hx⟩
   case round =>
    clear eb hx Hown
    obtain ⟨i, hi, rfl, ⟨z1, Z1, zn, zc, ez, hz⟩, hown, hx⟩ := hrel
    have Hz := Lib.hid hz; clear hz
    have Hown := Lib.hid hown; clear hown
    by_cases hin : i < n + 1
    ·by_cases hip : i < p
     ·by_cases hiq : n - i < q
      ·have hiq' : (n : Int) - i < q := by omega
       obtain ⟨g, o, b, B1, n1, d1, rfl, _, q0, q1, hqa⟩ := HA.out.1.at_ (j := i) (by rw [HA.out.2.1]; exact hip)
       obtain ⟨g', o', bb, B2, n2, d2, rfl, _, r0, r1, hqb'⟩ := HB.out.1.at_ (j := n - i) (by rw [HB.out.2.1]; exact hiq)
       have ea := lz_at HA.out.2.2 (i := i) (by rw [HA.out.2.1]; exact hip)
       have eb' := lz_at HB.out.2.2 (i := n - i) (by rw [HB.out.2.1]; exact hiq)
       rw [ea] at hqa
       rw [eb'] at hqb'
       replace q0 := hx.cell q0
       replace q1 := hx.cell q1
       replace r0 := hx.cell r0
       replace r1 := hx.cell r1
       have Hqa := Lib.hid (hqa.kd hx.kd); have Hqb := Lib.hid (hqb'.kd hx.kd); clear hqa hqb' ea eb'
       have HQ := Lib.hid (show sz (F i).num.natAbs ≤ 274877906944 ∧ sz (G (n - i)).num.natAbs ≤ 274877906944 ∧ sz ((F i).num * (G (n - i)).num).natAbs ≤ 274877906944 ∧ sz (sm i (fun j => F j * G (n - j))).num.natAbs ≤ 274877906944 by
        have h1 := HS.out.1 i; have h2 := HS.out.2.1 (n - i)
        have h3 := qsz_mul (F i) (G (n - i))
        have h4 := smm_qsz HS.out.1 HS.out.2.1 n i
        have h5 := mul_le_of (i := i) (by have := HL.out; omega) HS.out.2.2
        have h6 := mul_le_of (i := 1) (by have := HL.out; omega) HS.out.2.2
        have h7 := qz_num h1
        have h8 := qz_num h2
        have h9 := qz_num h4
        have h10 := qz_num h3
        rw [HI.out.1.num_mul HI.out.2] at h10
        omega)
       obtain ⟨cez0, cez1⟩ := ez.cells2
       have fez := ez.frozen
       go_wp2_with fail
       refine wp_region_par (k := 13) (D := [51, 52, 53, 54, 55, 56, 57, 58, 59, 60, 61, 62, 63]) (T := [[], [], [], [1, 2], [1, 2, 3], [], [], [], [6, 7], [5, 6, 7, 8], [5, 6, 7, 8, 9], [1, 2, 3, 4, 5, 6, 7, 8, 9, 10], [0, 1, 2, 3, 4, 5, 6, 7, 8, 9, 10, 11], [0, 1, 2, 3, 4, 5, 6, 7, 8, 9, 10, 11, 12]]) (EK := [9, 5, 10, 6, 8]) (EV := [?e2x0, ?e2x1, ?e2x2, ?e2x3, ?e2x4]) (VL := [(kv ?v2x0), (kv ?v2x1), (kv ?v2x2), (kv ?v2x3), (kv ?v2x4), (kv ?v2x5), (kv ?v2x6), (kv ?v2x7), (kv ?v2x8), (kv ?v2x9), (kv ?v2x10), (fun γ => γ 11), (fun γ => γ 12)]) (FL := fun γ w' => [True, True, True, True, True, True, True, True, True, True, True, IsZ w' (γ 11) ((F i).num * (G (n - i)).num), IsZ w' (γ 12) ((sm i (fun j => F j * G (n - j))).num + (F i).num * (G (n - i)).num)]) ?hE2 (by kernel_rfl) (by kernel_rfl) (by rfl) (by kernel_rfl) ?hloc2 ?hmono2 ?hstep2 ?htail2
       case hE2 => refine ⟨?_, ?_, ?_, ?_, ?_, trivial⟩ <;> (simp only [List.getElem?_toArray, List.getElem?_cons_succ, List.getElem?_cons_zero]; rfl)
       case hstep2 =>
        refine ⟨⟨⟨⟨⟨⟨⟨⟨⟨⟨⟨⟨⟨trivial, ?_⟩, ?_⟩, ?_⟩, ?_⟩, ?_⟩, ?_⟩, ?_⟩, ?_⟩, ?_⟩, ?_⟩, ?_⟩, ?_⟩, ?_⟩
        ·intro γ w' he hf; clear hf; refine ⟨trivial, ?_⟩; intro R hR
         have hc := he.cells
         have cq0 := he.cell cez0
         have cq1 := he.cell cez1
         have cq2 := he.cell q0
         have cq3 := he.cell q1
         have cq4 := he.cell r0
         have cq5 := he.cell r1
         go_simp
         (try go_ints); (try (rw [if_neg (by omega)])); (try (rw [if_pos (by omega)])); (try go_simp); (try go_ints)
         refine hR _ _ (Ext.refl _) ?_ trivial
         rfl
        ·intro γ w' he hf; clear hf; refine ⟨trivial, ?_⟩; intro R hR
         have hc := he.cells
         go_simp
         (try go_ints); (try (rw [if_neg (by omega)])); (try (rw [if_pos (by omega)])); (try go_simp); (try go_ints)
         refine hR _ _ (Ext.refl _) ?_ trivial
         rfl
        ·intro γ w' he hf; clear hf; refine ⟨trivial, ?_⟩; intro R hR
         have hc := he.cells
         go_simp
         (try go_ints); (try (rw [if_neg (by omega)])); (try (rw [if_pos (by omega)])); (try go_simp); (try go_ints)
         refine hR _ _ (Ext.refl _) ?_ trivial
         rfl
        ·intro γ w' he hf; clear hf; refine ⟨trivial, ?_⟩; intro R hR
         have hc := he.cells
         go_simp
         (try go_ints); (try (rw [if_neg (by omega)])); (try (rw [if_pos (by omega)])); (try go_simp); (try go_ints)
         refine hR _ _ (Ext.refl _) ?_ trivial
         rfl
        ·intro γ w' he hf; clear hf; refine ⟨trivial, ?_⟩; intro R hR
         have hc := he.cells
         have cq0 := he.cell cez0
         have cq1 := he.cell cez1
         have cq2 := he.cell q0
         have cq3 := he.cell q1
         have cq4 := he.cell r0
         have cq5 := he.cell r1
         go_simp
         (try go_ints); (try (rw [if_neg (by omega)])); (try (rw [if_pos (by omega)])); (try go_simp); (try go_ints)
         refine hR _ _ (Ext.refl _) ?_ trivial
         rfl
        ·intro γ w' he hf; clear hf; refine ⟨trivial, ?_⟩; intro R hR
         have hc := he.cells
         go_simp
         (try go_ints); (try (rw [if_neg (by omega)])); (try (rw [if_pos (by omega)])); (try go_simp); (try go_ints)
         refine hR _ _ (Ext.refl _) ?_ trivial
         rfl
        ·intro γ w' he hf; clear hf; refine ⟨trivial, ?_⟩; intro R hR
         have hc := he.cells
         go_simp
         (try go_ints); (try (rw [if_neg (by omega)])); (try (rw [if_pos (by omega)])); (try go_simp); (try go_ints)
         refine hR _ _ (Ext.refl _) ?_ trivial
         rfl
        ·intro γ w' he hf; clear hf; refine ⟨trivial, ?_⟩; intro R hR
         have hc := he.cells
         go_simp
         (try go_ints); (try (rw [if_neg (by omega)])); (try (rw [if_pos (by omega)])); (try go_simp); (try go_ints)
         refine hR _ _ (Ext.refl _) ?_ trivial
         rfl
        ·intro γ w' he hf; clear hf; refine ⟨trivial, ?_⟩; intro R hR
         have hc := he.cells
         go_simp
         (try go_ints); (try (rw [if_neg (by omega)])); (try (rw [if_pos (by omega)])); (try go_simp); (try go_ints)
         refine hR _ _ (Ext.refl _) ?_ trivial
         rfl
        ·intro γ w' he hf; clear hf; refine ⟨trivial, ?_⟩; intro R hR
         have hc := he.cells
         go_simp
         (try go_ints); (try (rw [if_neg (by omega)])); (try (rw [if_pos (by omega)])); (try go_simp); (try go_ints)
         refine hR _ _ (Ext.refl _) ?_ trivial
         rfl
        ·intro γ w' he hf; clear hf; refine ⟨trivial, ?_⟩; intro R hR
         have hc := he.cells
         have cq0 := he.cell cez0
         have cq1 := he.cell cez1
         have cq2 := he.cell q0
         have cq3 := he.cell q1
         have cq4 := he.cell r0
         have cq5 := he.cell r1
         go_simp
         (try go_ints); (try (rw [if_neg (by omega)])); (try (rw [if_pos (by omega)])); (try go_simp); (try go_ints)
         refine hR _ _ (Ext.refl _) ?_ trivial
         rfl
        ·intro γ w' he hf; clear hf; refine ⟨trivial, ?_⟩; intro R hR
         go_simp
         refine Calls.mono (show Calls _ _ _ w' (Gives w' fun r w'' => IsZ w'' (r) ((F i).num * (G (n - i)).num)) from mul_r _ _ _ _ w' ((Hqa.out.kd he.kd).has (by have := HQ.out.1; omega)) ((Hqb.out.kd he.kd).has (by have := HQ.out.2.1; omega)) (by have := HQ.out.1; omega) (by have := HQ.out.2.1; omega)) ?_
         rintro e w2 ⟨v, rfl, hv, hx⟩
         exact ⟨v, rfl, hR v w2 hx rfl hv⟩
        ·intro γ w' he hf; have f11 : IsZ w' (γ 11) ((F i).num * (G (n - i)).num) := hf 11 (by decide); clear hf; refine ⟨trivial, ?_⟩; intro R hR
         go_simp
         refine Calls.mono (show Calls _ _ _ w' (Gives w' fun r w'' => IsZ w'' (r) ((sm i (fun j => F j * G (n - j))).num + (F i).num * (G (n - i)).num)) from add_r _ _ _ _ w' ((Hz.out.kd he.kd).has (by have := HQ.out.2.2.2; omega)) (f11.has (by have := HQ.out.2.2.1; omega)) (by have := HQ.out; omega) (by have := HQ.out; omega)) ?_
         rintro e w2 ⟨v, rfl, hv, hx⟩
         exact ⟨v, rfl, hR v w2 hx rfl hv⟩
       case hloc2 =>
        exact ⟨⟨⟨⟨⟨⟨⟨⟨⟨⟨⟨⟨⟨trivial, (fun γ γ' h => ⟨rfl, fun _ => rfl⟩)⟩, (fun γ γ' h => ⟨rfl, fun _ => rfl⟩)⟩, (fun γ γ' h => ⟨rfl, fun _ => rfl⟩)⟩, (fun γ γ' h => ⟨rfl, fun _ => rfl⟩)⟩, (fun γ γ' h => ⟨rfl, fun _ => rfl⟩)⟩, (fun γ γ' h => ⟨rfl, fun _ => rfl⟩)⟩, (fun γ γ' h => ⟨rfl, fun _ => rfl⟩)⟩, (fun γ γ' h => ⟨rfl, fun _ => rfl⟩)⟩, (fun γ γ' h => ⟨rfl, fun _ => rfl⟩)⟩, (fun γ γ' h => ⟨rfl, fun _ => rfl⟩)⟩, (fun γ γ' h => ⟨rfl, fun _ => rfl⟩)⟩, (fun γ γ' h => ⟨h 11 rfl, fun w' => (congrArg (fun a => IsZ w' (a) ((F i).num * (G (n - i)).num)) (h 11 rfl))⟩)⟩, (fun γ γ' h => ⟨h 12 rfl, fun w' => (congrArg (fun a => IsZ w' (a) ((sm i (fun j => F j * G (n - j))).num + (F i).num * (G (n - i)).num)) (h 12 rfl))⟩)⟩
       case hmono2 =>
        exact ⟨⟨⟨⟨⟨⟨⟨⟨⟨⟨⟨⟨⟨trivial, (fun γ wA w' e h => h)⟩, (fun γ wA w' e h => h)⟩, (fun γ wA w' e h => h)⟩, (fun γ wA w' e h => h)⟩, (fun γ wA w' e h => h)⟩, (fun γ wA w' e h => h)⟩, (fun γ wA w' e h => h)⟩, (fun γ wA w' e h => h)⟩, (fun γ wA w' e h => h)⟩, (fun γ wA w' e h => h)⟩, (fun γ wA w' e h => h)⟩, (fun γ wA w' e h => (show IsZ wA (γ 11) ((F i).num * (G (n - i)).num) from h).ext e)⟩, (fun γ wA w' e h => (show IsZ wA (γ 12) ((sm i (fun j => F j * G (n - j))).num + (F i).num * (G (n - i)).num) from h).ext e)⟩
       intro γ w6 hx6 hF
       have p11 : IsZ w6 (γ 11) ((F i).num * (G (n - i)).num) := Each.get hF 11 (by decide)
       have p12 : IsZ w6 (γ 12) ((sm i (fun j => F j * G (n - j))).num + (F i).num * (G (n - i)).num) := Each.get hF 12 (by decide)
       clear hF
       simp only [fillAll, gV, kv, List.getD_cons_zero, List.getD_cons_succ, Act.put, List.setIfInBounds_toArray, List.set_cons_zero, List.set_cons_succ, List.toList_toArray, List.drop_succ_cons, List.drop_zero, List.drop_nil, Nat.zero_add, Nat.reduceAdd]
       generalize γ 11 = g11 at *
       generalize γ 12 = g12 at *
       clear γ
       clear cez0 cez1 fez q0 q1 r0 r1 p11 Hz Hqa Hqb HQ
       replace ez := ez.ext hx6
       replace hx := hx.trans hx6
       have hown := Hown.out.ext hx6
       clear hx6 Hown
       obtain ⟨b5, A5, n5, c5, rfl⟩ := p12.cells
       obtain ⟨cez0, cez1⟩ := ez.cells2
       have fez := ez.frozen
       go_wp2
       obtain ⟨W7, eW, ez', U⟩ := ez.put2 (.bool b5) (.slice A5 n5 c5) rfl rfl
       rw [← eW]
       clear eW ez cez0 cez1 fez
       replace hown := hown.off U Hbk.out
       replace hx := U.from_ hx (by have := Hsz9.out; simp; omega)
       have eq := BoxZ.mk ez' (p12.kd U.kd)
       clear U ez' p12
       have Hown := Lib.hid hown; clear hown
       go_roundw
       case rel => exact ⟨i + 1, by omega, by go_num, by rw [sm_nsucc HI.out.1 HI.out.2]; exact eq, Hown.out, hx⟩
       case measure => simp [intOf] <;> omega
      ·have hiq' : ¬ (n : Int) - i < q := by omega
       have hz0 : F i * G (n - i) = 0 := by rw [HZ.out.2 (n - i) (by omega)]; exact Rat.mul_zero _
       have Hz0 := Lib.hid hz0; clear hz0
       go_wp2
       go_roundw
       case rel => exact ⟨i + 1, by omega, by go_num, by rw [sm_succ, Hz0.out, Rat.add_zero]; exact BoxZ.mk ez Hz.out, Hown.out, hx⟩
       case measure => simp [intOf] <;> omega
     ·have hip' : ¬ (i : Int) < p := by omega
      have hz0 : F i * G (n - i) = 0 := by rw [HZ.out.1 i (by omega)]; exact Rat.zero_mul _
      have Hz0 := Lib.hid hz0; clear hz0
      go_wp2
      go_roundw
      case rel => exact ⟨i + 1, by omega, by go_num, by rw [sm_succ, Hz0.out, Rat.add_zero]; exact BoxZ.mk ez Hz.out, Hown.out, hx⟩
      case measure => simp [intOf] <;> omega
    ·obtain rfl : i = n + 1 := by omega
     rw [← cv_sm] at Hz
     have Hr := Lib.hid Hz.out; clear Hz
     obtain ⟨cez0, cez1⟩ := ez.cells2
     have fez := ez.frozen
     have hsz := hx.size
     go_wp2_with (at_builtin; refine wpList_append_run rfl _ _ 22 rfl u7 (.slice (some ⟨wr.heap.size, 0, none⟩) 1 1) rfl rfl (append_rz wr wb.heap.size _ _ _ _ _ Hown.out Hr.out (by first | (rw [lzf_len]; omega) | omega) hsz rfl) ?_)
     first | intro v' w5 hown U | rintro v' w5 ⟨hown, U⟩
     replace hx := (Hown.out.ext ((Ext.refl wr).alloc _)).from_ U (hx.alloc _) (Nat.le_refl _)
     have Hown' := Lib.hid hown; clear hown U
     go_wp2
     go_roundw
     case rel => exact ⟨n + 1, by omega, by go_num, by rw [lzf_succ]; exact Hown'.out, hx⟩
     case measure => simp [intOf] <;> omega
  ·obtain rfl : n = N := by omega
   have hh := lzf_hz' hown (fun i hi => (by rw [cv_sm]; exact Nat.le_trans (Nat.le_trans (smm_qsz HS.out.1 HS.out.2.1 i (i + 1)) (mul_le_of (by have := HL.out; omega) HS.out.2.2)) (by omega)))
   have hczl := cz_lzf (n := n) (F := cv F G) (HI.out.1.cv HI.out.2) ((HZ.out.1.cv HZ.out.2).mono (by omega))
   obtain ⟨A2, c2, e2⟩ := hh.len
   rw [lzf_len] at e2
   rw [e2] at hh
   clear hown
   subst e2
   have HH := Lib.hid (And.intro hh hczl); clear hh hczl
   go_wp2_with fail
   refine Calls.mono (normal_rz _ _ _ HH.out.1 (by rw [lzf_len]; omega)) ?_
   rintro e w9 ⟨r, rfl, hr, hx9⟩
   rw [HH.out.2] at hr
   have hsz := (HW.out.trans hx).size
   have Hr := Lib.hid hr; clear hr
   go_wp2
   go_ret
   exact Gives.mk (Hr.out.base_le (by omega)) ((HW.out.trans hx).trans hx9)
end Go.Proofs.YtfacbpnegkjcgaaGreatDoor
namespace Go.Hp
open Go.RowKit
theorem KD.own {A B : World} {row : Option Nat} (hg : A.grownBy B row) (hr : ∀ r, row = some r → ∃ o : Obj, A.heap[r]? = some o ∧ o.isCells = false) : KD A B := fun _ _ e => cell_kept e hg hr
theorem Box.own {A B : World} {row : Option Nat} {g : Nat} {t : TypeId} {cs : Array Value} (h : Box A g t cs) (hg : A.grownBy B row) (hr : ∀ r, row = some r → ∃ o : Obj, A.heap[r]? = some o ∧ o.isCells = false) : Box B g t cs :=
 ⟨(hg.block g h.lt (fun e => by obtain ⟨o, h1, h2⟩ := hr g e.symm; rw [h.1] at h1; cases h1; cases h2)).trans h.1, h.2⟩
theorem kept4 {A B C : World} {g : Nat} {u v x y : Value} (B0 : Nat) (e : Ext A B) (h : C = (((B.setCell ⟨g, 0, none⟩ u).setCell ⟨g, 1, none⟩ v).setCell ⟨g, 2, none⟩ x).setCell ⟨g, 3, none⟩ y) : KeepsFrom B0 A C := by
 subst h
 have k1 : KeepsFrom B0 A B := ⟨e.size, fun k o _ h0 _ => e.blk h0⟩
 exact k1.trans (((((KeepsOthers.setCell _ _ _).trans (KeepsOthers.setCell _ _ _)).trans (KeepsOthers.setCell _ _ _)).trans (KeepsOthers.setCell _ _ _)).from _)
theorem below4 {A B C : World} {g n₀ : Nat} {u v x y : Value} (e : Below n₀ A B) (h : C = (((B.setCell ⟨g, 0, none⟩ u).setCell ⟨g, 1, none⟩ v).setCell ⟨g, 2, none⟩ x).setCell ⟨g, 3, none⟩ y) (hg : n₀ ≤ g) : Below n₀ A C := by
 subst h
 exact (((e.setCell (p := ⟨g, 0, none⟩) hg _).setCell (p := ⟨g, 1, none⟩) hg _).setCell (p := ⟨g, 2, none⟩) hg _).setCell (p := ⟨g, 3, none⟩) hg _
theorem upd_cell {A B : World} {G : List Nat} {g i : Nat} {v : Value} (U : Upd G A B) (hg : g ∉ G) (h : A.cell? ⟨g, i, none⟩ = some v) : B.cell? ⟨g, i, none⟩ = some v := by
 obtain ⟨o, ho, hc⟩ := cells_of_cell h
 exact (World.cell?_of_block ((U.1 g o hg ho).trans ho.symm)).trans h
theorem BoxQ.own {A B : World} {row : Option Nat} {g : Nat} {t : TypeId} {q : Rat} (h : BoxQ A g t q) (hg : A.grownBy B row) (hr : ∀ r, row = some r → ∃ o : Obj, A.heap[r]? = some o ∧ o.isCells = false) : BoxQ B g t q := by
 obtain ⟨b, A1, n, c, b', A1', n', c', h1, h2⟩ := h
 exact BoxQ.mk (h1.own hg hr) (h2.kd (KD.own hg hr))
end Go.Hp
namespace Go.Hp
open Go.RowKit
def hac {n : Nat} (F : Nat → Rat) (x : Rat) (pre : List (Fin n)) : Rat := pre.foldl (fun a p => a * x + F p.1) 0
theorem hac_snoc {n : Nat} (F : Nat → Rat) (x : Rat) (pre : List (Fin n)) (p : Fin n) : hac F x (pre ++ [p]) = hac F x pre * x + F p.1 := by simp [hac]
theorem hac_dz {n : Nat} (F : Nat → Rat) (x : Rat) : ∀ k (h : k ≤ n), hac F x (dz n k h) = hor F x n (n - k)
 | 0, h => by rw [Nat.sub_zero, hor_top]; rfl
 | k + 1, h => by
  rw [dz_succ h, hac_snoc, hac_dz F x k (by omega), hor_step F x (show n - (k + 1) < n by omega), show n - (k + 1) + 1 = n - k from by omega]
  show hor F x n (n - k) * x + F (n - 1 - k) = _
  rw [show n - 1 - k = n - (k + 1) from by omega]
theorem hac_qsz {n s t : Nat} {F : Nat → Rat} {x : Rat} (hF : ∀ i, qsz (F i) ≤ s) (hx : qsz x ≤ t) (pre : List (Fin n)) : qsz (hac F x pre) ≤ 1 + pre.length * (s + t + 1) := by
 have key : ∀ (pre : List (Fin n)) (a : Rat), qsz (pre.foldl (fun a p => a * x + F p.1) a) ≤ qsz a + pre.length * (s + t + 1) := by
  intro pre
  induction pre with
  | nil => intro a; simp
  | cons p pre ih =>
   intro a
   have h1 := ih (a * x + F p.1)
   have h2 := qsz_add (a * x) (F p.1)
   have h3 := qsz_mul a x
   have h4 := hF p.1
   rw [List.foldl_cons, List.length_cons, Nat.succ_mul]
   omega
 have := key pre 0
 have h0 : qsz (0 : Rat) = 1 := by decide
 unfold hac; omega
end Go.Hp
namespace Go.Proofs.YtfacbpnegkjcgaaGreatDoor
open Go.RowKit Go.Hp Go.Shelf
attribute [local go_sem] Oper.semAt_some
set_option maxRecDepth 100000 in
set_option maxHeartbeats 4000000 in
theorem zeval_q (v u : Value) (l : List Int) (x : Rat) (s t : Nat) (w : World) (hv : HzV 0 w v l) (hu : HasQ w u x) (hs : ∀ i, qsz (cz l i) ≤ s) (ht : qsz x ≤ t) (hK : 1 + l.length * (s + t + 1) + s + t + 1 ≤ 274877906944) (hn : l.length ≤ 2748779069) :
  Calls Tryz.prog 48 #[v, u] w (Gives w fun r w' => IsQ w' r (evn l.length (cz l) x)) := by
 have HU := Lib.hid hu
 obtain ⟨b1, A1, n1, c1, b1', A1', n1', c1', x0, y0, rfl, -⟩ := hu.form
 obtain ⟨A, c, rfl, hl, hc, hA⟩ := hv
 clear hu
 have HA : Hid (HzAt 0 w A l) := Lib.hid hA; clear hA
 have HS := Lib.hid (And.intro hs ht)
 clear hs ht
 refine (callsIn_wide (n := 5)).1 ?_
 refine callsIn_of_wp_marks Tryz.func48 rfl trivial ?_ rfl
 simp only [Tryz.ntmps48, List.size_toArray, List.length_cons, List.length_nil, Nat.reduceAdd, Nat.reduceSub, Array.replicate_succ, Array.replicate_zero, List.push_toArray, List.append_toArray, List.nil_append, List.cons_append]
 gi_wp2_with (refine ⟨trivial, ?_⟩; gi_at_call 90; refine (callsIn_wide.2 (of_q 0 _ (by omega) (by omega))).mono ?_; rintro e w1 ⟨r1, rfl, hr1, hx1⟩; obtain ⟨b5, A5, n5, c5, b6, A6, n6, c6, rfl⟩ := hr1.cells)
 obtain ⟨W9, eW9, e9, x9⟩ := Box.made w1 61 #[.bool b5, .slice A5 n5 c5, .bool b6, .slice A6 n6 c6] (by simp [isDig])
 rw [← eW9]
 clear eW9
 have hgb : w.heap.size + 1 + 1 ≤ w1.heap.size := by have := hx1.size; simpa using this
 have eb := BoxQ.mk e9 (hr1.ext x9)
 replace hx1 := hx1.trans x9
 clear x9 hr1 e9
 generalize w1.heap.size = gb at *
 refine ⟨trivial, ?_⟩
 gi_at_call 89
 refine (zback_in _ _ trivial rfl _ _ _ _).mono ?_
 rintro e w2 ⟨rfl, rfl⟩
 gi_wp2
 obtain ⟨WA, hWA⟩ : ∃ WA, (w.alloc (.cells #[.bool b1, .slice A1 n1 c1, .bool b1', .slice A1' n1' c1'] 61)).alloc (.cells #[.bool false, .slice none 0 0, .bool false, .slice none 0 0] 61) = WA := ⟨_, rfl⟩
 have hAsz : WA.heap.size = w.heap.size + 2 := by rw [← hWA]; simp
 have eu : Box WA w.heap.size 61 #[.bool b1, .slice A1 n1 c1, .bool b1', .slice A1' n1' c1'] := by rw [← hWA]; exact (Box.new w _ _ (by simp [isDig])).alloc _
 have ez : Box WA (w.heap.size + 1) 61 #[.bool false, .slice none 0 0, .bool false, .slice none 0 0] := by
  have := Box.new (w.alloc (.cells #[.bool b1, .slice A1 n1 c1, .bool b1', .slice A1' n1' c1'] 61)) 61 #[.bool false, .slice none 0 0, .bool false, .slice none 0 0] (by simp [isDig])
  rw [World.size_alloc] at this
  rw [← hWA]; exact this
 rw [hWA] at hx1
 have hwA : Ext w WA := by rw [← hWA]; exact ((Below.refl w.heap.size w).alloc (Nat.le_refl _) _).alloc (by simp) _
 clear hWA
 have hgW : gb < W9.heap.size := eb.lt
 obtain ⟨enc, hE, hcs⟩ : ∃ enc : Fin l.length → Value, (∀ j, HasZ w (enc j) l[j.1]) ∧ (0 < l.length → ∃ b off, A = some ⟨b, off, none⟩ ∧ b < WA.heap.size ∧ ∀ j (hj : j < l.length), IntCells (W9.alloc (.cells #[.slice A l.length c] 23)) b (off + j * 2) (enc ⟨j, hj⟩)) := by
  have key : ∀ j : Fin l.length, ∃ e : Value, HasZ w e l[j.1] ∧ ∃ b off, A = some ⟨b, off, none⟩ ∧ b < w.heap.size ∧ IntCells (W9.alloc (.cells #[.slice A l.length c] 23)) b (off + j.1 * 2) e := by
   rintro ⟨j, hj⟩
   obtain ⟨g, o, b, A2, n, c2, rfl, _, q0, q1, hq⟩ := HA.out.at_ (j := j) hj
   have X := hwA.trans (hx1.alloc (.cells #[.slice (some ⟨g, o, none⟩) l.length c] 23))
   exact ⟨_, hq, g, o, rfl, World.block_lt_of_cell? w _ q0, _, _, _, _, rfl, X.cell q0, X.cell q1⟩
  refine ⟨fun j => Classical.choose (key j), fun j => (Classical.choose_spec (key j)).1, fun h0 => ?_⟩
  obtain ⟨-, b, off, e1, e2, -⟩ := Classical.choose_spec (key ⟨0, h0⟩)
  refine ⟨b, off, e1, by omega, fun j hj => ?_⟩
  obtain ⟨-, b', off', e1', -, e3⟩ := Classical.choose_spec (key ⟨j, hj⟩)
  rw [e1] at e1'
  cases e1'
  exact e3
 have HE := Lib.hid hE; clear hE
 obtain ⟨W2, hW2⟩ : ∃ W2, W9.alloc (.cells #[.slice A l.length c] 23) = W2 := ⟨_, rfl⟩
 have h2sz : W2.heap.size = W9.heap.size + 1 := by rw [← hW2]; simp
 have hb2 : W2.cell? ⟨W9.heap.size, 0, none⟩ = some (.slice A l.length c) := by rw [← hW2]; exact (Boxed.new W9 _ _).cell
 have eb2 : BoxQ W2 gb 61 ((0 : Int) : Rat) := by
  rw [← hW2]; obtain ⟨b, A1, n, c, b', A1', n', c', h1, h2⟩ := eb; exact BoxQ.mk (h1.alloc _) (h2.ext ((Below.refl _ W9).alloc (Nat.le_refl _) _))
 have hx2 : Ext WA W2 := by rw [← hW2]; exact hx1.alloc _
 rw [hW2] at hcs ⊢
 clear hW2 eb hx1
 refine wpIn_rangeFunc_ownH rfl (by omega) (gf := 133) (lb := #[.pointer (some ⟨W9.heap.size, 0, none⟩)]) rfl trivial (enters_of Tryz.func133 (by kernel_rfl) rfl)
  (zback_stops _ _ trivial rfl (by omega) W9.heap.size WA.heap.size l.length c A enc (by omega) W2 (by omega) hx2.size hb2 hcs) KpZ.trans (kpZ_b hx2.size) (Below.refl _ _) (fun _ => rfl)
  (fun pre W => BoxQ W gb 61 (hac (cz l) x pre) ∧ Below WA.heap.size WA W)
  (fun _ _ _ => False)
  (fun pre A B row hs hg hr => ⟨hs.1.own hg (fun r e => (hr r e).2), ownFrom_below (β := Unit) (Nat.le_refl _) hx2.size () A B row hs.2 hg hr⟩)
  (fun _ _ _ _ _ hs _ _ => hs)
  ⟨eb2, hx2⟩
  (fun p a' W => ∃ Bx b A2 n2 c2, enc p = .agg #[.bool b, .slice A2 n2 c2] ∧ Box W Bx 28 #[.bool b, .slice A2 n2 c2] ∧ a' = { tmps := #[.slice A l.length c, .agg #[.bool b1, .slice A1 n1 c1, .bool b1', .slice A1' n1' c1'], undef, .pointer (some ⟨w.heap.size, 0, none⟩), .pointer (some ⟨w.heap.size + 1, 0, none⟩), .pointer (some ⟨gb, 0, none⟩), undef, .pointer (some ⟨Bx, 0, none⟩), .agg #[.bool b5, .slice A5 n5 c5, .bool b6, .slice A6 n6 c6], .slice A l.length c, .func (.func 133) #[] #[.pointer (some ⟨W9.heap.size, 0, none⟩)], .int .i64 (p.1 : Nat), .agg #[.bool b, .slice A2 n2 c2], undef, undef, undef, undef, undef, undef, undef], defers := [] })
  (fun p a' _ X Y row hs hg hr => by obtain ⟨Bx, b, A2, n2, c2, k2, k3, k4⟩ := hs; exact ⟨Bx, b, A2, n2, c2, k2, k3.own hg (fun r e => (hr r e).2), k4⟩)
  ?assign ?body ?done ?stop
 case assign =>
  rintro lp pre p W K ⟨hi, hB⟩ hK
  obtain ⟨b, A2, n2, c2, hpv⟩ := (HE.out p).cells
  have HK := Lib.hid hK; clear hK
  have HI := Lib.hid (And.intro hi hB); clear hi
  gi_wp2
  obtain ⟨W9, eW9, e9, x9⟩ := Box.made W 28 #[.bool b, .slice A2 n2 c2] (by simp [isDig])
  rw [← eW9]
  refine HK.out _ _ ⟨x9.size, fun k o _ h0 _ => x9.blk h0⟩ ⟨x9.mono hB.size, fun v h => x9.cell h⟩ ⟨HI.out.1.ext x9, hB.trans (x9.mono hB.size)⟩ ⟨W.heap.size, b, A2, n2, c2, hpv, e9, rfl⟩
 case body =>
  rintro lp pre p a' W hl0 ⟨r, hr⟩ ⟨hi, hB⟩ ⟨Bx, b, A2, n2, c2, k2, k3, rfl⟩ hlt
  have HQ := Lib.hid (show HasZ w (.agg #[.bool b, .slice A2 n2 c2]) l[p.1] from k2 ▸ HE.out p)
  have HPl := Lib.hid (show ((l[p.1] : Int) : Rat) = cz l p.1 from by rw [cz_lt p.2])
  have HR := Lib.hid (show qsz (hac (cz l) x pre) ≤ 274877906944 ∧ qsz (hac (cz l) x pre * x) ≤ 274877906944 ∧ qsz (cz l p.1) < 274877906944 by
   have h1 := hac_qsz HS.out.1 HS.out.2 pre
   have h2 := qsz_mul (hac (cz l) x pre) x
   have h3 := HS.out.2
   have h4 := HS.out.1 p.1
   have h5 : pre.length * (s + t + 1) ≤ l.length * (s + t + 1) := Nat.mul_le_mul_right _ (by omega)
   omega)
  obtain ⟨z1, Z1, zn, zc, z2, Z2, zn', zc', eg, hz⟩ := hi
  have Hz := Lib.hid hz; clear hz
  have hB' : Ext WA W := hB
  have euW := eu.ext hB'
  obtain ⟨g0, g1, g2, g3⟩ := eg.cells4
  obtain ⟨u0, u1, u2, u3⟩ := euW.cells4
  obtain ⟨e0, e1⟩ := k3.cells2
  have fg := eg.frozen
  gi_wp2
  have hmx : Tryz.prog.follows .mixedOrders = true := by kernel_rfl
  have xd : Ext W W.drew := Below.drew (Below.refl _ W)
  have xA := (hwA.trans hB').trans xd
  have hm1 := (Hz.out.ext xd).has HR.out.1
  have hm2 := HU.out.ext xA
  have hm3 := HQ.out.ext xA
  have Hm := Lib.hid (And.intro hm1 (And.intro hm2 hm3)); clear hm1 hm2 hm3
  gi_region_with_o (first | (refine ⟨trivial, ?_⟩; gi_at_call 92; refine (CallsIn.inRound lp (callsIn_wide.2 (mul_q _ _ (hac (cz l) x pre) x _ Hm.out.1 Hm.out.2.1))).mono ?_; rintro e w5 ⟨r5, rfl, hr5, hx5⟩; obtain ⟨b7, A7, n7, c7, b8, A8, n8, c8, rfl⟩ := hr5.cells; have v0 := (xd.trans hx5).cell e0; have v1 := (xd.trans hx5).cell e1; have HmA := Lib.hid (Hm.out.2.2.ext hx5); have Hr5 := Lib.hid hr5; clear hr5) | (refine ⟨trivial, ?_⟩; gi_at_call 93; refine (CallsIn.inRound lp (callsIn_wide.2 (whole_q _ _ _ HmA.out))).mono ?_; rintro e w4 ⟨r4, rfl, hr4, hx4⟩; obtain ⟨b9, A9, n9, c9, b10, A10, n10, c10, rfl⟩ := hr4.cells; have HF := Lib.hid (And.intro (Hr5.out.ext hx4) (And.intro (HPl.out ▸ hr4) ((xd.trans hx5).trans hx4))); clear hr4) | (refine ⟨trivial, ?_⟩; gi_at_call 93; refine (CallsIn.inRound lp (callsIn_wide.2 (whole_q _ _ _ Hm.out.2.2))).mono ?_; rintro e w4 ⟨r4, rfl, hr4, hx4⟩; obtain ⟨b9, A9, n9, c9, b10, A10, n10, c10, rfl⟩ := hr4.cells; have y0 := (xd.trans hx4).cell g0; have y1 := (xd.trans hx4).cell g1; have y2 := (xd.trans hx4).cell g2; have y3 := (xd.trans hx4).cell g3; have t0 := (xd.trans hx4).cell u0; have t1 := (xd.trans hx4).cell u1; have t2 := (xd.trans hx4).cell u2; have t3 := (xd.trans hx4).cell u3; have HmB := Lib.hid (And.intro (Hm.out.1.ext hx4) (Hm.out.2.1.ext hx4)); have Hr4 := Lib.hid hr4; clear hr4) | (refine ⟨trivial, ?_⟩; gi_at_call 92; refine (CallsIn.inRound lp (callsIn_wide.2 (mul_q _ _ (hac (cz l) x pre) x _ HmB.out.1 HmB.out.2))).mono ?_; rintro e w5 ⟨r5, rfl, hr5, hx5⟩; obtain ⟨b7, A7, n7, c7, b8, A8, n8, c8, rfl⟩ := hr5.cells; have HF := Lib.hid (And.intro hr5 (And.intro (HPl.out ▸ Hr4.out.ext hx5) ((xd.trans hx4).trans hx5))); clear hr5) | (refine ⟨trivial, ?_⟩; gi_at_call 91; refine (CallsIn.inRound lp (callsIn_wide.2 (add_q _ _ (hac (cz l) x pre * x) (cz l p.1) _ (HF.out.1.has HR.out.2.1) (HF.out.2.1.has (Nat.le_of_lt HR.out.2.2))))).mono ?_; rintro e w6 ⟨r6, rfl, hr6, hx6⟩; obtain ⟨b11, A11, n11, c11, b12, A12, n12, c12, rfl⟩ := hr6.cells; have x6 := HF.out.2.2.trans hx6; have eg6 := eg.ext x6; have f6 := eg6.frozen; obtain ⟨s0, s1, s2, s3⟩ := eg6.cells4; have Hr6 := Lib.hid hr6; clear hr6))
  all_goals gi_wp2
  all_goals
   obtain ⟨W7, eW7, e7, U7⟩ := eg6.put4 (.bool b11) (.slice A11 n11 c11) (.bool b12) (.slice A12 n12 c12) rfl rfl rfl rfl
   have kf := kept4 W2.heap.size x6 eW7
   have kb := below4 (n₀ := WA.heap.size) (x6.mono hB'.size) eW7 (by omega)
   have kq := BoxQ.mk e7 (Hr6.out.kd U7.kd)
   rw [← hac_snoc (cz l) x pre p] at kq
   rw [← eW7]
   exact ⟨kf, ⟨kb, fun v h => upd_cell U7 (by simp; omega) (x6.cell h)⟩, kq, Below.trans hB kb⟩
 case done =>
  rintro D ys W hD rfl ⟨hi, hB⟩ hK
  rw [hac_dz (cz l) x l.length (Nat.le_refl _), Nat.sub_self, hor_zero] at hi
  obtain ⟨z1, Z1, zn, zc, z2, Z2, zn', zc', eg, hz⟩ := hi
  obtain ⟨g0, g1, g2, g3⟩ := eg.cells4
  have hB' : Ext WA W := hB
  have ezW := ez.ext hB'
  obtain ⟨z0', z1', z2', z3'⟩ := ezW.cells4
  have fz := ezW.frozen
  have eW3 := ezW.put4 (.bool z1) (.slice Z1 zn zc) (.bool z2) (.slice Z2 zn' zc') rfl rfl rfl rfl
  have hne : D ≠ w.heap.size + 1 := by have := hx2.size; omega
  have Hz := Lib.hid hz; clear hz
  gi_wp2
  obtain ⟨W3, eW3, e3, U3⟩ := eW3
  rw [← eW3]
  clear eW3
  have hK3 : W3.heap[D]? = some (.deferred (some [])) := U3.1 D _ (by simpa using hne) hK
  have e4 := e3.own (grownBy_putObj' W3 D (.deferred none)) (fun r e => by cases e; exact ⟨_, hK3, rfl⟩)
  have hx3 : Ext w W3 := U3.2.2 w (hwA.trans hB') (by simp)
  have hx4 : Ext w (W3.putObj D (.deferred none)) := Below.trans hx3 (belowK_b (w := w) (Nat.le_refl _) W3 D _ _ (by have := hx2.size; omega) hK3 rfl rfl)
  have hz4 := (Hz.out.kd U3.kd).kd (KD.own (grownBy_putObj' W3 D (.deferred none)) (fun r e => by cases e; exact ⟨_, hK3, rfl⟩))
  refine ⟨by simp, .inl ⟨_, _, rfl, run_takeDeferred hK3, ?_⟩⟩
  obtain ⟨y0, y1, y2, y3⟩ := e4.cells4
  exact ⟨_, by simp [results, Tryz.f48, go_sem, y0, y1, y2, y3], Gives.mk hz4 hx4⟩
 case stop =>
  rintro D c pre W _ _ h _
  exact h.elim
end Go.Proofs.YtfacbpnegkjcgaaGreatDoor
namespace Go.Hp
open Go.RowKit
theorem cz_rep (n : Nat) (c : Int) : cz (List.replicate n 0 ++ [c]) = mono n (c : Rat) := by
 funext i
 unfold mono
 by_cases h : i < n
 ·rw [cz_lt (by simp; omega), if_neg (by omega)]; simp [List.getElem_append_left, h]
 ·by_cases e : i = n
  ·subst e; rw [cz_lt (by simp), if_pos rfl]; simp
  ·rw [cz_ge (by simp; omega), if_neg e]
end Go.Hp
namespace Go.Proofs.YtfacbpnegkjcgaaGreatDoor
open Go.RowKit Go.Hp
end Go.Proofs.YtfacbpnegkjcgaaGreatDoor
namespace Go.Proofs.YtfacbpnegkjcgaaGreatDoor
open Go.RowKit Go.Hp
set_option maxRecDepth 20000 in
set_option maxHeartbeats 2000000 in
theorem eval_rz (v u : Value) (l : List Int) (x : Rat) (s t : Nat) (w : World) (hv : HzV 0 w v l) (hu : HasQ w u x) (hs : ∀ i, qsz (cz l i) ≤ s) (ht : qsz x ≤ t) (hK : 1 + l.length * (s + t + 1) + s + t + 1 ≤ 274877906944) (hn : l.length ≤ 549755813888) :
  Calls Tryz.prog 50 #[v, u] w (Gives w fun r w' => IsQ w' r (evn l.length (cz l) x)) := by
 have HU := Lib.hid hu
 obtain ⟨b1, A1, n1, c1, b1', A1', n1', c1', x0, y0, rfl, -⟩ := hu.form
 obtain ⟨A, c, rfl, hl, hc, hA⟩ := hv
 clear hu
 have HA : Hid (HzAt 0 w A l) := Lib.hid hA; clear hA
 have HS := Lib.hid (And.intro hs ht)
 have HH := Lib.hid (fun i => hor_qsz (x := x) hs ht l.length i)
 clear hs ht
 go_enter Tryz.func50, Tryz.ntmps50
 go_wp2_with fail
 refine Calls.mono (of_rq 0 _ (by omega) (by omega)) ?_
 rintro e w1 ⟨r1, rfl, hr1, hx1⟩
 obtain ⟨b5, A5, n5, c5, b6, A6, n6, c6, rfl⟩ := hr1.cells
 go_upto_region 2 with (fail)
 obtain ⟨W9, eW9, e9, x9⟩ := Box.made w1 61 #[.bool b5, .slice A5 n5 c5, .bool b6, .slice A6 n6 c6] (by simp [isDig])
 rw [← eW9]
 clear eW9
 have hgb : w.heap.size + 1 + 1 ≤ w1.heap.size := by have := hx1.size; simpa using this
 have eb := BoxQ.mk e9 (hr1.ext x9)
 replace hx1 := hx1.trans x9
 clear x9 hr1 e9
 generalize w1.heap.size = gb at *
 go_wp2
 go_loopw [6] (fun iv wx => ∃ (i : Nat), i ≤ l.length ∧ (∃ z : Int, z + 1 = i ∧ iv = .int .i64 z) ∧ BoxQ wx gb 61 (hor (cz l) x l.length i) ∧ Ext ((w.alloc (.cells #[.bool b1, .slice A1 n1 c1, .bool b1', .slice A1' n1' c1'] 61)).alloc (.cells #[.bool false, .slice none 0 0, .bool false, .slice none 0 0] 61)) wx) (fun iv _ => (intOf iv + 1).toNat)
 case atStart => exact ⟨l.length, Nat.le_refl _, ⟨_, by omega, rfl⟩, by rw [hor_top]; exact eb, hx1⟩
 case round =>
  clear eb hx1
  obtain ⟨i, hi, ⟨z, hz, rfl⟩, eb, hx⟩ := hrel
  obtain ⟨z1, Z1, zn, zc, z2, Z2, zn', zc', ez, hzz⟩ := eb
  have Hz := Lib.hid hzz; clear hzz
  by_cases hi0 : 0 < i
  ·obtain ⟨k, rfl⟩ : ∃ k, i = k + 1 := ⟨i - 1, by omega⟩
   obtain rfl : z = (k : Int) := by omega
   clear hz hi0
   have hkl : k < l.length := by omega
   obtain ⟨g, o, b, A2, n, c2, rfl, _, q0, q1, hq⟩ := HA.out.at_ (j := k) hkl
   replace q0 := hx.a2.cell q0
   replace q1 := hx.a2.cell q1
   have ca0 := hx.a1.box (g := w.heap.size) (i := 0) rfl rfl
   have ca1 := hx.a1.box (g := w.heap.size) (i := 1) rfl rfl
   have ca2 := hx.a1.box (g := w.heap.size) (i := 2) rfl rfl
   have ca3 := hx.a1.box (g := w.heap.size) (i := 3) rfl rfl
   have Hq := Lib.hid hq; clear hq
   have Hzk := Lib.hid (show ((l[k] : Int) : Rat) = cz l k from by rw [cz_lt hkl])
   have HR := Lib.hid (show qsz (hor (cz l) x l.length (k + 1)) ≤ 274877906944 ∧ qsz (hor (cz l) x l.length (k + 1) * x) ≤ 274877906944 ∧ qsz (cz l k) < 274877906944 by
    have h1 := HH.out (k + 1)
    have h2 := qsz_mul (hor (cz l) x l.length (k + 1)) x
    have h3 := HS.out.2
    have h4 := HS.out.1 k
    omega)
   obtain ⟨cez0, cez1, cez2, cez3⟩ := ez.cells4
   have fez := ez.frozen
   go_wp2_with fail
   refine wp_region_par (k := 9) (D := [15, 16, 17, 18, 19, 20, 21, 22, 23]) (T := [[], [], [0, 1], [], [], [3, 4], [3, 4, 5], [0, 1, 2, 3, 4, 5, 6], [0, 1, 2, 3, 4, 5, 6, 7], [0, 1, 2, 3, 4, 5, 6, 7, 8]]) (EK := [5, 3, 0, 6]) (EV := [?e1x0, ?e1x1, ?e1x2, ?e1x3]) (VL := [(kv ?v1x0), (kv ?v1x1), (fun γ => γ 2), (kv ?v1x3), (kv ?v1x4), (kv ?v1x5), (kv ?v1x6), (fun γ => γ 7), (fun γ => γ 8)]) (FL := fun γ w' => [True, True, IsQ w' (γ 2) (hor (cz l) x l.length (k + 1) * x), True, True, True, True, IsQ w' (γ 7) (cz l k), IsQ w' (γ 8) (hor (cz l) x l.length (k + 1) * x + cz l k)]) ?hE1 (by kernel_rfl) (by kernel_rfl) (by rfl) (by kernel_rfl) ?hloc1 ?hmono1 ?hstep1 ?htail1
   case hE1 => refine ⟨?_, ?_, ?_, ?_, trivial⟩ <;> (simp only [List.getElem?_toArray, List.getElem?_cons_succ, List.getElem?_cons_zero]; rfl)
   case hstep1 =>
    refine ⟨⟨⟨⟨⟨⟨⟨⟨⟨trivial, ?_⟩, ?_⟩, ?_⟩, ?_⟩, ?_⟩, ?_⟩, ?_⟩, ?_⟩, ?_⟩
    ·intro γ w' he hf; clear hf; refine ⟨trivial, ?_⟩; intro R hR
     have hc := he.cells
     have cq0 := he.cell q0
     have cq1 := he.cell q1
     have cq2 := he.cell ca0
     have cq3 := he.cell ca1
     have cq4 := he.cell ca2
     have cq5 := he.cell ca3
     have cq6 := he.cell cez0
     have cq7 := he.cell cez1
     have cq8 := he.cell cez2
     have cq9 := he.cell cez3
     go_simp
     (try go_ints); (try (rw [if_neg (by omega)])); (try (rw [if_pos (by omega)])); (try go_simp); (try go_ints)
     refine hR _ _ (Ext.refl _) ?_ trivial
     rfl
    ·intro γ w' he hf; clear hf; refine ⟨trivial, ?_⟩; intro R hR
     have hc := he.cells
     have cq0 := he.cell q0
     have cq1 := he.cell q1
     have cq2 := he.cell ca0
     have cq3 := he.cell ca1
     have cq4 := he.cell ca2
     have cq5 := he.cell ca3
     have cq6 := he.cell cez0
     have cq7 := he.cell cez1
     have cq8 := he.cell cez2
     have cq9 := he.cell cez3
     go_simp
     (try go_ints); (try (rw [if_neg (by omega)])); (try (rw [if_pos (by omega)])); (try go_simp); (try go_ints)
     refine hR _ _ (Ext.refl _) ?_ trivial
     rfl
    ·intro γ w' he hf; clear hf; refine ⟨trivial, ?_⟩; intro R hR
     go_simp
     refine Calls.mono (show Calls _ _ _ w' (Gives w' fun r w'' => IsQ w'' (r) (hor (cz l) x l.length (k + 1) * x)) from mul_rq _ _ _ _ w' ((Hz.out.ext he).has HR.out.1) (HU.out.ext (hx.a2.trans he))) ?_
     rintro e w2 ⟨v, rfl, hv, hx⟩
     exact ⟨v, rfl, hR v w2 hx rfl hv⟩
    ·intro γ w' he hf; clear hf; refine ⟨trivial, ?_⟩; intro R hR
     have hc := he.cells
     go_simp
     (try go_ints); (try (rw [if_neg (by omega)])); (try (rw [if_pos (by omega)])); (try go_simp); (try go_ints)
     refine hR _ _ (Ext.refl _) ?_ trivial
     rfl
    ·intro γ w' he hf; clear hf; refine ⟨trivial, ?_⟩; intro R hR
     have hc := he.cells
     go_simp
     (try go_ints); (try (rw [if_neg (by omega)])); (try (rw [if_pos (by omega)])); (try go_simp); (try go_ints)
     refine hR _ _ (Ext.refl _) ?_ trivial
     rfl
    ·intro γ w' he hf; clear hf; refine ⟨trivial, ?_⟩; intro R hR
     have hc := he.cells
     go_simp
     (try go_ints); (try (rw [if_neg (by omega)])); (try (rw [if_pos (by omega)])); (try go_simp); (try go_ints)
     refine hR _ _ (Ext.refl _) ?_ trivial
     rfl
    ·intro γ w' he hf; clear hf; refine ⟨trivial, ?_⟩; intro R hR
     have hc := he.cells
     have cq0 := he.cell q0
     have cq1 := he.cell q1
     have cq2 := he.cell ca0
     have cq3 := he.cell ca1
     have cq4 := he.cell ca2
     have cq5 := he.cell ca3
     have cq6 := he.cell cez0
     have cq7 := he.cell cez1
     have cq8 := he.cell cez2
     have cq9 := he.cell cez3
     go_simp
     (try go_ints); (try (rw [if_neg (by omega)])); (try (rw [if_pos (by omega)])); (try go_simp); (try go_ints)
     refine hR _ _ (Ext.refl _) ?_ trivial
     rfl
    ·intro γ w' he hf; have f2 : IsQ w' (γ 2) (hor (cz l) x l.length (k + 1) * x) := hf 2 (by decide); clear hf; refine ⟨trivial, ?_⟩; intro R hR
     go_simp
     refine Calls.mono (show Calls _ _ _ w' (Gives w' fun r w'' => IsQ w'' (r) (cz l k)) from Hzk.out ▸ whole_rq _ _ w' (Hq.out.ext (hx.a2.trans he))) ?_
     rintro e w2 ⟨v, rfl, hv, hx⟩
     exact ⟨v, rfl, hR v w2 hx rfl hv⟩
    ·intro γ w' he hf; have f2 : IsQ w' (γ 2) (hor (cz l) x l.length (k + 1) * x) := hf 2 (by decide); have f7 : IsQ w' (γ 7) (cz l k) := hf 7 (by decide); clear hf; refine ⟨trivial, ?_⟩; intro R hR
     go_simp
     refine Calls.mono (show Calls _ _ _ w' (Gives w' fun r w'' => IsQ w'' (r) (hor (cz l) x l.length (k + 1) * x + cz l k)) from add_rq _ _ _ _ w' (f2.has HR.out.2.1) (f7.has (by have := HR.out.2.2; omega)) (by have := HR.out; omega)) ?_
     rintro e w2 ⟨v, rfl, hv, hx⟩
     exact ⟨v, rfl, hR v w2 hx rfl hv⟩
   case hloc1 =>
    exact ⟨⟨⟨⟨⟨⟨⟨⟨⟨trivial, (fun γ γ' h => ⟨rfl, fun _ => rfl⟩)⟩, (fun γ γ' h => ⟨rfl, fun _ => rfl⟩)⟩, (fun γ γ' h => ⟨h 2 rfl, fun w' => (congrArg (fun a => IsQ w' (a) (hor (cz l) x l.length (k + 1) * x)) (h 2 rfl))⟩)⟩, (fun γ γ' h => ⟨rfl, fun _ => rfl⟩)⟩, (fun γ γ' h => ⟨rfl, fun _ => rfl⟩)⟩, (fun γ γ' h => ⟨rfl, fun _ => rfl⟩)⟩, (fun γ γ' h => ⟨rfl, fun _ => rfl⟩)⟩, (fun γ γ' h => ⟨h 7 rfl, fun w' => (congrArg (fun a => IsQ w' (a) (cz l k)) (h 7 rfl))⟩)⟩, (fun γ γ' h => ⟨h 8 rfl, fun w' => (congrArg (fun a => IsQ w' (a) (hor (cz l) x l.length (k + 1) * x + cz l k)) (h 8 rfl))⟩)⟩
   case hmono1 =>
    exact ⟨⟨⟨⟨⟨⟨⟨⟨⟨trivial, (fun γ wA w' e h => h)⟩, (fun γ wA w' e h => h)⟩, (fun γ wA w' e h => (show IsQ wA (γ 2) (hor (cz l) x l.length (k + 1) * x) from h).ext e)⟩, (fun γ wA w' e h => h)⟩, (fun γ wA w' e h => h)⟩, (fun γ wA w' e h => h)⟩, (fun γ wA w' e h => h)⟩, (fun γ wA w' e h => (show IsQ wA (γ 7) (cz l k) from h).ext e)⟩, (fun γ wA w' e h => (show IsQ wA (γ 8) (hor (cz l) x l.length (k + 1) * x + cz l k) from h).ext e)⟩
   intro γ w6 hx6 hF
   have p2 : IsQ w6 (γ 2) (hor (cz l) x l.length (k + 1) * x) := Each.get hF 2 (by decide)
   have p7 : IsQ w6 (γ 7) (cz l k) := Each.get hF 7 (by decide)
   have p8 : IsQ w6 (γ 8) (hor (cz l) x l.length (k + 1) * x + cz l k) := Each.get hF 8 (by decide)
   clear hF
   simp only [fillAll, gV, kv, List.getD_cons_zero, List.getD_cons_succ, Act.put, List.setIfInBounds_toArray, List.set_cons_zero, List.set_cons_succ, List.toList_toArray, List.drop_succ_cons, List.drop_zero, List.drop_nil, Nat.zero_add, Nat.reduceAdd]
   generalize γ 2 = g2 at *
   generalize γ 7 = g7 at *
   generalize γ 8 = g8 at *
   clear γ
   clear cez0 cez1 cez2 cez3 fez ca0 ca1 ca2 ca3 q0 q1 p2 p7 Hz Hq HR
   replace ez := ez.ext hx6
   replace hx := hx.trans hx6
   obtain ⟨b5, A5, n5, c5, b6, A6, n6, c6, rfl⟩ := p8.cells
   obtain ⟨cez0, cez1, cez2, cez3⟩ := ez.cells4
   have fez := ez.frozen
   go_wp2
   obtain ⟨W7, eW, ez', U⟩ := ez.put4 (.bool b5) (.slice A5 n5 c5) (.bool b6) (.slice A6 n6 c6) rfl rfl rfl rfl
   rw [← eW]
   clear eW ez
   replace p8 := p8.kd U.kd
   replace hx := U.from_ hx (by simp <;> omega)
   have ez := ez'
   clear U ez'
   clear cez0 cez1 cez2 cez3 fez hx6
   have eq := BoxQ.mk ez p8
   clear ez p8
   go_roundw
   case rel => exact ⟨k, by omega, ⟨(k : Int) - 1, by omega, by go_num⟩, by rw [hor_step _ _ hkl]; exact eq, hx⟩
   case measure => simp [intOf] <;> omega
  ·obtain rfl : i = 0 := by omega
   have hz1 : z < 0 := by omega
   rw [hor_zero] at Hz
   have Hz2 := Lib.hid hz; clear hz
   obtain ⟨cez0, cez1, cez2, cez3⟩ := ez.cells4
   have fez := ez.frozen
   have hr := Hz.out
   have hx1 := hx
   clear hx
   have hc1 := hx1.cells
   have hf1 := hx1.frozens
   have Hfin := Lib.hid (fin_q hr hx1.a2 (NoDig.at_ hx1 (g := w.heap.size + 1) (by simp) (by simp [isDig])) (by omega))
   clear hr
   go_wp2
   refine bodyPost_ret (v := .agg #[.bool z1, .slice Z1 zn zc, .bool z2, .slice Z2 zn' zc']) (by simp [results, Tryz.results50, go_sem, hc1]) rfl ?_
   exact Hfin.out
/-! ### over polynomials -/
end Go.Proofs.YtfacbpnegkjcgaaGreatDoor
namespace Go.Hp
/-- F is a multiple of G over the integers. -/
def Zdv (F G : Nat → Rat) : Prop := ∃ Q, ZI Q ∧ Fin_ Q ∧ F = cv Q G
/-- An integer times the leading coefficient. -/
theorem zdv_top {R G : Nat → Rat} {k : Nat} (hR : Fin_ R) (hG : Fin_ G) (h0 : G ≠ pz) (hs : Sup (k + pl G) R) (h : Zdv R G) : ∃ z : Int, R (k + pl G - 1) = (z : Rat) * ld G := by
 obtain ⟨Q, hz, hf, e⟩ := h
 have hp := pl_pos hG h0
 by_cases hQ : Q = pz
 ·refine ⟨0, ?_⟩
  rw [e, hQ, pz_cv]
  show (0 : Rat) = ((0 : Int) : Rat) * _
  simp
 ·have h1 := pl_cv hf hG hQ h0
  rw [← e] at h1
  have h2 := pl_le hs
  have h3 := pl_pos hf hQ
  have h4 : Sup (k + 1) Q := (pl_sup hf).mono (by omega)
  have h5 : Sup (pl G - 1 + 1) G := (pl_sup hG).mono (by omega)
  have h6 := cv_top h4 h5
  rw [← e, show k + (pl G - 1) = k + pl G - 1 from by omega] at h6
  rw [h6, hz.num k]
  exact ⟨_, rfl⟩
theorem zdv_rest {F G Q R : Nat → Rat} (hz : ZI Q) (hf : Fin_ Q) (e : F = pad (cv Q G) R) : Zdv F G ↔ Zdv R G := by
 constructor
 ·rintro ⟨P, h1, h2, h3⟩
  refine ⟨psb P Q, h1.psb hz, h2.psb hf, ?_⟩
  rw [psb_cv, ← h3, e]
  funext n; simp only [psb, pad]; grind
 ·rintro ⟨P, h1, h2, h3⟩
  refine ⟨pad Q P, hz.pad h1, hf.pad h2, ?_⟩
  rw [pad_cv, ← h3, e]
theorem zdv_pz (G : Nat → Rat) : Zdv pz G := ⟨pz, ZI.pz, Fin_.pz, (pz_cv G).symm⟩
theorem zdv_low {R G : Nat → Rat} (hR : Fin_ R) (hG : Fin_ G) (hs : pl R < pl G) : Zdv R G ↔ R = pz := by
 constructor
 ·rintro ⟨Q, h1, h2, h3⟩
  have h0 : G ≠ pz := fun e => by rw [e, pl_pz] at hs; omega
  refine Classical.byContradiction fun hn => ?_
  have hQ : Q ≠ pz := fun e => hn (by rw [h3, e, pz_cv])
  have := pl_cv h2 hG hQ h0
  rw [← h3] at this
  have := pl_pos h2 hQ
  omega
 ·rintro rfl; exact zdv_pz G
/-- One step of a division over the integers: the coefficient z is put at k. -/
def ZdSt (F G : Nat → Rat) (n s t i : Nat) (Q R : Nat → Rat) : Prop :=
 (∀ j, j < i → Q j = 0) ∧ Sup n Q ∧ Sup (i + pl G - 1) R ∧ F = pad (cv Q G) R ∧ ZI Q ∧ ZI R ∧ ∀ m, qsz (R m) ≤ s + (n - i) * (t + 1)
theorem ZdSt.start {F G : Nat → Rat} {n s t : Nat} (hF : Sup (n + pl G - 1) F) (hz : ZI F) (hs : ∀ m, qsz (F m) ≤ s) : ZdSt F G n s t n pz F :=
 ⟨fun _ _ => rfl, Sup.pz _, hF, by rw [pz_cv]; funext m; simp only [pad, pz]; grind, ZI.pz, hz, fun m => by have := hs m; omega⟩
theorem qsz_quot {z : Int} {a b : Rat} (hb : b ≠ 0) (hbz : ∃ y : Int, b = (y : Rat)) (e : a = (z : Rat) * b) : qsz (z : Rat) ≤ qsz a := by
 obtain ⟨y, rfl⟩ := hbz
 rw [e, ← Rat.intCast_mul, qsz_cast, qsz_cast]
 have hy : y ≠ 0 := fun h => hb (by rw [h]; rfl)
 have : sz z.natAbs ≤ sz (z * y).natAbs := by
  refine sz_mono ?_
  rw [Int.natAbs_mul]
  exact Nat.le_mul_of_pos_right _ (by omega)
 omega
theorem ZdSt.step {F G : Nat → Rat} {n s t k : Nat} {Q R : Nat → Rat} (hG : Fin_ G) (h0 : G ≠ pz) (zG : ZI G) (hcG : ∀ m, qsz (G m) ≤ t) (h : ZdSt F G n s t (k + 1) Q R) (hk : k < n) {z : Int} (hc : R (k + pl G - 1) = (z : Rat) * ld G) :
  ZdSt F G n s t k (pad Q (mono k (z : Rat))) (psb R (cv (mono k (z : Rat)) G)) := by
 obtain ⟨h3, h4, h5, h6, h7, h8, h9⟩ := h
 have hp := pl_pos hG h0
 have hl := ld_ne hG h0
 have hz : (z : Rat) = R (k + pl G - 1) / ld G := by rw [hc]; grind
 refine ⟨fun j hj => ?_, h4.pad ((mono_sup k _).mono (by omega)), ?_, ?_, h7.pad (ZI.mono k z), h8.psb ((ZI.mono k z).cv zG), fun m => ?_⟩
 ·show Q j + mono k (z : Rat) j = 0
  rw [h3 j (by omega), mono_off (by omega)]; grind
 ·rw [hz]; exact div_step hG h0 (h5.mono (by omega))
 ·rw [pad_cv]
  funext m
  have := congrFun h6 m
  simp only [pad, psb] at this ⊢
  grind
 ·have q1 : qsz (z : Rat) ≤ qsz (R (k + pl G - 1)) := qsz_quot hl (zG _) hc
  have q2 := h9 (k + pl G - 1)
  have e : n - k = (n - (k + 1)) + 1 := by omega
  have q3 : (n - k) * (t + 1) = (n - (k + 1)) * (t + 1) + (t + 1) := by rw [e, Nat.succ_mul]
  have q4 : qsz (cv (mono k (z : Rat)) G m) ≤ qsz (z : Rat) + t := by
   rw [mono_cv]
   show qsz ((z : Rat) * sh k G m) ≤ _
   have a1 := qsz_mul (z : Rat) (sh k G m)
   have a2 : qsz (sh k G m) ≤ max t 1 := by
    unfold sh
    split
    ·have : qsz (0 : Rat) = 1 := by decide
     omega
    ·have := hcG (m - k); omega
   have a3 : 1 ≤ t := by have := hcG 0; have : 1 ≤ qsz (G 0) := by { unfold qsz; have := sz_pos (n := (G 0).den) (by have := (G 0).den_pos; omega); omega }; omega
   omega
  have q5 := qsz_subz h8 ((ZI.mono k z).cv zG) m m
  have q6 := h9 m
  show qsz (R m - cv (mono k (z : Rat)) G m) ≤ _
  omega
theorem ZdSt.end_ {F G : Nat → Rat} {n s t : Nat} {Q R : Nat → Rat} (hF : Fin_ F) (hG : Fin_ G) (h0 : G ≠ pz) (h : ZdSt F G n s t 0 Q R) : Q = pq F G ∧ R = pr F G ∧ Sup n Q ∧ ZI Q := by
 obtain ⟨h3, h4, h5, h6, h7, h8, h9⟩ := h
 have := div_eq hF hG h0 ⟨n, h4⟩ h6 (by rwa [Nat.zero_add] at h5)
 exact ⟨this.1, this.2, h4, h7⟩
theorem ZdSt.zdv {F G : Nat → Rat} {n s t i : Nat} {Q R : Nat → Rat} (h : ZdSt F G n s t i Q R) : Zdv F G ↔ Zdv R G :=
 zdv_rest h.2.2.2.2.1 ⟨n, h.2.1⟩ h.2.2.2.1
theorem ZdSt.fin {F G : Nat → Rat} {n s t i : Nat} {Q R : Nat → Rat} (h : ZdSt F G n s t i Q R) : Fin_ R := ⟨_, h.2.2.1⟩
theorem ZdSt.no {F G : Nat → Rat} {n s t k : Nat} {Q R : Nat → Rat} (hG : Fin_ G) (h0 : G ≠ pz) (zG : ZI G) (h : ZdSt F G n s t (k + 1) Q R) (hd : ¬ (ld G).num ∣ (R (k + pl G - 1)).num) : ¬ Zdv F G := by
 intro hz
 have hp := pl_pos hG h0
 obtain ⟨z, e⟩ := zdv_top (k := k) h.fin hG h0 (h.2.2.1.mono (by omega)) (h.zdv.1 hz)
 apply hd
 rw [e, show ld G = ((ld G).num : Rat) from zG.num _, num_mul]
 exact ⟨z, by rw [Int.mul_comm]; rfl⟩
theorem ZdSt.out {F G : Nat → Rat} {n s t : Nat} {Q R : Nat → Rat} (hF : Fin_ F) (hG : Fin_ G) (h0 : G ≠ pz) (h : ZdSt F G n s t 0 Q R) : Zdv F G ↔ R = pz := by
 rw [h.zdv, zdv_low h.fin hG]
 have hp := pl_pos hG h0
 have := pl_le h.2.2.1
 omega
end Go.Hp
namespace Go.Hp
/-- D is the greatest common divisor of F and G over the integers. -/
def IsZG (F G D : Nat → Rat) : Prop := Fin_ D ∧ ZI D ∧ (D ≠ pz → 0 < ld D) ∧ cn D = Nat.gcd (cn F) (cn G) ∧ IsG F G (mn D)
structure GzSt (F0 G0 : Nat → Rat) (D S : Nat) (A B : Nat → Rat) : Prop where
 fA : Fin_ A
 fB : Fin_ B
 zA : ZI A
 zB : ZI B
 pA : pp A = A
 pB : pp B = B
 dv : ∀ E, Fin_ E → (Dv E A ∧ Dv E B ↔ Dv E F0 ∧ Dv E G0)
 deg : pl A + pl B ≤ D
 qA : ∀ i, qsz (A i) + 1 ≤ (S + 1) * 2 ^ (D - (pl A + pl B))
 qB : ∀ i, qsz (B i) + 1 ≤ (S + 1) * 2 ^ (D - (pl A + pl B))
theorem dv_psc_iff {a : Rat} (ha : a ≠ 0) {E F : Nat → Rat} : Dv E (psc a F) ↔ Dv E F :=
 ⟨fun h => by have := h.psc (1 / a); rwa [psc_inv ha] at this, fun h => h.psc a⟩
theorem dv_pp_iff {E F : Nat → Rat} (z : ZI F) (f : Fin_ F) : Dv E (pp F) ↔ Dv E F := by
 by_cases h0 : F = pz
 ·rw [h0, pp_pz]
 ·have hn : (1 : Rat) / (pcn F : Rat) ≠ 0 := inv_ne (by have := pcn_ne z f h0; exact_mod_cast this)
  exact dv_psc_iff hn
theorem GzSt.start {F G : Nat → Rat} {S : Nat} (fF : Fin_ F) (fG : Fin_ G) (zF : ZI F) (zG : ZI G) (qF : ∀ i, qsz (F i) ≤ S) (qG : ∀ i, qsz (G i) ≤ S) : GzSt F G (pl F + pl G) S (pp F) (pp G) where
 fA := pp_fin fF
 fB := pp_fin fG
 zA := pp_zi zF fF
 zB := pp_zi zG fG
 pA := pp_pp zF fF
 pB := pp_pp zG fG
 dv := fun E _ => by rw [dv_pp_iff zF fF, dv_pp_iff zG fG]
 deg := by rw [pp_pl zF fF, pp_pl zG fG]; exact Nat.le_refl _
 qA := fun i => by have := pp_qsz zF fF qF i; have h : 0 < 2 ^ (pl F + pl G - (pl (pp F) + pl (pp G))) := Nat.pow_pos (by decide); have := Nat.le_mul_of_pos_right (S + 1) h; omega
 qB := fun i => by have := pp_qsz zG fG qG i; have h : 0 < 2 ^ (pl F + pl G - (pl (pp F) + pl (pp G))) := Nat.pow_pos (by decide); have := Nat.le_mul_of_pos_right (S + 1) h; omega
theorem GzSt.room {F0 G0 A B : Nat → Rat} {D S : Nat} (h : GzSt F0 G0 D S A B) {R : Nat → Rat} (hR : R = psR A B (pl A + 1 - pl B)) :
  (∀ i, qsz (A i) ≤ (S + 1) * 2 ^ D) ∧ (∀ i, qsz (B i) ≤ (S + 1) * 2 ^ D) ∧ (∀ i, qsz (R i) + 1 ≤ (S + 1) * 2 ^ (D - (pl A + pl B) + (pl A + 1 - pl B))) := by
 have up : ∀ a : Nat, a ≤ D → (S + 1) * 2 ^ a ≤ (S + 1) * 2 ^ D := fun a ha => Nat.mul_le_mul_left _ (Nat.pow_le_pow_right (by decide) ha)
 have h1 := up (D - (pl A + pl B)) (by omega)
 refine ⟨fun i => by have := h.qA i; omega, fun i => by have := h.qB i; omega, fun i => ?_⟩
 obtain ⟨M, hM⟩ : ∃ M, M = (S + 1) * 2 ^ (D - (pl A + pl B)) := ⟨_, rfl⟩
 have hp : 0 < M := by rw [hM]; exact Nat.mul_pos (by omega) (Nat.pow_pos (by decide))
 have h2 := psR_qsz (s := M - 1) (t := M - 1) h.zA h.zB (fun i => by have := h.qA i; omega) (fun i => by have := h.qB i; omega) (pl A + 1 - pl B) i
 rw [← hR] at h2
 rw [Nat.pow_add, ← Nat.mul_assoc, ← hM]
 have h3 := two_le_pow (pl A + 1 - pl B)
 have h4 : M * (pl A + 1 - pl B + 1) ≤ M * 2 ^ (pl A + 1 - pl B) := Nat.mul_le_mul_left _ h3
 rw [Nat.mul_succ, Nat.mul_comm M] at h4
 rw [show M - 1 + 1 = M from by omega] at h2
 omega
theorem psR_fin {F G : Nat → Rat} (hF : Fin_ F) (hG : Fin_ G) (h0 : G ≠ pz) : Fin_ (psR F G (pl F + 1 - pl G)) := by
 rw [(psR_end hF hG h0).2]; exact (pr_fin hF hG).psc _
theorem psR_top {F G : Nat → Rat} (hF : Fin_ F) (hG : Fin_ G) (h0 : G ≠ pz) : pl (psR F G (pl F + 1 - pl G)) < pl G := by
 have hp := pl_pos hG h0
 have := pl_le (((pr_sup hF hG h0).psc (ld G ^ (pl F + 1 - pl G))))
 rw [← (psR_end hF hG h0).2] at this
 omega
theorem GzSt.step {F0 G0 A B : Nat → Rat} {D S : Nat} (h : GzSt F0 G0 D S A B) (h0 : B ≠ pz) {R : Nat → Rat} (hR : R = psR A B (pl A + 1 - pl B)) :
  GzSt F0 G0 D S B (pp R) ∧ pl (pp R) < pl B := by
 have hfR : Fin_ R := by rw [hR]; exact psR_fin h.fA h.fB h0
 have hzR : ZI R := by rw [hR]; exact psR_zi h.zA h.zB _
 have htop : pl R < pl B := by rw [hR]; exact psR_top h.fA h.fB h0
 have hplR := pp_pl hzR hfR
 have hq : ∀ i, qsz (R i) + 1 ≤ (S + 1) * 2 ^ (D - (pl B + pl (pp R))) ∧ pl B + pl (pp R) ≤ D := fun i => by
  rw [hplR]
  have hd := h.deg
  rcases Nat.lt_or_ge (pl A) (pl B) with a | a
  ·have e : R = A := by rw [hR, show pl A + 1 - pl B = 0 from by omega]; rfl
   rw [e]
   have := h.qA i
   rw [Nat.add_comm (pl B)]
   exact ⟨this, hd⟩
  ·have h2 := (h.room hR).2.2 i
   exact ⟨Nat.le_trans h2 (Nat.mul_le_mul_left _ (Nat.pow_le_pow_right (by decide) (by omega))), by omega⟩
 refine ⟨⟨h.fB, pp_fin hfR, h.zB, pp_zi hzR hfR, h.pB, pp_pp hzR hfR, fun E hE => ?_, (hq 0).2, fun i => ?_, fun i => ?_⟩, by omega⟩
 ·rw [dv_pp_iff hzR hfR, ← h.dv E hE]
  have hl := pow_ne (ld_ne h.fB h0) (pl A + 1 - pl B)
  rw [hR, (psR_end h.fA h.fB h0).2, dv_psc_iff hl, dv_step]
 ·have h1 := h.qB i
  have := h.deg
  have h2 := (hq 0).2
  refine Nat.le_trans h1 (Nat.mul_le_mul_left _ (Nat.pow_le_pow_right (by decide) ?_))
  rcases Nat.lt_or_ge (pl A) (pl B) with a | a
  ·have e : R = A := by rw [hR, show pl A + 1 - pl B = 0 from by omega]; rfl
   rw [hplR, e]; omega
  ·omega
 ·have h1 := pp_qsz hzR hfR (s := (S + 1) * 2 ^ (D - (pl B + pl (pp R))) - 1) (fun i => by have := (hq i).1; omega) i
  have := (hq i).1
  omega
theorem mn_psc {a : Rat} (ha : a ≠ 0) {F : Nat → Rat} (h : Fin_ F) : mn (psc a F) = mn F := by
 by_cases h0 : F = pz
 ·rw [h0, psc_pz]
 ·have hl := ld_ne h h0
  unfold mn
  rw [ld_psc ha h, psc_psc]
  congr 1
  grind
theorem psc_zero (F : Nat → Rat) : psc 0 F = pz := by funext n; simp only [psc, pz]; grind
theorem mn_eq_pz {F : Nat → Rat} (h : Fin_ F) (e : mn F = pz) : F = pz := (pl_zero h).1 (by rw [← mn_pl h, e, pl_pz])
theorem GzSt.end_ {F0 G0 A B : Nat → Rat} {D S : Nat} (h : GzSt F0 G0 D S A B) (fF : Fin_ F0) (fG : Fin_ G0) (zF : ZI F0) (zG : ZI G0) (h0 : B = pz) :
  IsZG F0 G0 (psc ((Nat.gcd (cn F0) (cn G0) : Nat) : Rat) A) := by
 have hg : IsG F0 G0 (mn A) := by
  subst h0
  exact (IsG.zero h.fA).of h.dv
 obtain ⟨c, hc⟩ : ∃ c, c = Nat.gcd (cn F0) (cn G0) := ⟨_, rfl⟩
 rw [← hc]
 by_cases hc0 : c = 0
 ·have e1 : cn F0 = 0 := Nat.eq_zero_of_gcd_eq_zero_left (hc.symm.trans hc0)
  have e2 : cn G0 = 0 := Nat.eq_zero_of_gcd_eq_zero_right (hc.symm.trans hc0)
  have z1 : F0 = pz := Classical.byContradiction fun hn => cn_ne zF fF hn e1
  have z2 : G0 = pz := Classical.byContradiction fun hn => cn_ne zG fG hn e2
  rw [hc0]
  show IsZG F0 G0 (psc ((0 : Nat) : Rat) A)
  rw [show ((0 : Nat) : Rat) = 0 from rfl, psc_zero, z1, z2]
  refine ⟨Fin_.pz, ZI.pz, fun hn => absurd rfl hn, by rw [cn_pz]; rfl, ?_⟩
  exact IsG.zero Fin_.pz
 ·have hcr : ((c : Nat) : Rat) ≠ 0 := by exact_mod_cast hc0
  have hA : A ≠ pz := fun e => by
   rw [e, mn_pz] at hg
   have z1 := dv_pz hg.2.2.1
   have z2 := dv_pz hg.2.2.2.1
   rw [z1, z2, cn_pz] at hc
   exact hc0 hc
  have e1 : cn A = 1 := by rw [← h.pA]; exact cn_pp h.zA h.fA hA
  have e2 : 0 < ld A := by rw [← h.pA]; exact pp_lead h.zA h.fA hA
  have ci : ((c : Nat) : Rat) = (((c : Nat) : Int) : Rat) := rfl
  refine ⟨h.fA.psc _, by rw [ci]; exact h.zA.psc _, fun _ => ?_, ?_, by rw [mn_psc hcr h.fA]; exact hg⟩
  ·rw [ld_psc hcr h.fA]
   refine Rat.mul_pos ?_ e2
   exact_mod_cast Nat.pos_of_ne_zero hc0
  ·rw [ci, cn_psc (by exact_mod_cast hc0) h.zA h.fA, e1, ← hc]; simp
theorem IsZG.uniq {F G D E : Nat → Rat} (h : IsZG F G D) (k : IsZG F G E) : D = E := by
 obtain ⟨f1, z1, l1, c1, g1⟩ := h
 obtain ⟨f2, z2, l2, c2, g2⟩ := k
 have e := g1.uniq g2
 by_cases hD : D = pz
 ·have : E = pz := mn_eq_pz f2 (by rw [← e, hD, mn_pz])
  rw [hD, this]
 have hE : E ≠ pz := fun hE => hD (mn_eq_pz f1 (by rw [e, hE, mn_pz]))
 have hcD := cn_ne z1 f1 hD
 -- E = a D with a positive; the contents agree
 have lD := l1 hD; have lE := l2 hE
 have hDl := ld_ne f1 hD; have hEl := ld_ne f2 hE
 have e1 : psc (ld E) D = psc (ld D) E := by
  funext n
  have := congrFun e n
  show ld E * D n = ld D * E n
  simp only [mn, psc] at this
  have h1 : ld D * ld E * (1 / ld D * D n) = ld D * ld E * (1 / ld E * E n) := by rw [this]
  grind
 obtain ⟨x, hx⟩ : ∃ x : Int, ld D = (x : Rat) := z1 _
 obtain ⟨y, hy⟩ : ∃ y : Int, ld E = (y : Rat) := z2 _
 have hx0 : 0 < x := by rw [hx] at lD; exact_mod_cast lD
 have hy0 : 0 < y := by rw [hy] at lE; exact_mod_cast lE
 have e2 : cn (psc (ld E) D) = cn (psc (ld D) E) := by rw [e1]
 rw [hx, hy, cn_psc (by omega) z1 f1, cn_psc (by omega) z2 f2, c1, c2, ← c1] at e2
 have e3 : y.natAbs = x.natAbs := Nat.eq_of_mul_eq_mul_right (Nat.pos_of_ne_zero hcD) e2
 have e4 : x = y := by omega
 have : ld D = ld E := by rw [hx, hy, e4]
 rw [this] at e1
 funext n
 have := congrFun e1 n
 simp only [psc] at this
 grind
theorem zi_quot {F Q D : Nat → Rat} (zF : ZI F) (fF : Fin_ F) (zD : ZI D) (fD : Fin_ D) (hD : D ≠ pz) (fQ : Fin_ Q) (e : F = cv Q D) (hc : cn D ∣ cn F) : ZI Q := by
 obtain ⟨n, hs⟩ := fQ
 have fQ : Fin_ Q := ⟨n, hs⟩
 have zC := clr_zi hs
 have fC := clr_fin (n := n) fQ
 have e1 : psc (((dl n Q : Nat) : Int) : Rat) F = cv (clr n Q) D := by
  rw [e]; unfold clr; rw [psc_cv]; rfl
 have hdl := dl_pos Q n
 have e2 : cn (psc (((dl n Q : Nat) : Int) : Rat) F) = cn (cv (clr n Q) D) := by rw [e1]
 rw [cn_psc (by omega) zF fF, gauss zC zD fC fD, Int.natAbs_natCast] at e2
 obtain ⟨m, hm⟩ := hc
 have hcD := Nat.pos_of_ne_zero (cn_ne zD fD hD)
 have e3 : dl n Q * m = cn (clr n Q) := by
  refine Nat.eq_of_mul_eq_mul_right hcD ?_
  rw [← e2, hm, Nat.mul_assoc, Nat.mul_comm m]
 intro i
 have h1 := cn_dvd fC i
 have h2 : ((dl n Q : Nat) : Int) ∣ (clr n Q i).num := Int.dvd_trans ⟨(m : Int), by rw [← e3]; simp⟩ h1
 obtain ⟨k, hk⟩ := h2
 refine ⟨k, ?_⟩
 have h3 := zC.num i
 rw [hk, Rat.intCast_mul] at h3
 have h4 : clr n Q i = ((dl n Q : Nat) : Rat) * Q i := rfl
 rw [h4] at h3
 have h5 := dl_ne n Q
 have h6 : (((dl n Q : Nat) : Int) : Rat) = ((dl n Q : Nat) : Rat) := rfl
 rw [h6] at h3
 grind
theorem IsZG.zdv {F G D : Nat → Rat} (h : IsZG F G D) (zF : ZI F) (fF : Fin_ F) (hD : D ≠ pz) : Zdv F D := by
 obtain ⟨f1, z1, l1, c1, g1⟩ := h
 obtain ⟨Q, fQ, e⟩ := g1.2.2.1
 have e1 : F = cv (psc (1 / ld D) Q) D := by rw [e]; unfold mn; rw [cv_psc, psc_cv]
 exact ⟨_, zi_quot zF fF z1 f1 hD (fQ.psc _) e1 (by rw [c1]; exact Nat.gcd_dvd_left _ _), fQ.psc _, e1⟩
theorem bez_ex : ∀ (n : Nat) {F G : Nat → Rat}, Fin_ F → Fin_ G → pl G ≤ n → ∃ U V D, Fin_ U ∧ Fin_ V ∧ IsG F G D ∧ pad (cv U F) (cv V G) = D := by
 intro n
 induction n with
 | zero =>
  intro F G fF fG hn
  have : G = pz := (pl_zero fG).1 (by omega)
  subst this
  refine ⟨psc (1 / ld F) pone, pz, mn F, Fin_.psc _ ⟨1, (Sup.pz 0).cs 1⟩, Fin_.pz, IsG.zero fF, ?_⟩
  rw [psc_cv, pone_cv, pz_cv]
  funext m; simp only [pad, pz, mn]; grind
 | succ n ih =>
  intro F G fF fG hn
  by_cases h0 : G = pz
  ·exact ih fF fG (by rw [h0, pl_pz]; omega)
  ·have hp := pl_pos fG h0
   have hr := pl_le (pr_sup fF fG h0)
   obtain ⟨U, V, D, fU, fV, hg, e⟩ := ih fG (pr_fin fF fG) (by omega)
   refine ⟨V, psb U (cv V (pq F G)), D, fV, fU.psb (fV.cv (pq_fin F G)), hg.of fun E hE => dv_step, ?_⟩
   rw [← e]
   have e1 : cv V F = pad (cv V (cv (pq F G) G)) (cv V (pr F G)) := by
    have h2 : cv V F = cv V (pad (cv (pq F G) G) (pr F G)) := by rw [← pq_pr F G]
    rw [h2, cv_pad]
   rw [e1, psb_cv, cv_assoc]
   funext m; simp only [pad, psb]; grind
theorem IsG.bez {F G D : Nat → Rat} (fF : Fin_ F) (fG : Fin_ G) (h : IsG F G D) : ∃ U V, Fin_ U ∧ Fin_ V ∧ pad (cv U F) (cv V G) = D := by
 obtain ⟨U, V, D', fU, fV, hg, e⟩ := bez_ex (pl G) fF fG (Nat.le_refl _)
 exact ⟨U, V, fU, fV, by rw [h.uniq hg]; exact e⟩
theorem Dv.cvr {D F : Nat → Rat} (h : Dv D F) (H : Nat → Rat) : Dv (Hp.cv D H) (Hp.cv F H) := by
 obtain ⟨Q, fQ, e⟩ := h
 exact ⟨Q, fQ, by rw [e, cv_assoc]⟩
theorem isG_common {F G D H P : Nat → Rat} (fF : Fin_ F) (fG : Fin_ G) (fH : Fin_ H) (h : IsG F G (mn D)) (fD : Fin_ D) {a : Rat} (ha : a ≠ 0) (hP : P = psc a (cv D H)) : IsG (cv F H) (cv G H) (mn P) := by
 have fP : Fin_ P := by rw [hP]; exact (fD.cv fH).psc a
 refine ⟨mn_fin fP, fun hn => mn_ld fP (fun e => hn (by rw [e, mn_pz])), ?_, ?_, fun E hE k1 k2 => ?_⟩
 ·have h1 : Dv (cv D H) (cv F H) := ((dv_mn D).trans h.2.2.1).cvr H
  have h2 : Dv (mn P) (cv D H) := by
   rw [hP, mn_psc ha (fD.cv fH)]; exact mn_dv (fD.cv fH)
  exact h2.trans h1
 ·have h1 : Dv (cv D H) (cv G H) := ((dv_mn D).trans h.2.2.2.1).cvr H
  have h2 : Dv (mn P) (cv D H) := by
   rw [hP, mn_psc ha (fD.cv fH)]; exact mn_dv (fD.cv fH)
  exact h2.trans h1
 ·obtain ⟨U, V, fU, fV, e⟩ := h.bez fF fG
  have h1 : Dv E (cv (mn D) H) := by
   rw [← e, pad_cv, cv_assoc, cv_assoc]
   exact (k1.mul fU).pad (k2.mul fV)
  have h2 : Dv E (cv D H) := by
   obtain ⟨Q, fQ, e2⟩ := mn_dv fD
   rw [e2, cv_assoc]; exact h1.mul fQ
  rw [dv_mn_iff fP, hP, dv_psc_iff ha]; exact h2
theorem IsZG.common {F G D H E : Nat → Rat} (fF : Fin_ F) (fG : Fin_ G) (zF : ZI F) (zG : ZI G) (fH : Fin_ H) (zH : ZI H) (h : IsZG F G D) (k : IsZG (cv F H) (cv G H) E) : E = cv D H ∨ E = psc ((-1 : Int) : Rat) (cv D H) := by
 obtain ⟨f1, z1, l1, c1, g1⟩ := h
 have hcn : ∀ a : Int, a.natAbs = 1 → cn (psc (a : Rat) (cv D H)) = Nat.gcd (cn (cv F H)) (cn (cv G H)) := fun a ha => by
  rw [cn_psc (by omega) (z1.cv zH) (f1.cv fH), ha, Nat.one_mul, gauss z1 zH f1 fH, gauss zF zH fF fH, gauss zG zH fG fH, c1, Nat.gcd_mul_right]
 have key : ∀ a : Int, a.natAbs = 1 → (cv D H ≠ pz → 0 < (a : Rat) * ld (cv D H)) → E = psc (a : Rat) (cv D H) := fun a ha hl => by
  have ha0 : (a : Rat) ≠ 0 := by
   have : a ≠ 0 := by omega
   exact_mod_cast this
  refine k.uniq ⟨(f1.cv fH).psc _, (z1.cv zH).psc a, fun hn => ?_, hcn a ha, isG_common fF fG fH g1 f1 ha0 rfl⟩
  rw [ld_psc ha0 (f1.cv fH)]
  exact hl fun e => hn (by rw [e, psc_pz])
 by_cases hp : 0 < ld (cv D H)
 ·refine .inl ?_
  have := key 1 rfl (fun _ => by simpa using hp)
  rwa [show (((1 : Int)) : Rat) = 1 from rfl, psc_one] at this
 ·refine .inr (key (-1) rfl (fun hn => ?_))
  have := ld_ne (f1.cv fH) hn
  have e : (((-1 : Int)) : Rat) = -1 := rfl
  rw [e]
  have h2 : ld (cv D H) < 0 := Rat.lt_of_le_of_ne (Rat.not_lt.1 hp) this
  grind
theorem GzSt.run {F0 G0 : Nat → Rat} {D S : Nat} : ∀ (n : Nat) {A B : Nat → Rat}, GzSt F0 G0 D S A B → pl B ≤ n → ∃ A', GzSt F0 G0 D S A' pz := by
 intro n
 induction n with
 | zero =>
  intro A B h hn
  have : B = pz := (pl_zero h.fB).1 (by omega)
  subst this
  exact ⟨A, h⟩
 | succ n ih =>
  intro A B h hn
  by_cases h0 : B = pz
  ·subst h0; exact ⟨A, h⟩
  ·obtain ⟨h1, h2⟩ := h.step h0 rfl
   exact ih h1 (by omega)
theorem one_le_qsz (q : Rat) : 1 ≤ qsz q := by
 unfold qsz
 have := sz_pos (n := q.den) (by have := q.den_pos; omega)
 omega
end Go.Hp
namespace Go.Hp
theorem zi_cd {F : Nat → Rat} {s : Nat} (z : ZI F) (h : ∀ i, qsz (F i) ≤ s) : CD s F := by
  have h1 := one_le_qsz (F 0)
  have h2 := h 0
  refine ⟨1, bp s - 1, ⟨by omega, fun i => ⟨(F i).num, ?_, ?_⟩⟩, ?_, ?_⟩
  · have e : ((1 : Nat) : Rat) = 1 := rfl
    rw [e, ← z.num i]; grind
  · have h3 := Nat.le_trans (qsz_nm (F i)) (h i)
    have h4 := sz_le_iff.1 h3
    omega
  · have : sz 1 = 1 := by decide
    omega
  · have : 0 < bp s := by have := sz_le_iff.1 (show sz 0 ≤ s by have : sz 0 = 0 := by decide
                                                                omega); omega
    exact sz_le_of_lt (by omega)
theorem cvz_qsz {F G : Nat → Rat} {n s t : Nat} (zF : ZI F) (zG : ZI G) (hs : Sup n F) (hn : n < 4294967296) (h : ∀ i, qsz (F i) ≤ s) (k : ∀ i, qsz (G i) ≤ t) (i : Nat) : qsz (cv F G i) ≤ s + t + 1 :=
 (CD.cv hs hn (zi_cd zF h) (zi_cd zG k)).elem i
end Go.Hp
namespace Go.Hp
/-- k steps of Horner's scheme for F (of n coefficients) at G. -/
def cpd (F G : Nat → Rat) (n : Nat) : Nat → Nat → Rat
 | 0 => pz
 | k + 1 => pad (cv (cpd F G n k) G) (mono 0 (F (n - 1 - k)))
theorem cpd_zi {F G : Nat → Rat} (zF : ZI F) (zG : ZI G) (n : Nat) : ∀ k, ZI (cpd F G n k)
 | 0 => ZI.pz
 | k + 1 => ((cpd_zi zF zG n k).cv zG).pad (by rw [zF.num (n - 1 - k)]; exact ZI.mono 0 _)
theorem cpd_sup {F G : Nat → Rat} {d : Nat} (sG : Sup (d + 1) G) (n : Nat) : ∀ k, Sup (k * d + 1) (cpd F G n k)
 | 0 => Sup.pz _
 | k + 1 => (((cpd_sup sG n k).cv sG).mono (by rw [Nat.succ_mul]; omega)).pad ((mono_sup 0 _).mono (by omega))
theorem mono_qsz {s : Nat} {a : Rat} (h : qsz a ≤ s) (i : Nat) : qsz (mono 0 a i) ≤ s := by
 unfold mono
 split
 ·exact h
 ·rw [qsz_zero]; have := qsz_pos a; omega
theorem cpd_qsz {F G : Nat → Rat} {d n s t : Nat} (zF : ZI F) (zG : ZI G) (sG : Sup (d + 1) G) (hs : ∀ i, qsz (F i) ≤ s) (ht : ∀ i, qsz (G i) ≤ t) : ∀ k, k * d + 1 < 4294967296 → ∀ i, qsz (cpd F G n k i) ≤ s + 1 + k * (t + 2)
 | 0, _, i => by show qsz 0 ≤ _; rw [qsz_zero]; omega
 | k + 1, h, i => by
  have h' : k * d + 1 < 4294967296 := by rw [Nat.succ_mul] at h; omega
  have h1 := cvz_qsz (cpd_zi zF zG n k) zG (cpd_sup sG n k) h' (cpd_qsz zF zG sG hs ht k h') ht i
  have h2 := mono_qsz (hs (n - 1 - k)) i
  have h3 := qsz_addz ((cpd_zi zF zG n k).cv zG) (show ZI (mono 0 (F (n - 1 - k))) by rw [zF.num (n - 1 - k)]; exact ZI.mono 0 _) i i
  show qsz (cv (cpd F G n k) G i + mono 0 (F (n - 1 - k)) i) ≤ _
  rw [Nat.succ_mul]
  omega
theorem cpd_fin {F G : Nat → Rat} (fG : Fin_ G) (n k : Nat) : Fin_ (cpd F G n k) := by
 obtain ⟨d, h⟩ := fG
 exact ⟨_, cpd_sup (d := d) (h.mono (by omega)) n k⟩
theorem ev_mono0 (a x : Rat) : ev (mono 0 a) x = a := by
 rw [ev_eq (mono_sup 0 a)]
 show mono 0 a 0 + x * 0 = a
 unfold mono
 rw [if_pos rfl]; grind
/-- Evaluation commutes with composition. -/
theorem cpd_ev {F G : Nat → Rat} (fG : Fin_ G) (n : Nat) (x : Rat) : ∀ k, k ≤ n → ev (cpd F G n k) x = hor F (ev G x) n (n - k)
 | 0, _ => by
  rw [Nat.sub_zero, hor_top]
  show ev pz x = 0
  rw [ev_eq (Sup.pz 0)]; rfl
 | k + 1, h => by
  have h1 := cpd_ev (F := F) fG n x k (by omega)
  show ev (pad (cv (cpd F G n k) G) (mono 0 (F (n - 1 - k)))) x = _
  rw [ev_pad ((cpd_fin fG n k).cv fG) ⟨1, mono_sup 0 _⟩, ev_cv (cpd_fin fG n k) fG, ev_mono0, h1, hor_step F (ev G x) (show n - (k + 1) < n by omega), show n - (k + 1) + 1 = n - k from by omega, show n - 1 - k = n - (k + 1) from by omega]
theorem cpd_val {F G : Nat → Rat} (fF : Fin_ F) (fG : Fin_ G) (x : Rat) : ev (cpd F G (pl F) (pl F)) x = ev F (ev G x) := by
 rw [cpd_ev fG (pl F) x (pl F) (Nat.le_refl _), Nat.sub_self, hor_zero]
 rfl
end Go.Hp
namespace Go.Proofs.YtfacbpnegkjcgaaGreatDoor
open Go.RowKit Go.Hp
def TupC (F : Nat → Rat) (r : Value) (w : World) : Prop := ∃ q, r = .tuple #[q, .int .i64 0] ∧ IsZP 0 w q F
set_option maxRecDepth 20000 in
set_option maxHeartbeats 8000000 in
theorem compose_rz (v u : Value) (l m : List Int) (s t : Nat) (w : World) (hv : HzV 0 w v l) (hu : HzV 0 w u m) (hs : ∀ i, qsz (cz l i) ≤ s) (ht : ∀ i, qsz (cz m i) ≤ t) (hl : l.length ≤ 100) (hm : m.length ≤ 100) (hs9 : s ≤ 1000) (ht9 : t ≤ 1000)
  (hd : ¬ (1 < pl (cz l) ∧ 1 < pl (cz m) ∧ (64 : Int) / ((pl (cz m) : Int) - 1) < (pl (cz l) : Int) - 1)) :
  Calls Tryz.prog 47 #[v, u] w (Gives w (TupC (cpd (cz l) (cz m) (pl (cz l)) (pl (cz l))))) := by
 have HV := Lib.hid hv; have HU := Lib.hid hu
 obtain ⟨A, c, rfl⟩ := hv.len
 obtain ⟨E, d, rfl⟩ := hu.len
 clear hv hu
 have hp0 : pl (cz l) ≤ 100 := Nat.le_trans (pl_le (cz_sup l)) hl
 have hq0 : pl (cz m) ≤ 100 := Nat.le_trans (pl_le (cz_sup m)) hm
 have sG : Sup (99 + 1) (cz m) := (cz_sup m).mono (by omega)
 have hB : ∀ k, k ≤ 100 → ∀ i, qsz (cpd (cz l) (cz m) (pl (cz l)) k i) ≤ 101301 := fun k hk i => by
  have h1 := cpd_qsz (n := pl (cz l)) (ZI.cz l) (ZI.cz m) sG hs ht k (by have : k * 99 ≤ 100 * 99 := Nat.mul_le_mul_right _ hk; omega) i
  have h2 : k * (t + 2) ≤ 100 * 1002 := Nat.mul_le_mul hk (by omega)
  omega
 have hP : ∀ k, k ≤ 100 → pl (cpd (cz l) (cz m) (pl (cz l)) k) ≤ 9901 := fun k hk => Nat.le_trans (pl_le (cpd_sup sG (pl (cz l)) k)) (by have : k * 99 ≤ 100 * 99 := Nat.mul_le_mul_right _ hk; omega)
 have hdeg := fun W (x : Ext w W) => And.intro (degree_rz _ l W (HV.out.ext x) (by omega)) (degree_rz _ m W (HU.out.ext x) (by omega))
 have hmul : ∀ k, k ≤ pl (cz l) → ∀ W (x : Ext w W) z, IsZP 0 W z (cpd (cz l) (cz m) (pl (cz l)) k) → Calls Tryz.prog 40 #[z, .slice E m.length d] W (Gives W fun r w' => IsZP 0 w' r (cv (cpd (cz l) (cz m) (pl (cz l)) k) (cz m))) := fun k hk W x z hz => by
  obtain ⟨o, g1, g2, -, g4⟩ := hz.hz (fun i => by have := hB k (by omega) i; omega)
  rw [← g4]
  have hP' := hP k (by omega)
  refine Gives.imp (mul_rzp z _ o m 101301 t W g1 (HU.out.ext x) (by rw [g4]; exact hB k (by omega)) ht ?_ (by omega) (by omega)) fun _ _ h => h.base_le (Nat.zero_le _)
  have : (o.length + m.length) * (101301 + t + 1) ≤ 10001 * 102302 := Nat.mul_le_mul (by omega) (by omega)
  omega
 have hadd : ∀ k, k ≤ pl (cz l) → ∀ W z y j, j = pl (cz l) - 1 - k → IsZP 0 W z (cv (cpd (cz l) (cz m) (pl (cz l)) k) (cz m)) → HzV 0 W y [(cz l j).num] → Calls Tryz.prog 37 #[z, y] W (Gives W fun r w' => IsZP 0 w' r (cpd (cz l) (cz m) (pl (cz l)) (k + 1))) := fun k hk W z y j hj hz hy => by
  have hcq : ∀ i, qsz (cv (cpd (cz l) (cz m) (pl (cz l)) k) (cz m) i) ≤ 102302 := fun i => by
   have := cvz_qsz (cpd_zi (ZI.cz l) (ZI.cz m) (pl (cz l)) k) (ZI.cz m) (cpd_sup sG (pl (cz l)) k) (by have : k * 99 ≤ 100 * 99 := Nat.mul_le_mul_right _ (by omega); omega) (hB k (by omega)) ht i
   omega
  obtain ⟨o, g1, g2, -, g4⟩ := hz.hz (fun i => by have := hcq i; omega)
  have e1 : cz [(cz l j).num] = mono 0 (cz l (pl (cz l) - 1 - k)) := by
   have := cz_rep 0 (cz l j).num
   rw [List.replicate_zero, List.nil_append] at this
   rw [this, ← (ZI.cz l).num j, hj]
  have e2 : cpd (cz l) (cz m) (pl (cz l)) (k + 1) = pad (cz o) (cz [(cz l j).num]) := by rw [g4, e1]; rfl
  rw [e2]
  have hpo : o.length ≤ 10001 := by
   rw [g2]
   have h1 := pl_le ((cpd_sup (F := cz l) sG (pl (cz l)) k).cv sG)
   have : k * 99 ≤ 100 * 99 := Nat.mul_le_mul_right _ (by omega)
   omega
  refine Gives.imp (add_rzp z y o [(cz l j).num] 102302 s W g1 hy (by rw [g4]; exact hcq) (by rw [e1]; exact mono_qsz (hs _)) (by omega) (by omega) (by simp)) fun _ _ h => h.base_le (Nat.zero_le _)
 have hat := fun (j : Nat) (hj : j ≤ 100) W (x : Ext w W) => at_rz _ l j W (HV.out.ext x) (by omega)
 obtain ⟨F, hF⟩ : ∃ F, F = cz l := ⟨_, rfl⟩
 obtain ⟨G, hG⟩ : ∃ G, G = cz m := ⟨_, rfl⟩
 simp only [← hF, ← hG] at hmul hadd hat hs hdeg hd hp0 hq0 ⊢
 obtain ⟨N, hN⟩ : ∃ N, N = pl F := ⟨_, rfl⟩
 simp only [← hN] at hmul hadd hdeg hd hp0 ⊢
 obtain ⟨Q, hQ⟩ : ∃ Q, Q = pl G := ⟨_, rfl⟩
 simp only [← hQ] at hdeg hd hq0
 have HC := Lib.hid (And.intro hmul (And.intro hat (And.intro hadd (And.intro hs hdeg))))
 have HD := Lib.hid hd
 clear hmul hat hadd hdeg hB hP sG HV HU hF hG hN hQ hd hs ht
 obtain ⟨a, ha⟩ : ∃ a : Int, a = (N : Int) - 1 := ⟨_, rfl⟩
 obtain ⟨b, hb⟩ : ∃ b : Int, b = (Q : Int) - 1 := ⟨_, rfl⟩
 rw [← ha, ← hb] at HC HD
 have haN : a + 1 = N := by omega
 have hbQ : b + 1 = Q := by omega
 clear ha hb
 go_enter Tryz.func47, Tryz.ntmps47
 have hx := Ext.refl w
 go_wp2_with fail
 refine Calls.mono (HC.out.2.2.2.2 _ hx).1 ?_
 rintro e w1 ⟨r1, rfl, rfl, hx1⟩
 replace hx := hx.trans hx1
 clear hx1
 go_wp2_with fail
 refine Calls.mono (HC.out.2.2.2.2 _ hx).2 ?_
 rintro e w2 ⟨r2, rfl, rfl, hx2⟩
 replace hx := hx.trans hx2
 clear hx2
 by_cases h1 : 1 ≤ a
 ·by_cases h2 : 1 ≤ b
  ·have h3 : ¬ ((64 : Int) / b < a) := fun q => HD.out ⟨by omega, by omega, q⟩
   have h4 : 0 ≤ (64 : Int) / b := Int.ediv_nonneg (by omega) (by omega)
   have h5 : (64 : Int) / b ≤ 64 := Int.ediv_le_self _ (by omega)
   have h6 : Int.tdiv 64 b = 64 / b := Int.tdiv_eq_ediv_of_nonneg (by omega)
   generalize (64 : Int) / b = q at *
   go_wp2
   go_loopw [8, 9] (fun ov iv wr => ∃ (k : Nat) (z : Int), k ≤ N ∧ z + 1 + k = N ∧ iv = .int .i64 z ∧ IsZP 0 wr ov (cpd F G N k) ∧ Ext w wr) (fun _ iv _ => (intOf iv + 1).toNat)
   case atStart => exact ⟨0, a, Nat.zero_le _, by omega, rfl, IsZP.nil _ _, hx⟩
   case round =>
    clear hx
    obtain ⟨k, z, hk, hz, rfl, hown, hx⟩ := hrel
    have Hown := Lib.hid hown; clear hown
    by_cases hkN : k < N
    ·obtain ⟨j, hj⟩ : ∃ j : Nat, z = j := ⟨z.toNat, by omega⟩
     have hjk : j = N - 1 - k := by omega
     subst hj
     have HJ := Lib.hid hjk; clear hjk
     have hj100 : j ≤ 100 := by omega
     have hz' : (0 : Int) ≤ (j : Int) := by omega
     go_wp2_with fail
     refine Calls.mono (HC.out.1 k hk _ hx _ Hown.out) ?_
     rintro e w3 ⟨r3, rfl, hr3, hx3⟩
     have Hr3 := Lib.hid hr3
     replace hx := hx.trans hx3
     clear hr3 hx3 Hown
     go_wp2_with fail
     refine Calls.mono (HC.out.2.1 j hj100 _ hx) ?_
     rintro e w4 ⟨r4, rfl, hr4, hx4⟩
     obtain ⟨b5, A5, n5, c5, rfl⟩ := hr4.cells
     have xa := (Ext.refl w4).alloc (.cells #[.bool b5, .slice A5 n5 c5] 28)
     have Hr4 := Lib.hid (And.intro (Hr3.out.ext (hx4.trans xa)) hr4)
     replace hx := hx.trans (hx4.trans xa)
     clear hr4 hx4 xa Hr3
     go_wp2_with fail
     have hzrow : HzV 0 (w4.alloc (.cells #[.bool b5, .slice A5 n5 c5] 28)) (.slice (some ⟨w4.heap.size, 0, none⟩) 1 1) [(F j).num] :=
      ZsV.has (OwnZ.row (NewZ.own (NewZ.mk Hr4.out.2 (base := 0) (Nat.zero_le _) 28))) (fun x hx => by
       simp at hx; subst hx
       have h1 := qz_num (HC.out.2.2.2.1 j)
       omega)
     have HZr := Lib.hid hzrow; clear hzrow
     refine Calls.mono (HC.out.2.2.1 k hk _ _ _ j HJ.out Hr4.out.1 HZr.out) ?_
     rintro e w6 ⟨r6, rfl, hr6, hx6⟩
     replace hx := hx.trans hx6
     have Hr6 := Lib.hid hr6
     clear hr6 hx6 HZr Hr4 HJ
     go_wp2
     go_roundw
     case rel => exact ⟨k + 1, (j : Int) - 1, by omega, by omega, by go_num, Hr6.out, hx⟩
     case measure => simp [intOf] <;> omega
    ·obtain rfl : N = k := by omega
     have hz' : ¬ (0 : Int) ≤ z := by omega
     go_wp2
     refine bodyPost_ret (v := .tuple #[u8, .int .i64 0]) (by simp [results, Tryz.results47, go_sem]) rfl ?_
     exact Gives.mk ⟨_, rfl, Hown.out⟩ hx
  ·skip
   go_wp2
   go_loopw [8, 9] (fun ov iv wr => ∃ (k : Nat) (z : Int), k ≤ N ∧ z + 1 + k = N ∧ iv = .int .i64 z ∧ IsZP 0 wr ov (cpd F G N k) ∧ Ext w wr) (fun _ iv _ => (intOf iv + 1).toNat)
   case atStart => exact ⟨0, a, Nat.zero_le _, by omega, rfl, IsZP.nil _ _, hx⟩
   case round =>
    clear hx
    obtain ⟨k, z, hk, hz, rfl, hown, hx⟩ := hrel
    have Hown := Lib.hid hown; clear hown
    by_cases hkN : k < N
    ·obtain ⟨j, hj⟩ : ∃ j : Nat, z = j := ⟨z.toNat, by omega⟩
     have hjk : j = N - 1 - k := by omega
     subst hj
     have HJ := Lib.hid hjk; clear hjk
     have hj100 : j ≤ 100 := by omega
     have hz' : (0 : Int) ≤ (j : Int) := by omega
     go_wp2_with fail
     refine Calls.mono (HC.out.1 k hk _ hx _ Hown.out) ?_
     rintro e w3 ⟨r3, rfl, hr3, hx3⟩
     have Hr3 := Lib.hid hr3
     replace hx := hx.trans hx3
     clear hr3 hx3 Hown
     go_wp2_with fail
     refine Calls.mono (HC.out.2.1 j hj100 _ hx) ?_
     rintro e w4 ⟨r4, rfl, hr4, hx4⟩
     obtain ⟨b5, A5, n5, c5, rfl⟩ := hr4.cells
     have xa := (Ext.refl w4).alloc (.cells #[.bool b5, .slice A5 n5 c5] 28)
     have Hr4 := Lib.hid (And.intro (Hr3.out.ext (hx4.trans xa)) hr4)
     replace hx := hx.trans (hx4.trans xa)
     clear hr4 hx4 xa Hr3
     go_wp2_with fail
     have hzrow : HzV 0 (w4.alloc (.cells #[.bool b5, .slice A5 n5 c5] 28)) (.slice (some ⟨w4.heap.size, 0, none⟩) 1 1) [(F j).num] :=
      ZsV.has (OwnZ.row (NewZ.own (NewZ.mk Hr4.out.2 (base := 0) (Nat.zero_le _) 28))) (fun x hx => by
       simp at hx; subst hx
       have h1 := qz_num (HC.out.2.2.2.1 j)
       omega)
     have HZr := Lib.hid hzrow; clear hzrow
     refine Calls.mono (HC.out.2.2.1 k hk _ _ _ j HJ.out Hr4.out.1 HZr.out) ?_
     rintro e w6 ⟨r6, rfl, hr6, hx6⟩
     replace hx := hx.trans hx6
     have Hr6 := Lib.hid hr6
     clear hr6 hx6 HZr Hr4 HJ
     go_wp2
     go_roundw
     case rel => exact ⟨k + 1, (j : Int) - 1, by omega, by omega, by go_num, Hr6.out, hx⟩
     case measure => simp [intOf] <;> omega
    ·obtain rfl : N = k := by omega
     have hz' : ¬ (0 : Int) ≤ z := by omega
     go_wp2
     refine bodyPost_ret (v := .tuple #[u8, .int .i64 0]) (by simp [results, Tryz.results47, go_sem]) rfl ?_
     exact Gives.mk ⟨_, rfl, Hown.out⟩ hx
 ·skip
  go_wp2
  go_loopw [8, 9] (fun ov iv wr => ∃ (k : Nat) (z : Int), k ≤ N ∧ z + 1 + k = N ∧ iv = .int .i64 z ∧ IsZP 0 wr ov (cpd F G N k) ∧ Ext w wr) (fun _ iv _ => (intOf iv + 1).toNat)
  case atStart => exact ⟨0, a, Nat.zero_le _, by omega, rfl, IsZP.nil _ _, hx⟩
  case round =>
   clear hx
   obtain ⟨k, z, hk, hz, rfl, hown, hx⟩ := hrel
   have Hown := Lib.hid hown; clear hown
   by_cases hkN : k < N
   ·obtain ⟨j, hj⟩ : ∃ j : Nat, z = j := ⟨z.toNat, by omega⟩
    have hjk : j = N - 1 - k := by omega
    subst hj
    have HJ := Lib.hid hjk; clear hjk
    have hj100 : j ≤ 100 := by omega
    have hz' : (0 : Int) ≤ (j : Int) := by omega
    go_wp2_with fail
    refine Calls.mono (HC.out.1 k hk _ hx _ Hown.out) ?_
    rintro e w3 ⟨r3, rfl, hr3, hx3⟩
    have Hr3 := Lib.hid hr3
    replace hx := hx.trans hx3
    clear hr3 hx3 Hown
    go_wp2_with fail
    refine Calls.mono (HC.out.2.1 j hj100 _ hx) ?_
    rintro e w4 ⟨r4, rfl, hr4, hx4⟩
    obtain ⟨b5, A5, n5, c5, rfl⟩ := hr4.cells
    have xa := (Ext.refl w4).alloc (.cells #[.bool b5, .slice A5 n5 c5] 28)
    have Hr4 := Lib.hid (And.intro (Hr3.out.ext (hx4.trans xa)) hr4)
    replace hx := hx.trans (hx4.trans xa)
    clear hr4 hx4 xa Hr3
    go_wp2_with fail
    have hzrow : HzV 0 (w4.alloc (.cells #[.bool b5, .slice A5 n5 c5] 28)) (.slice (some ⟨w4.heap.size, 0, none⟩) 1 1) [(F j).num] :=
     ZsV.has (OwnZ.row (NewZ.own (NewZ.mk Hr4.out.2 (base := 0) (Nat.zero_le _) 28))) (fun x hx => by
      simp at hx; subst hx
      have h1 := qz_num (HC.out.2.2.2.1 j)
      omega)
    have HZr := Lib.hid hzrow; clear hzrow
    refine Calls.mono (HC.out.2.2.1 k hk _ _ _ j HJ.out Hr4.out.1 HZr.out) ?_
    rintro e w6 ⟨r6, rfl, hr6, hx6⟩
    replace hx := hx.trans hx6
    have Hr6 := Lib.hid hr6
    clear hr6 hx6 HZr Hr4 HJ
    go_wp2
    go_roundw
    case rel => exact ⟨k + 1, (j : Int) - 1, by omega, by omega, by go_num, Hr6.out, hx⟩
    case measure => simp [intOf] <;> omega
   ·obtain rfl : N = k := by omega
    have hz' : ¬ (0 : Int) ≤ z := by omega
    go_wp2
    refine bodyPost_ret (v := .tuple #[u8, .int .i64 0]) (by simp [results, Tryz.results47, go_sem]) rfl ?_
    exact Gives.mk ⟨_, rfl, Hown.out⟩ hx
set_option maxRecDepth 20000 in
set_option maxHeartbeats 8000000 in
theorem compose_rbig (v u : Value) (l m : List Int) (w : World) (hv : HzV 0 w v l) (hu : HzV 0 w u m) (hl : l.length ≤ 100) (hm : m.length ≤ 100)
  (hd : 1 < pl (cz l) ∧ 1 < pl (cz m) ∧ (64 : Int) / ((pl (cz m) : Int) - 1) < (pl (cz l) : Int) - 1) :
  Calls Tryz.prog 47 #[v, u] w (Gives w fun r _ => r = .tuple #[.slice none 0 0, .int .i64 7]) := by
 have HV := Lib.hid hv; have HU := Lib.hid hu
 obtain ⟨A, c, rfl⟩ := hv.len
 obtain ⟨E, d, rfl⟩ := hu.len
 clear hv hu
 have hp0 : pl (cz l) ≤ 100 := Nat.le_trans (pl_le (cz_sup l)) hl
 have hq0 : pl (cz m) ≤ 100 := Nat.le_trans (pl_le (cz_sup m)) hm
 have hdeg := fun W (x : Ext w W) => And.intro (degree_rz _ l W (HV.out.ext x) (by omega)) (degree_rz _ m W (HU.out.ext x) (by omega))
 obtain ⟨N, hN⟩ : ∃ N, N = pl (cz l) := ⟨_, rfl⟩
 obtain ⟨Q, hQ⟩ : ∃ Q, Q = pl (cz m) := ⟨_, rfl⟩
 simp only [← hN, ← hQ] at hdeg hd hp0 hq0
 obtain ⟨a, ha⟩ : ∃ a : Int, a = (N : Int) - 1 := ⟨_, rfl⟩
 obtain ⟨b, hb⟩ : ∃ b : Int, b = (Q : Int) - 1 := ⟨_, rfl⟩
 rw [← ha, ← hb] at hd
 simp only [← ha, ← hb] at hdeg
 have HC := Lib.hid hdeg
 obtain ⟨d1, d2, h3⟩ := hd
 have h1 : 1 ≤ a := by omega
 have h2 : 1 ≤ b := by omega
 have hab : a ≤ 100 := by omega
 have hbb : b ≤ 100 := by omega
 clear ha hb hN hQ hdeg HV HU d1 d2 hp0 hq0
 go_enter Tryz.func47, Tryz.ntmps47
 have hx := Ext.refl w
 go_wp2_with fail
 refine Calls.mono (HC.out _ hx).1 ?_
 rintro e w1 ⟨r1, rfl, rfl, hx1⟩
 replace hx := hx.trans hx1
 clear hx1
 go_wp2_with fail
 refine Calls.mono (HC.out _ hx).2 ?_
 rintro e w2 ⟨r2, rfl, rfl, hx2⟩
 replace hx := hx.trans hx2
 clear hx2
 have h4 : 0 ≤ (64 : Int) / b := Int.ediv_nonneg (by omega) (by omega)
 have h5 : (64 : Int) / b ≤ 64 := Int.ediv_le_self _ (by omega)
 have h6 : Int.tdiv 64 b = 64 / b := Int.tdiv_eq_ediv_of_nonneg (by omega)
 generalize (64 : Int) / b = q at *
 go_wp2
 go_ret2
 exact Gives.mk rfl hx
end Go.Proofs.YtfacbpnegkjcgaaGreatDoor
namespace Go.Hp
open Go.RowKit
/-- A value beside an error. -/
def TupE (w : World) (v : Value) (x : Int) (e : Int) : Prop := ∃ a, v = .tuple #[a, .int .i64 e] ∧ IsZ w a x
theorem TupE.ext {w w' : World} {v : Value} {x e : Int} (h : TupE w v x e) (k : Ext w w') : TupE w' v x e := by
 obtain ⟨a, h1, h2⟩ := h; exact ⟨a, h1, h2.kd k.kd⟩
end Go.Hp
namespace Go.Proofs.YtfacbpnegkjcgaaGreatDoor
open Go.RowKit Go.Hp
end Go.Proofs.YtfacbpnegkjcgaaGreatDoor
namespace Go.Hp
open Go.RowKit
theorem Box.put1 {w : World} {g : Nat} {t : TypeId} {a : Value} (h : Box w g t #[a]) (u : Value) (hu : isDig u = false) : ∃ W, W = w.setCell ⟨g, 0, none⟩ u ∧ Box W g t #[u] ∧ Upd [g] w W :=
 ⟨_, rfl, h.set_ 0 hu, Upd.set_ h.nodig 0 u⟩
theorem Box.cells1 {w : World} {g : Nat} {t : TypeId} {a : Value} (h : Box w g t #[a]) : w.cell? ⟨g, 0, none⟩ = some a := h.cell rfl
theorem IsZP.up1 {g0 : Nat} {w w' : World} {v : Value} {F : Nat → Rat} (h : IsZP (g0 + 1) w v F) (U : Upd [g0] w w') : IsZP (g0 + 1) w' v F := by
 obtain ⟨l, ⟨A, c, h1, h2, h3, h4⟩, h5, rfl⟩ := h
 refine ⟨l, ⟨A, c, h1, h2, h3, fun h0 => ?_⟩, h5, rfl⟩
 obtain ⟨g, o, ha, hb, hc⟩ := h4 h0
 refine ⟨g, o, ha, hb, fun j hj => ?_⟩
 obtain ⟨cs, q1, q2, q3⟩ := hc j hj
 refine ⟨cs, q1, fun i hi => ?_, q3.kd U.kd⟩
 have e : cs[i]? = some (cs[i]'(by omega)) := Array.getElem?_eq_getElem (by omega)
 rw [e]
 exact upd_cell U (by simp; omega) ((q2 i hi).trans e)
theorem IsZP.own {b : Nat} {A B : World} {row : Option Nat} {v : Value} {F : Nat → Rat} (h : IsZP b A v F) (hg : A.grownBy B row) (hr : ∀ r, row = some r → ∃ o : Obj, A.heap[r]? = some o ∧ o.isCells = false) : IsZP b B v F := by
 obtain ⟨l, ⟨A', c, h1, h2, h3, h4⟩, h5, rfl⟩ := h
 refine ⟨l, ⟨A', c, h1, h2, h3, fun h0 => ?_⟩, h5, rfl⟩
 obtain ⟨g, o, ha, hb, hc⟩ := h4 h0
 refine ⟨g, o, ha, hb, fun j hj => ?_⟩
 obtain ⟨cs, q1, q2, q3⟩ := hc j hj
 refine ⟨cs, q1, fun i hi => ?_, q3.kd (KD.own hg hr)⟩
 have e : cs[i]? = some (cs[i]'(by omega)) := Array.getElem?_eq_getElem (by omega)
 rw [e]
 exact cell_kept ((q2 i hi).trans e) hg hr
theorem kept1 {A B C : World} {g : Nat} {u : Value} (B0 : Nat) (e : Ext A B) (h : C = B.setCell ⟨g, 0, none⟩ u) : KeepsFrom B0 A C := by
 subst h
 have k1 : KeepsFrom B0 A B := ⟨e.size, fun k o _ h0 _ => e.blk h0⟩
 exact k1.trans ((KeepsOthers.setCell _ _ _).from _)
theorem below1 {A B C : World} {g n₀ : Nat} {u : Value} (e : Below n₀ A B) (h : C = B.setCell ⟨g, 0, none⟩ u) (hg : n₀ ≤ g) : Below n₀ A C := by
 subst h
 exact e.setCell (p := ⟨g, 0, none⟩) hg _
/-- Horner's steps over any indices. -/
def cpf {n : Nat} (F G : Nat → Rat) (pre : List (Fin n)) : Nat → Rat := pre.foldl (fun A p => pad (cv A G) (mono 0 (F p.1))) pz
theorem cpf_snoc {n : Nat} (F G : Nat → Rat) (pre : List (Fin n)) (p : Fin n) : cpf F G (pre ++ [p]) = pad (cv (cpf F G pre) G) (mono 0 (F p.1)) := by simp [cpf]
theorem cpf_dz {n : Nat} (F G : Nat → Rat) : ∀ k (h : k ≤ n), cpf F G (dz n k h) = cpd F G n k
 | 0, h => rfl
 | k + 1, h => by rw [dz_succ h, cpf_snoc, cpf_dz F G k (by omega)]; rfl
theorem cpf_zi {n : Nat} {F G : Nat → Rat} (zF : ZI F) (zG : ZI G) (pre : List (Fin n)) : ZI (cpf F G pre) := by
 revert pre
 refine snoc_ind ZI.pz fun pre p ih => ?_
 rw [cpf_snoc]
 exact (ih.cv zG).pad (by rw [zF.num p.1]; exact ZI.mono 0 _)
theorem cpf_sup {n : Nat} {F G : Nat → Rat} {d : Nat} (sG : Sup (d + 1) G) (pre : List (Fin n)) : Sup (pre.length * d + 1) (cpf F G pre) := by
 revert pre
 refine snoc_ind (Sup.pz _) fun pre p ih => ?_
 rw [cpf_snoc]
 refine (((Sup.cv ih sG).mono ?_).pad ((mono_sup 0 _).mono ?_))
 ·rw [List.length_append, List.length_singleton, Nat.succ_mul]; omega
 ·omega
theorem cpf_qsz {n : Nat} {F G : Nat → Rat} {d s t : Nat} (zF : ZI F) (zG : ZI G) (sG : Sup (d + 1) G) (hs : ∀ i, qsz (F i) ≤ s) (ht : ∀ i, qsz (G i) ≤ t) (pre : List (Fin n)) : pre.length * d + 1 < 4294967296 → ∀ i, qsz (cpf F G pre i) ≤ s + 1 + pre.length * (t + 2) := by
 revert pre
 refine snoc_ind (fun _ i => ?_) fun pre p ih h i => ?_
 ·show qsz 0 ≤ _; rw [qsz_zero]; omega
 ·rw [List.length_append, List.length_singleton, Nat.succ_mul] at h
  rw [List.length_append, List.length_singleton, Nat.succ_mul, cpf_snoc]
  have h' : pre.length * d + 1 < 4294967296 := by omega
  have h1 := cvz_qsz (cpf_zi zF zG pre) zG (cpf_sup sG pre) h' (ih h') ht i
  have h2 := mono_qsz (hs p.1) i
  have h3 := qsz_addz ((cpf_zi zF zG pre).cv zG) (show ZI (mono 0 (F p.1)) by rw [zF.num p.1]; exact ZI.mono 0 _) i i
  show qsz (cv (cpf F G pre) G i + mono 0 (F p.1) i) ≤ _
  omega
end Go.Hp
namespace Go.Proofs.YtfacbpnegkjcgaaGreatDoor
open Go.RowKit Go.Hp Go.Shelf
theorem zmul_pp (v u : Value) (F G : Nat → Rat) (s t n m : Nat) (w : World) (hv : IsZP 0 w v F) (hu : IsZP 0 w u G) (hs : ∀ i, qsz (F i) ≤ s) (ht : ∀ i, qsz (G i) ≤ t) (hn : pl F ≤ n) (hm : pl G ≤ m) (hn9 : n ≤ 549755813888) (hm9 : m ≤ 549755813888) (hst : 1 + (n + 1) * (s + t + 1) ≤ 1099511627776) :
  Calls Tryz.prog 22 #[v, u] w (Gives w fun r w' => IsZP w.heap.size w' r (cv F G)) := by
 have hB : (1 + 1) * (s + t + 1) ≤ (n + 1 + 1) * (s + t + 1) := Nat.mul_le_mul_right _ (by omega)
 have hC : (n + 1 + 1) * (s + t + 1) = (n + 1) * (s + t + 1) + (s + t + 1) := Nat.succ_mul _ _
 have hD : 1 * (s + t + 1) ≤ (n + 1) * (s + t + 1) := Nat.mul_le_mul_right _ (by omega)
 obtain ⟨l, a1, a2, -, a4⟩ := hv.hz (fun i => by have := hs i; omega)
 obtain ⟨o, b1, b2, -, b4⟩ := hu.hz (fun i => by have := ht i; omega)
 have hE : (l.length + 1) * (s + t + 1) ≤ (n + 1) * (s + t + 1) := Nat.mul_le_mul_right _ (by omega)
 have := zmul_p v u l o s t w a1 b1 (by rw [a4]; exact hs) (by rw [b4]; exact ht) (by omega) (by omega) (by omega)
 rw [a4, b4] at this
 exact this
theorem zadd_one (v u : Value) (F G : Nat → Rat) (j s n : Nat) (w : World) (hv : IsZP 0 w v F) (zG : ZI G) (hu : HzV 0 w u [(G j).num]) (hs : ∀ i, qsz (F i) ≤ s) (hn : pl F ≤ n) (hn9 : n ≤ 549755813888) (hs9 : s ≤ 1099511627776) :
  Calls Tryz.prog 36 #[v, u] w (Gives w fun r w' => IsZP w.heap.size w' r (pad F (mono 0 (G j)))) := by
 obtain ⟨l, a1, a2, -, a4⟩ := hv.hz (fun i => by have := hs i; omega)
 have e1 : cz [(G j).num] = mono 0 (G j) := by
  have := cz_rep 0 (G j).num
  rw [List.replicate_zero, List.nil_append] at this
  rw [this, ← zG.num j]
 have := zadd_p v u l [(G j).num] w a1 hu (by omega) (by simp)
 rw [a4, e1] at this
 exact this
attribute [local go_sem] Oper.semAt_some
set_option maxRecDepth 100000 in
set_option maxHeartbeats 8000000 in
theorem zcompose_p (v u : Value) (l m : List Int) (s t : Nat) (w : World) (hv : HzV 0 w v l) (hu : HzV 0 w u m) (hs : ∀ i, qsz (cz l i) ≤ s) (ht : ∀ i, qsz (cz m i) ≤ t) (hl : l.length ≤ 100) (hm : m.length ≤ 100) (hs9 : s ≤ 1000) (ht9 : t ≤ 1000)
  (hd : ¬ (1 < pl (cz l) ∧ 1 < pl (cz m) ∧ (64 : Int) / ((pl (cz m) : Int) - 1) < (pl (cz l) : Int) - 1)) :
  Calls Tryz.prog 46 #[v, u] w (Gives w (TupC (cpd (cz l) (cz m) (pl (cz l)) (pl (cz l))))) := by
 have HV := Lib.hid hv; have HU := Lib.hid hu
 obtain ⟨A, c, rfl⟩ := hv.len
 obtain ⟨E, d, rfl⟩ := hu.len
 clear hv hu
 have hn1 := fun W (x : Ext w W) => normal_zp (.slice A l.length c) l W (HV.out.ext x) (by omega)
 have hn2 := fun W (x : Ext w W) => normal_zp (.slice E m.length d) m W (HU.out.ext x) (by omega)
 have HN := Lib.hid (And.intro hn1 hn2); clear hn1 hn2
 have hp0 : pl (cz l) ≤ 100 := Nat.le_trans (pl_le (cz_sup l)) hl
 have hq0 : pl (cz m) ≤ 100 := Nat.le_trans (pl_le (cz_sup m)) hm
 have HS := Lib.hid (And.intro hs ht); clear hs ht
 obtain ⟨F, hF⟩ : ∃ F, F = cz l := ⟨_, rfl⟩
 obtain ⟨G, hG⟩ : ∃ G, G = cz m := ⟨_, rfl⟩
 have HZ := Lib.hid (show ZI F ∧ ZI G ∧ Sup (99 + 1) G ∧ Fin_ F from ⟨hF ▸ ZI.cz l, hG ▸ ZI.cz m, hG ▸ (cz_sup m).mono (by omega), hF ▸ Fin_.cz l⟩)
 simp only [← hF, ← hG] at HN HS hp0 hq0 hd ⊢
 clear hF hG HV HU
 have hB : ∀ pre : List (Fin (pl F)), pre.length < pl F → (∀ i, qsz (cpf F G pre i) ≤ 101301) ∧ pl (cpf F G pre) ≤ 9901 := fun pre hk => by
  have hk' : pre.length * 99 ≤ 100 * 99 := Nat.mul_le_mul_right _ (by omega)
  refine ⟨fun i => ?_, Nat.le_trans (pl_le (cpf_sup HZ.out.2.2.1 pre)) (by omega)⟩
  have h1 := cpf_qsz HZ.out.1 HZ.out.2.1 HZ.out.2.2.1 HS.out.1 HS.out.2 pre (by omega) i
  have h2 : pre.length * (t + 2) ≤ 100 * 1002 := Nat.mul_le_mul (by omega) (by omega)
  omega
 have hmul : ∀ pre : List (Fin (pl F)), pre.length < pl F → ∀ W z, IsZP 0 W z (cpf F G pre) → ∀ {u}, IsZP 0 W u G → Calls Tryz.prog 22 #[z, u] W (Gives W fun r w' => IsZP W.heap.size w' r (cv (cpf F G pre) G)) := fun pre hk W z hz u hu =>
  zmul_pp z u _ _ 101301 t 9901 100 W hz hu (hB pre hk).1 HS.out.2 (hB pre hk).2 hq0 (by omega) (by omega) (by
   have : 9902 * (101301 + t + 1) ≤ 9902 * 102302 := Nat.mul_le_mul_left _ (by omega)
   omega)
 have hadd : ∀ pre : List (Fin (pl F)), pre.length < pl F → ∀ W z y j, IsZP 0 W z (cv (cpf F G pre) G) → HzV 0 W y [(F j).num] → Calls Tryz.prog 36 #[z, y] W (Gives W fun r w' => IsZP W.heap.size w' r (pad (cv (cpf F G pre) G) (mono 0 (F j)))) := fun pre hk W z y j hz hy => by
  have hk' : pre.length * 99 ≤ 100 * 99 := Nat.mul_le_mul_right _ (by omega)
  have h1 := pl_le ((cpf_sup (F := F) HZ.out.2.2.1 pre).cv HZ.out.2.2.1)
  exact zadd_one z y _ F j 102302 10001 W hz HZ.out.1 hy (fun i => by
   have := cvz_qsz (cpf_zi HZ.out.1 HZ.out.2.1 pre) HZ.out.2.1 (cpf_sup HZ.out.2.2.1 pre) (by omega) (hB pre hk).1 HS.out.2 i
   omega) (by omega) (by omega) (by omega)
 have hrow : ∀ W b A2 n2 c2 j, IsZ W (.agg #[.bool b, .slice A2 n2 c2]) (F j).num → HzV 0 (W.alloc (.cells #[.bool b, .slice A2 n2 c2] 28)) (.slice (some ⟨W.heap.size, 0, none⟩) 1 1) [(F j).num] := fun W b A2 n2 c2 j h =>
  ZsV.has (OwnZ.row (NewZ.own (NewZ.mk h (base := 0) (Nat.zero_le _) 28))) (fun x hx => by
   simp at hx; subst hx
   have h1 := qz_num (HS.out.1 j)
   omega)
 have HMul := Lib.hid hmul; have HAdd := Lib.hid hadd; have HRow := Lib.hid hrow
 clear hB hmul hadd hrow
 have HD := Lib.hid hd; clear hd
 refine (callsIn_wide (n := 5)).1 ?_
 refine callsIn_of_wp_marks Tryz.func46 rfl trivial ?_ rfl
 simp only [Tryz.ntmps46, List.size_toArray, List.length_cons, List.length_nil, Nat.reduceAdd, Nat.reduceSub, Array.replicate_succ, Array.replicate_zero, List.push_toArray, List.append_toArray, List.nil_append, List.cons_append]
 refine wpIn_wide.2 ?_
 have eu := Box.new w 23 #[.slice E m.length d] (by simp [isDig])
 have hx := (Ext.refl w).alloc (.cells #[.slice E m.length d] 23)
 go_upto_region 1 with (fail)
 generalize w.alloc (.cells #[.slice E m.length d] 23) = w0 at *
 have e0 := eu.cells1
 refine wp_region_par (k := 4) (D := [11, 12, 13, 14]) (T := [[], [0], [], [0, 1, 2], [0, 1, 2, 3], [0, 1, 2, 3, 4]]) (EK := [0, 3]) (EV := [?e1x0, ?e1x1]) (VL := [(kv ?v1x0), (fun γ => γ 1), (kv ?v1x2), (fun γ => γ 3)]) (FL := fun γ w' => [True, IsZP (w.heap.size + 1) w' (γ 1) F, True, IsZP (w.heap.size + 1) w' (γ 3) G]) ?hE1 (by kernel_rfl) (by kernel_rfl) (by rfl) (by kernel_rfl) ?hloc1 ?hmono1 ?hstep1 ?htail1
 case hE1 => refine ⟨?_, ?_, trivial⟩ <;> (simp only [List.getElem?_toArray, List.getElem?_cons_succ, List.getElem?_cons_zero]; rfl)
 case hstep1 =>
  refine ⟨⟨⟨⟨trivial, ?_⟩, ?_⟩, ?_⟩, ?_⟩
  ·intro γ w' he hf; clear hf; refine ⟨trivial, ?_⟩; intro R hR
   have hc := he.cells
   go_simp
   (try go_ints); (try (rw [if_neg (by omega)])); (try (rw [if_pos (by omega)])); (try go_simp); (try go_ints)
   refine hR _ _ (Ext.refl _) ?_ trivial
   rfl
  ·intro γ w' he hf; clear hf; refine ⟨trivial, ?_⟩; intro R hR
   go_simp
   refine Calls.mono (show Calls _ _ _ w' (Gives w' fun r w'' => IsZP (w.heap.size + 1) w'' (r) F) from Gives.imp (HN.out.1 w' (hx.trans he)) fun _ _ h => h.base_le (eu.ext he).lt) ?_
   rintro e w2 ⟨v, rfl, hv, hx⟩
   exact ⟨v, rfl, hR v w2 hx rfl hv⟩
  ·intro γ w' he hf; clear hf; refine ⟨trivial, ?_⟩; intro R hR
   have hc := he.cells
   have cq0 := he.cell e0
   go_simp
   (try go_ints); (try (rw [if_neg (by omega)])); (try (rw [if_pos (by omega)])); (try go_simp); (try go_ints)
   refine hR _ _ (Ext.refl _) ?_ trivial
   rfl
  ·intro γ w' he hf; have f1 : IsZP (w.heap.size + 1) w' (γ 1) F := hf 1 (by decide); clear hf; refine ⟨trivial, ?_⟩; intro R hR
   go_simp
   refine Calls.mono (show Calls _ _ _ w' (Gives w' fun r w'' => IsZP (w.heap.size + 1) w'' (r) G) from Gives.imp (HN.out.2 w' (hx.trans he)) fun _ _ h => h.base_le (eu.ext he).lt) ?_
   rintro e w2 ⟨v, rfl, hv, hx⟩
   exact ⟨v, rfl, hR v w2 hx rfl hv⟩
 case hloc1 =>
  exact ⟨⟨⟨⟨trivial, (fun γ γ' h => ⟨rfl, fun _ => rfl⟩)⟩, (fun γ γ' h => ⟨h 1 rfl, fun w' => (congrArg (fun a => IsZP (w.heap.size + 1) w' (a) F) (h 1 rfl))⟩)⟩, (fun γ γ' h => ⟨rfl, fun _ => rfl⟩)⟩, (fun γ γ' h => ⟨h 3 rfl, fun w' => (congrArg (fun a => IsZP (w.heap.size + 1) w' (a) G) (h 3 rfl))⟩)⟩
 case hmono1 =>
  exact ⟨⟨⟨⟨trivial, (fun γ wA w' e h => h)⟩, (fun γ wA w' e h => (show IsZP (w.heap.size + 1) wA (γ 1) F from h).ext e)⟩, (fun γ wA w' e h => h)⟩, (fun γ wA w' e h => (show IsZP (w.heap.size + 1) wA (γ 3) G from h).ext e)⟩
 intro γ w1 hx1 hF
 have p1 : IsZP (w.heap.size + 1) w1 (γ 1) F := Each.get hF 1 (by decide)
 have p3 : IsZP (w.heap.size + 1) w1 (γ 3) G := Each.get hF 3 (by decide)
 clear hF
 simp only [fillAll, gV, kv, List.getD_cons_zero, List.getD_cons_succ, Act.put, List.setIfInBounds_toArray, List.set_cons_zero, List.set_cons_succ, List.toList_toArray, List.drop_succ_cons, List.drop_zero, List.drop_nil, Nat.zero_add, Nat.reduceAdd]
 generalize γ 1 = g1 at *
 generalize γ 3 = g3 at *
 clear γ
 obtain ⟨A1, c1, rfl, -⟩ := p1.shape
 obtain ⟨E1, d1, rfl, -⟩ := p3.shape
 replace eu := eu.ext hx1
 replace hx := hx.trans hx1
 have HP := Lib.hid (And.intro p1 p3)
 clear p1 p3 hx1 e0
 have e0 := eu.cells1
 have fe := eu.frozen
 go_upto_region 2 with (fail)
 obtain ⟨w2, eW, eu', U⟩ := eu.put1 (.slice E1 (pl G) d1) rfl
 rw [← eW]
 have HP2 := Lib.hid (And.intro (HP.out.1.up1 U) (HP.out.2.up1 U))
 replace hx := U.from_ hx (by simp <;> omega)
 have eu := eu'
 clear eW U eu' e0 fe HP
 have e0 := eu.cells1
 refine wp_region_par (k := 7) (D := [15, 16, 17, 18, 19, 20, 6]) (T := [[], [0], [0, 1], [], [3], [3, 4], [0, 1, 2], [0, 1, 2, 3, 4, 5, 6]]) (EK := [0, 3]) (EV := [?e2x0, ?e2x1]) (VL := [(kv ?v2x0), (kv ?v2x1), (kv ?v2x2), (kv ?v2x3), (kv ?v2x4), (kv ?v2x5), (kv ?v2x6)]) (FL := fun γ w' => [True, True, True, True, True, True, True]) ?hE2 (by kernel_rfl) (by kernel_rfl) (by rfl) (by kernel_rfl) ?hloc2 ?hmono2 ?hstep2 ?htail2
 case hE2 => refine ⟨?_, ?_, trivial⟩ <;> (simp only [List.getElem?_toArray, List.getElem?_cons_succ, List.getElem?_cons_zero]; rfl)
 case hstep2 =>
  refine ⟨⟨⟨⟨⟨⟨⟨trivial, ?_⟩, ?_⟩, ?_⟩, ?_⟩, ?_⟩, ?_⟩, ?_⟩
  ·intro γ w' he hf; clear hf; refine ⟨trivial, ?_⟩; intro R hR
   have hc := he.cells
   go_simp
   (try go_ints); (try (rw [if_neg (by omega)])); (try (rw [if_pos (by omega)])); (try go_simp); (try go_ints)
   refine hR _ _ (Ext.refl _) ?_ trivial
   rfl
  ·intro γ w' he hf; clear hf; refine ⟨trivial, ?_⟩; intro R hR
   have hc := he.cells
   go_simp
   (try go_ints); (try (rw [if_neg (by omega)])); (try (rw [if_pos (by omega)])); (try go_simp); (try go_ints)
   refine hR _ _ (Ext.refl _) ?_ trivial
   rfl
  ·intro γ w' he hf; clear hf; refine ⟨trivial, ?_⟩; intro R hR
   have hc := he.cells
   go_simp
   (try go_ints); (try (rw [if_neg (by omega)])); (try (rw [if_pos (by omega)])); (try go_simp); (try go_ints)
   refine hR _ _ (Ext.refl _) ?_ trivial
   rfl
  ·intro γ w' he hf; clear hf; refine ⟨trivial, ?_⟩; intro R hR
   have hc := he.cells
   have cq0 := he.cell e0
   go_simp
   (try go_ints); (try (rw [if_neg (by omega)])); (try (rw [if_pos (by omega)])); (try go_simp); (try go_ints)
   refine hR _ _ (Ext.refl _) ?_ trivial
   rfl
  ·intro γ w' he hf; clear hf; refine ⟨trivial, ?_⟩; intro R hR
   have hc := he.cells
   go_simp
   (try go_ints); (try (rw [if_neg (by omega)])); (try (rw [if_pos (by omega)])); (try go_simp); (try go_ints)
   refine hR _ _ (Ext.refl _) ?_ trivial
   rfl
  ·intro γ w' he hf; clear hf; refine ⟨trivial, ?_⟩; intro R hR
   have hc := he.cells
   go_simp
   (try go_ints); (try (rw [if_neg (by omega)])); (try (rw [if_pos (by omega)])); (try go_simp); (try go_ints)
   refine hR _ _ (Ext.refl _) ?_ trivial
   rfl
  ·intro γ w' he hf; clear hf; refine ⟨trivial, ?_⟩; intro R hR
   have hc := he.cells
   go_simp
   (try go_ints); (try (rw [if_neg (by omega)])); (try (rw [if_pos (by omega)])); (try go_simp); (try go_ints)
   refine hR _ _ (Ext.refl _) ?_ trivial
   rfl
 case hloc2 =>
  exact ⟨⟨⟨⟨⟨⟨⟨trivial, (fun γ γ' h => ⟨rfl, fun _ => rfl⟩)⟩, (fun γ γ' h => ⟨rfl, fun _ => rfl⟩)⟩, (fun γ γ' h => ⟨rfl, fun _ => rfl⟩)⟩, (fun γ γ' h => ⟨rfl, fun _ => rfl⟩)⟩, (fun γ γ' h => ⟨rfl, fun _ => rfl⟩)⟩, (fun γ γ' h => ⟨rfl, fun _ => rfl⟩)⟩, (fun γ γ' h => ⟨rfl, fun _ => rfl⟩)⟩
 case hmono2 =>
  exact ⟨⟨⟨⟨⟨⟨⟨trivial, (fun γ wA w' e h => h)⟩, (fun γ wA w' e h => h)⟩, (fun γ wA w' e h => h)⟩, (fun γ wA w' e h => h)⟩, (fun γ wA w' e h => h)⟩, (fun γ wA w' e h => h)⟩, (fun γ wA w' e h => h)⟩
 intro γ w3 hx3 hF
 clear hF
 simp only [fillAll, gV, kv, List.getD_cons_zero, List.getD_cons_succ, Act.put, List.setIfInBounds_toArray, List.set_cons_zero, List.set_cons_succ, List.toList_toArray, List.drop_succ_cons, List.drop_zero, List.drop_nil, Nat.zero_add, Nat.reduceAdd]
 clear γ
 replace eu := eu.ext hx3
 replace hx := hx.trans hx3
 have HP := Lib.hid (And.intro (HP2.out.1.ext hx3) (HP2.out.2.ext hx3))
 clear hx3 e0 HP2
 have hen : ∀ W2, Ext w3 W2 → ∃ enc : Fin (pl F) → Value, (∀ j, IsZ w3 (enc j) (F j.1).num) ∧ (0 < pl F → ∃ b off, A1 = some ⟨b, off, none⟩ ∧ b < w3.heap.size ∧ ∀ j (hj : j < pl F), IntCells W2 b (off + j * 2) (enc ⟨j, hj⟩)) := fun W2 x2 => by
  obtain ⟨A', c', lf, e', k1, k2, hA, k3, k4, k5⟩ := HP.out.1.form
  have eA : A1 = A' := by injection e'
  subst eA
  have key : ∀ j : Fin (pl F), ∃ e : Value, IsZ w3 e (F j.1).num ∧ ∃ b off, A1 = some ⟨b, off, none⟩ ∧ b < w3.heap.size ∧ IntCells W2 b (off + j.1 * 2) e := by
   rintro ⟨j, hj⟩
   obtain ⟨g, o, b, A2, n, c2, rfl, _, q0, q1, hq⟩ := hA.at_ (j := j) (by omega)
   have e2 : (F j).num = lf[j]'(by omega) := by
    have h := cz_lt (l := lf) (i := j) (by omega)
    rw [k5] at h
    rw [h]; rfl
   rw [← e2] at hq
   exact ⟨_, hq, g, o, rfl, World.block_lt_of_cell? w3 _ q0, _, _, _, _, rfl, x2.cell q0, x2.cell q1⟩
  refine ⟨fun j => Classical.choose (key j), fun j => (Classical.choose_spec (key j)).1, fun h0 => ?_⟩
  obtain ⟨-, b, off, e1, e2, -⟩ := Classical.choose_spec (key ⟨0, h0⟩)
  refine ⟨b, off, e1, by omega, fun j hj => ?_⟩
  obtain ⟨-, b', off', e1', -, e3⟩ := Classical.choose_spec (key ⟨j, hj⟩)
  rw [e1] at e1'
  cases e1'
  exact e3
 have HEn := Lib.hid hen; clear hen
 by_cases h1 : 1 < pl F
 ·by_cases h2 : 1 < pl G
  ·have h3 : ¬ ((64 : Int) / ((pl G : Int) - 1) < (pl F : Int) - 1) := fun q => HD.out ⟨h1, h2, q⟩
   have h4 : 0 ≤ (64 : Int) / ((pl G : Int) - 1) := Int.ediv_nonneg (by omega) (by omega)
   have h5 : (64 : Int) / ((pl G : Int) - 1) ≤ 64 := Int.ediv_le_self _ (by omega)
   have h6 : Int.tdiv 64 ((pl G : Int) - 1) = 64 / ((pl G : Int) - 1) := Int.tdiv_eq_ediv_of_nonneg (by omega)
   generalize (64 : Int) / ((pl G : Int) - 1) = q at *
   go_wp2_with fail
   refine Calls.mono ((callsIn_wide (n := 5)).1 (zback_in Fence.wide 5 trivial rfl _ _ _ _)) ?_
   rintro e w5 ⟨rfl, rfl⟩
   go_wp2
   obtain ⟨W2, hW2⟩ : ∃ W2, (w3.alloc (.cells #[.slice none 0 0] 23)).alloc (.cells #[.slice A1 (pl F) c1] 23) = W2 := ⟨_, rfl⟩
   have h2sz : W2.heap.size = w3.heap.size + 2 := by rw [← hW2]; simp
   have hb2 : W2.cell? ⟨w3.heap.size + 1, 0, none⟩ = some (.slice A1 (pl F) c1) := by
    have := (Boxed.new (w3.alloc (.cells #[.slice none 0 0] 23)) 23 (.slice A1 (pl F) c1)).cell
    rw [World.size_alloc] at this
    rw [← hW2]; exact this
   have eb2 : Box W2 w3.heap.size 23 #[.slice none 0 0] := by rw [← hW2]; exact (Box.new w3 _ _ (by simp [isDig])).alloc _
   have hx2 : Ext w3 W2 := by rw [← hW2]; exact ((Ext.refl w3).alloc _).alloc _
   rw [hW2]
   clear hW2
   obtain ⟨enc, hE, hI⟩ := HEn.out W2 hx2
   have HE := Lib.hid hE; clear hE
   refine (wpIn_wide (n := 5)).1 ?_
   refine wpIn_rangeFunc_ownH rfl (by omega) (gf := 133) (lb := #[.pointer (some ⟨w3.heap.size + 1, 0, none⟩)]) rfl trivial (enters_of Tryz.func133 (by kernel_rfl) rfl)
    (zback_stops _ _ trivial rfl (by omega) (w3.heap.size + 1) w3.heap.size (pl F) c1 A1 enc (by omega) W2 (by omega) hx2.size hb2 hI) KpZ.trans (kpZ_b hx2.size) (Below.refl _ _) (fun _ => rfl)
    (fun pre W => (∃ r, Box W w3.heap.size 23 #[r] ∧ IsZP (w3.heap.size + 1) W r (cpf F G pre)) ∧ Below w3.heap.size w3 W)
    (fun _ _ _ => False)
    (fun pre X Y row hs hg hr => ⟨by obtain ⟨r, k1, k2⟩ := hs.1; exact ⟨r, k1.own hg (fun r e => (hr r e).2), k2.own hg (fun r e => (hr r e).2)⟩, ownFrom_below (β := Unit) (Nat.le_refl _) hx2.size () X Y row hs.2 hg hr⟩)
    (fun _ _ _ _ _ hs _ _ => hs)
    ⟨⟨_, eb2, IsZP.nil _ _⟩, hx2⟩
    (fun p a' W => ∃ Bx b A2 n2 c2, enc p = .agg #[.bool b, .slice A2 n2 c2] ∧ Box W Bx 28 #[.bool b, .slice A2 n2 c2] ∧ a' = { tmps := #[.slice A1 (pl F) c1, .slice E m.length d, undef, .pointer (some ⟨w.heap.size, 0, none⟩), .slice none 0 0, .int .i64 0, .int .i64 ((pl F : Int) - 1), .int .i64 ((pl G : Int) - 1), .pointer (some ⟨w3.heap.size, 0, none⟩), undef, .pointer (some ⟨Bx, 0, none⟩), .slice A l.length c, .slice A1 (pl F) c1, .slice E m.length d, .slice E1 (pl G) d1, .slice A1 (pl F) c1, .int .i64 (pl F), .int .i64 ((pl F : Int) - 1), .slice E1 (pl G) d1, .int .i64 (pl G), .int .i64 ((pl G : Int) - 1), .int .i64 ((pl F : Int) - 1), .bool true, .bool true, .int .i64 ((pl G : Int) - 1), .bool true, .bool true, .bool true, .int .i64 ((pl F : Int) - 1), .int .i64 ((pl G : Int) - 1), .int .i64 q, .bool false, .bool false, .slice A1 (pl F) c1, .func (.func 133) #[] #[.pointer (some ⟨w3.heap.size + 1, 0, none⟩)], .int .i64 (p.1 : Nat), .agg #[.bool b, .slice A2 n2 c2], undef, undef, undef, undef, undef, undef, undef], defers := [] })
    (fun p a' _ X Y row hs hg hr => by obtain ⟨Bx, b, A2, n2, c2, k2, k3, k4⟩ := hs; exact ⟨Bx, b, A2, n2, c2, k2, k3.own hg (fun r e => (hr r e).2), k4⟩)
    ?assign ?body ?done ?stop
   case assign =>
    rintro lp pre p W K ⟨hi, hB⟩ hK
    obtain ⟨b, A2, n2, c2, hpv⟩ := (HE.out p).cells
    have HK := Lib.hid hK; clear hK
    have HI := Lib.hid (And.intro hi hB); clear hi
    gi_wp2
    obtain ⟨W9, eW9, e9, x9⟩ := Box.made W 28 #[.bool b, .slice A2 n2 c2] (by simp [isDig])
    rw [← eW9]
    refine HK.out _ _ ⟨x9.size, fun k o _ h0 _ => x9.blk h0⟩ ⟨x9.mono hB.size, fun v h => x9.cell h⟩ ⟨by obtain ⟨r, k1, k2⟩ := HI.out.1; exact ⟨r, k1.ext x9, k2.ext x9⟩, hB.trans (x9.mono hB.size)⟩ ⟨W.heap.size, b, A2, n2, c2, hpv, e9, rfl⟩
   case body =>
    rintro lp pre p a' W hl0 ⟨r, hr⟩ ⟨⟨z, eg, hz⟩, hB⟩ ⟨Bx, b, A2, n2, c2, k2, k3, rfl⟩ hlt
    have hB' : Ext w3 W := hB
    have HQ := Lib.hid (show IsZ W (.agg #[.bool b, .slice A2 n2 c2]) (F p.1).num from k2 ▸ (HE.out p).ext hB')
    have hgl := eg.lt
    have hul := (eu.ext hB').lt
    have euW := eu.ext hB'
    have g0 := eg.cells1
    have u0 := euW.cells1
    obtain ⟨e0, e1⟩ := k3.cells2
    have fg := eg.frozen
    gi_wp2
    have hmx : Tryz.prog.follows .mixedOrders = true := by kernel_rfl
    have xd : Ext W W.drew := Below.drew (Below.refl _ W)
    have xa := xd.alloc (.cells #[.bool b, .slice A2 n2 c2] 28)
    have y0 := xa.cell g0
    have y1 := xa.cell u0
    have Hm := Lib.hid (And.intro (hz.base_le (Nat.zero_le _)) (HP.out.2.ext hB' |>.base_le (Nat.zero_le _)))
    have HX := Lib.hid (And.intro xd xa)
    clear hz
    gi_region_with_o (first | (refine ⟨trivial, ?_⟩; gi_at_call 22; refine (CallsIn.inRound lp (callsIn_wide.2 (HMul.out pre hlt _ _ (Hm.out.1.ext xd) (Hm.out.2.ext xd)))).mono ?_; rintro e w5 ⟨r5, rfl, hr5, hx5⟩; obtain ⟨A5, d5, rfl, -⟩ := hr5.shape; have v0 := (xd.trans hx5).cell e0; have v1 := (xd.trans hx5).cell e1; have HA1 := Lib.hid (And.intro (And.intro ((hr5.base_le (Nat.zero_le _)).ext ((Ext.refl w5).alloc (.cells #[.bool b, .slice A2 n2 c2] 28))) (HRow.out w5 b A2 n2 c2 p.1 (HQ.out.kd (xd.trans hx5).kd))) ((xd.trans hx5).trans ((Ext.refl w5).alloc (.cells #[.bool b, .slice A2 n2 c2] 28)))); clear hr5) | (refine ⟨trivial, ?_⟩; gi_at_call 36; refine (CallsIn.inRound lp (callsIn_wide.2 (HAdd.out pre hlt _ _ _ p.1 HA1.out.1.1 HA1.out.1.2))).mono ?_; rintro e w6 ⟨r6, rfl, hr6, hx6⟩; obtain ⟨A6, d6, rfl, -⟩ := hr6.shape; have x6 := HA1.out.2.trans hx6; have eg6 := eg.ext x6; have f6 := eg6.frozen; have s0 := eg6.cells1; have Hr6 := Lib.hid (hr6.base_le (b := w3.heap.size + 1) (by have := HA1.out.2.size; omega)); clear hr6) | (refine ⟨trivial, ?_⟩; gi_at_call 22; refine (CallsIn.inRound lp (callsIn_wide.2 (HMul.out pre hlt _ _ (Hm.out.1.ext xa) (Hm.out.2.ext xa)))).mono ?_; rintro e w5 ⟨r5, rfl, hr5, hx5⟩; obtain ⟨A5, d5, rfl, -⟩ := hr5.shape; have HA1 := Lib.hid (And.intro (And.intro (hr5.base_le (Nat.zero_le _)) ((HRow.out W.drew b A2 n2 c2 p.1 (HQ.out.kd xd.kd)).ext hx5)) (xa.trans hx5)); clear hr5))
    all_goals gi_wp2
    all_goals
     obtain ⟨W7, eW7, e7, U7⟩ := eg6.put1 (.slice A6 (pl (pad (cv (cpf F G pre) G) (mono 0 (F p.1)))) d6) rfl
     have kf := kept1 W2.heap.size x6 eW7
     have kb := below1 (n₀ := w3.heap.size) (x6.mono hB'.size) eW7 (by omega)
     have kq := Hr6.out.up1 U7
     rw [← eW7]
     exact ⟨kf, ⟨kb, fun v h => upd_cell U7 (by simp) (x6.cell h)⟩, ⟨_, e7, by rw [cpf_snoc F G pre p]; exact kq⟩, Below.trans hB kb⟩
   case done =>
    rintro D ys W hD rfl ⟨⟨z, eg, hz⟩, hB⟩ hK
    rw [cpf_dz F G (pl F) (Nat.le_refl _)] at hz
    have hB' : Ext w3 W := hB
    have g0 := eg.cells1
    have Hz := Lib.hid hz; clear hz
    go_wp2
    have hx4 : Ext w (W.putObj D (.deferred none)) := Below.trans (hx.trans hB') (belowK_b (w := w) (Nat.le_refl _) W D _ _ (by have := hx2.size; have := hx.size; omega) hK rfl rfl)
    have hz4 := Hz.out.own (grownBy_putObj' W D (.deferred none)) (fun r e => by cases e; exact ⟨_, hK, rfl⟩)
    refine ⟨by simp, .inl ⟨_, _, rfl, run_takeDeferred hK, ?_⟩⟩
    exact ⟨_, by simp [results, Tryz.f46, go_sem], Gives.mk ⟨_, rfl, hz4.base_le (Nat.zero_le _)⟩ hx4⟩
   case stop =>
    rintro D c pre W _ _ h _
    exact h.elim
  ·skip
   go_wp2_with fail
   refine Calls.mono ((callsIn_wide (n := 5)).1 (zback_in Fence.wide 5 trivial rfl _ _ _ _)) ?_
   rintro e w5 ⟨rfl, rfl⟩
   go_wp2
   obtain ⟨W2, hW2⟩ : ∃ W2, (w3.alloc (.cells #[.slice none 0 0] 23)).alloc (.cells #[.slice A1 (pl F) c1] 23) = W2 := ⟨_, rfl⟩
   have h2sz : W2.heap.size = w3.heap.size + 2 := by rw [← hW2]; simp
   have hb2 : W2.cell? ⟨w3.heap.size + 1, 0, none⟩ = some (.slice A1 (pl F) c1) := by
    have := (Boxed.new (w3.alloc (.cells #[.slice none 0 0] 23)) 23 (.slice A1 (pl F) c1)).cell
    rw [World.size_alloc] at this
    rw [← hW2]; exact this
   have eb2 : Box W2 w3.heap.size 23 #[.slice none 0 0] := by rw [← hW2]; exact (Box.new w3 _ _ (by simp [isDig])).alloc _
   have hx2 : Ext w3 W2 := by rw [← hW2]; exact ((Ext.refl w3).alloc _).alloc _
   rw [hW2]
   clear hW2
   obtain ⟨enc, hE, hI⟩ := HEn.out W2 hx2
   have HE := Lib.hid hE; clear hE
   refine (wpIn_wide (n := 5)).1 ?_
   refine wpIn_rangeFunc_ownH rfl (by omega) (gf := 133) (lb := #[.pointer (some ⟨w3.heap.size + 1, 0, none⟩)]) rfl trivial (enters_of Tryz.func133 (by kernel_rfl) rfl)
    (zback_stops _ _ trivial rfl (by omega) (w3.heap.size + 1) w3.heap.size (pl F) c1 A1 enc (by omega) W2 (by omega) hx2.size hb2 hI) KpZ.trans (kpZ_b hx2.size) (Below.refl _ _) (fun _ => rfl)
    (fun pre W => (∃ r, Box W w3.heap.size 23 #[r] ∧ IsZP (w3.heap.size + 1) W r (cpf F G pre)) ∧ Below w3.heap.size w3 W)
    (fun _ _ _ => False)
    (fun pre X Y row hs hg hr => ⟨by obtain ⟨r, k1, k2⟩ := hs.1; exact ⟨r, k1.own hg (fun r e => (hr r e).2), k2.own hg (fun r e => (hr r e).2)⟩, ownFrom_below (β := Unit) (Nat.le_refl _) hx2.size () X Y row hs.2 hg hr⟩)
    (fun _ _ _ _ _ hs _ _ => hs)
    ⟨⟨_, eb2, IsZP.nil _ _⟩, hx2⟩
    (fun p a' W => ∃ Bx b A2 n2 c2, enc p = .agg #[.bool b, .slice A2 n2 c2] ∧ Box W Bx 28 #[.bool b, .slice A2 n2 c2] ∧ a' = { tmps := #[.slice A1 (pl F) c1, .slice E m.length d, undef, .pointer (some ⟨w.heap.size, 0, none⟩), .slice none 0 0, .int .i64 0, .int .i64 ((pl F : Int) - 1), .int .i64 ((pl G : Int) - 1), .pointer (some ⟨w3.heap.size, 0, none⟩), undef, .pointer (some ⟨Bx, 0, none⟩), .slice A l.length c, .slice A1 (pl F) c1, .slice E m.length d, .slice E1 (pl G) d1, .slice A1 (pl F) c1, .int .i64 (pl F), .int .i64 ((pl F : Int) - 1), .slice E1 (pl G) d1, .int .i64 (pl G), .int .i64 ((pl G : Int) - 1), .int .i64 ((pl F : Int) - 1), .bool true, .bool true, .int .i64 ((pl G : Int) - 1), .bool false, .bool false, .bool false, undef, undef, undef, undef, .bool false, .slice A1 (pl F) c1, .func (.func 133) #[] #[.pointer (some ⟨w3.heap.size + 1, 0, none⟩)], .int .i64 (p.1 : Nat), .agg #[.bool b, .slice A2 n2 c2], undef, undef, undef, undef, undef, undef, undef], defers := [] })
    (fun p a' _ X Y row hs hg hr => by obtain ⟨Bx, b, A2, n2, c2, k2, k3, k4⟩ := hs; exact ⟨Bx, b, A2, n2, c2, k2, k3.own hg (fun r e => (hr r e).2), k4⟩)
    ?assign ?body ?done ?stop
   case assign =>
    rintro lp pre p W K ⟨hi, hB⟩ hK
    obtain ⟨b, A2, n2, c2, hpv⟩ := (HE.out p).cells
    have HK := Lib.hid hK; clear hK
    have HI := Lib.hid (And.intro hi hB); clear hi
    gi_wp2
    obtain ⟨W9, eW9, e9, x9⟩ := Box.made W 28 #[.bool b, .slice A2 n2 c2] (by simp [isDig])
    rw [← eW9]
    refine HK.out _ _ ⟨x9.size, fun k o _ h0 _ => x9.blk h0⟩ ⟨x9.mono hB.size, fun v h => x9.cell h⟩ ⟨by obtain ⟨r, k1, k2⟩ := HI.out.1; exact ⟨r, k1.ext x9, k2.ext x9⟩, hB.trans (x9.mono hB.size)⟩ ⟨W.heap.size, b, A2, n2, c2, hpv, e9, rfl⟩
   case body =>
    rintro lp pre p a' W hl0 ⟨r, hr⟩ ⟨⟨z, eg, hz⟩, hB⟩ ⟨Bx, b, A2, n2, c2, k2, k3, rfl⟩ hlt
    have hB' : Ext w3 W := hB
    have HQ := Lib.hid (show IsZ W (.agg #[.bool b, .slice A2 n2 c2]) (F p.1).num from k2 ▸ (HE.out p).ext hB')
    have hgl := eg.lt
    have hul := (eu.ext hB').lt
    have euW := eu.ext hB'
    have g0 := eg.cells1
    have u0 := euW.cells1
    obtain ⟨e0, e1⟩ := k3.cells2
    have fg := eg.frozen
    gi_wp2
    have hmx : Tryz.prog.follows .mixedOrders = true := by kernel_rfl
    have xd : Ext W W.drew := Below.drew (Below.refl _ W)
    have xa := xd.alloc (.cells #[.bool b, .slice A2 n2 c2] 28)
    have y0 := xa.cell g0
    have y1 := xa.cell u0
    have Hm := Lib.hid (And.intro (hz.base_le (Nat.zero_le _)) (HP.out.2.ext hB' |>.base_le (Nat.zero_le _)))
    have HX := Lib.hid (And.intro xd xa)
    clear hz
    gi_region_with_o (first | (refine ⟨trivial, ?_⟩; gi_at_call 22; refine (CallsIn.inRound lp (callsIn_wide.2 (HMul.out pre hlt _ _ (Hm.out.1.ext xd) (Hm.out.2.ext xd)))).mono ?_; rintro e w5 ⟨r5, rfl, hr5, hx5⟩; obtain ⟨A5, d5, rfl, -⟩ := hr5.shape; have v0 := (xd.trans hx5).cell e0; have v1 := (xd.trans hx5).cell e1; have HA1 := Lib.hid (And.intro (And.intro ((hr5.base_le (Nat.zero_le _)).ext ((Ext.refl w5).alloc (.cells #[.bool b, .slice A2 n2 c2] 28))) (HRow.out w5 b A2 n2 c2 p.1 (HQ.out.kd (xd.trans hx5).kd))) ((xd.trans hx5).trans ((Ext.refl w5).alloc (.cells #[.bool b, .slice A2 n2 c2] 28)))); clear hr5) | (refine ⟨trivial, ?_⟩; gi_at_call 36; refine (CallsIn.inRound lp (callsIn_wide.2 (HAdd.out pre hlt _ _ _ p.1 HA1.out.1.1 HA1.out.1.2))).mono ?_; rintro e w6 ⟨r6, rfl, hr6, hx6⟩; obtain ⟨A6, d6, rfl, -⟩ := hr6.shape; have x6 := HA1.out.2.trans hx6; have eg6 := eg.ext x6; have f6 := eg6.frozen; have s0 := eg6.cells1; have Hr6 := Lib.hid (hr6.base_le (b := w3.heap.size + 1) (by have := HA1.out.2.size; omega)); clear hr6) | (refine ⟨trivial, ?_⟩; gi_at_call 22; refine (CallsIn.inRound lp (callsIn_wide.2 (HMul.out pre hlt _ _ (Hm.out.1.ext xa) (Hm.out.2.ext xa)))).mono ?_; rintro e w5 ⟨r5, rfl, hr5, hx5⟩; obtain ⟨A5, d5, rfl, -⟩ := hr5.shape; have HA1 := Lib.hid (And.intro (And.intro (hr5.base_le (Nat.zero_le _)) ((HRow.out W.drew b A2 n2 c2 p.1 (HQ.out.kd xd.kd)).ext hx5)) (xa.trans hx5)); clear hr5))
    all_goals gi_wp2
    all_goals
     obtain ⟨W7, eW7, e7, U7⟩ := eg6.put1 (.slice A6 (pl (pad (cv (cpf F G pre) G) (mono 0 (F p.1)))) d6) rfl
     have kf := kept1 W2.heap.size x6 eW7
     have kb := below1 (n₀ := w3.heap.size) (x6.mono hB'.size) eW7 (by omega)
     have kq := Hr6.out.up1 U7
     rw [← eW7]
     exact ⟨kf, ⟨kb, fun v h => upd_cell U7 (by simp) (x6.cell h)⟩, ⟨_, e7, by rw [cpf_snoc F G pre p]; exact kq⟩, Below.trans hB kb⟩
   case done =>
    rintro D ys W hD rfl ⟨⟨z, eg, hz⟩, hB⟩ hK
    rw [cpf_dz F G (pl F) (Nat.le_refl _)] at hz
    have hB' : Ext w3 W := hB
    have g0 := eg.cells1
    have Hz := Lib.hid hz; clear hz
    go_wp2
    have hx4 : Ext w (W.putObj D (.deferred none)) := Below.trans (hx.trans hB') (belowK_b (w := w) (Nat.le_refl _) W D _ _ (by have := hx2.size; have := hx.size; omega) hK rfl rfl)
    have hz4 := Hz.out.own (grownBy_putObj' W D (.deferred none)) (fun r e => by cases e; exact ⟨_, hK, rfl⟩)
    refine ⟨by simp, .inl ⟨_, _, rfl, run_takeDeferred hK, ?_⟩⟩
    exact ⟨_, by simp [results, Tryz.f46, go_sem], Gives.mk ⟨_, rfl, hz4.base_le (Nat.zero_le _)⟩ hx4⟩
   case stop =>
    rintro D c pre W _ _ h _
    exact h.elim
 ·skip
  go_wp2_with fail
  refine Calls.mono ((callsIn_wide (n := 5)).1 (zback_in Fence.wide 5 trivial rfl _ _ _ _)) ?_
  rintro e w5 ⟨rfl, rfl⟩
  go_wp2
  obtain ⟨W2, hW2⟩ : ∃ W2, (w3.alloc (.cells #[.slice none 0 0] 23)).alloc (.cells #[.slice A1 (pl F) c1] 23) = W2 := ⟨_, rfl⟩
  have h2sz : W2.heap.size = w3.heap.size + 2 := by rw [← hW2]; simp
  have hb2 : W2.cell? ⟨w3.heap.size + 1, 0, none⟩ = some (.slice A1 (pl F) c1) := by
   have := (Boxed.new (w3.alloc (.cells #[.slice none 0 0] 23)) 23 (.slice A1 (pl F) c1)).cell
   rw [World.size_alloc] at this
   rw [← hW2]; exact this
  have eb2 : Box W2 w3.heap.size 23 #[.slice none 0 0] := by rw [← hW2]; exact (Box.new w3 _ _ (by simp [isDig])).alloc _
  have hx2 : Ext w3 W2 := by rw [← hW2]; exact ((Ext.refl w3).alloc _).alloc _
  rw [hW2]
  clear hW2
  obtain ⟨enc, hE, hI⟩ := HEn.out W2 hx2
  have HE := Lib.hid hE; clear hE
  refine (wpIn_wide (n := 5)).1 ?_
  refine wpIn_rangeFunc_ownH rfl (by omega) (gf := 133) (lb := #[.pointer (some ⟨w3.heap.size + 1, 0, none⟩)]) rfl trivial (enters_of Tryz.func133 (by kernel_rfl) rfl)
   (zback_stops _ _ trivial rfl (by omega) (w3.heap.size + 1) w3.heap.size (pl F) c1 A1 enc (by omega) W2 (by omega) hx2.size hb2 hI) KpZ.trans (kpZ_b hx2.size) (Below.refl _ _) (fun _ => rfl)
   (fun pre W => (∃ r, Box W w3.heap.size 23 #[r] ∧ IsZP (w3.heap.size + 1) W r (cpf F G pre)) ∧ Below w3.heap.size w3 W)
   (fun _ _ _ => False)
   (fun pre X Y row hs hg hr => ⟨by obtain ⟨r, k1, k2⟩ := hs.1; exact ⟨r, k1.own hg (fun r e => (hr r e).2), k2.own hg (fun r e => (hr r e).2)⟩, ownFrom_below (β := Unit) (Nat.le_refl _) hx2.size () X Y row hs.2 hg hr⟩)
   (fun _ _ _ _ _ hs _ _ => hs)
   ⟨⟨_, eb2, IsZP.nil _ _⟩, hx2⟩
   (fun p a' W => ∃ Bx b A2 n2 c2, enc p = .agg #[.bool b, .slice A2 n2 c2] ∧ Box W Bx 28 #[.bool b, .slice A2 n2 c2] ∧ a' = { tmps := #[.slice A1 (pl F) c1, .slice E m.length d, undef, .pointer (some ⟨w.heap.size, 0, none⟩), .slice none 0 0, .int .i64 0, .int .i64 ((pl F : Int) - 1), .int .i64 ((pl G : Int) - 1), .pointer (some ⟨w3.heap.size, 0, none⟩), undef, .pointer (some ⟨Bx, 0, none⟩), .slice A l.length c, .slice A1 (pl F) c1, .slice E m.length d, .slice E1 (pl G) d1, .slice A1 (pl F) c1, .int .i64 (pl F), .int .i64 ((pl F : Int) - 1), .slice E1 (pl G) d1, .int .i64 (pl G), .int .i64 ((pl G : Int) - 1), .int .i64 ((pl F : Int) - 1), .bool false, .bool false, undef, undef, .bool false, .bool false, undef, undef, undef, undef, .bool false, .slice A1 (pl F) c1, .func (.func 133) #[] #[.pointer (some ⟨w3.heap.size + 1, 0, none⟩)], .int .i64 (p.1 : Nat), .agg #[.bool b, .slice A2 n2 c2], undef, undef, undef, undef, undef, undef, undef], defers := [] })
   (fun p a' _ X Y row hs hg hr => by obtain ⟨Bx, b, A2, n2, c2, k2, k3, k4⟩ := hs; exact ⟨Bx, b, A2, n2, c2, k2, k3.own hg (fun r e => (hr r e).2), k4⟩)
   ?assign ?body ?done ?stop
  case assign =>
   rintro lp pre p W K ⟨hi, hB⟩ hK
   obtain ⟨b, A2, n2, c2, hpv⟩ := (HE.out p).cells
   have HK := Lib.hid hK; clear hK
   have HI := Lib.hid (And.intro hi hB); clear hi
   gi_wp2
   obtain ⟨W9, eW9, e9, x9⟩ := Box.made W 28 #[.bool b, .slice A2 n2 c2] (by simp [isDig])
   rw [← eW9]
   refine HK.out _ _ ⟨x9.size, fun k o _ h0 _ => x9.blk h0⟩ ⟨x9.mono hB.size, fun v h => x9.cell h⟩ ⟨by obtain ⟨r, k1, k2⟩ := HI.out.1; exact ⟨r, k1.ext x9, k2.ext x9⟩, hB.trans (x9.mono hB.size)⟩ ⟨W.heap.size, b, A2, n2, c2, hpv, e9, rfl⟩
  case body =>
   rintro lp pre p a' W hl0 ⟨r, hr⟩ ⟨⟨z, eg, hz⟩, hB⟩ ⟨Bx, b, A2, n2, c2, k2, k3, rfl⟩ hlt
   have hB' : Ext w3 W := hB
   have HQ := Lib.hid (show IsZ W (.agg #[.bool b, .slice A2 n2 c2]) (F p.1).num from k2 ▸ (HE.out p).ext hB')
   have hgl := eg.lt
   have hul := (eu.ext hB').lt
   have euW := eu.ext hB'
   have g0 := eg.cells1
   have u0 := euW.cells1
   obtain ⟨e0, e1⟩ := k3.cells2
   have fg := eg.frozen
   gi_wp2
   have hmx : Tryz.prog.follows .mixedOrders = true := by kernel_rfl
   have xd : Ext W W.drew := Below.drew (Below.refl _ W)
   have xa := xd.alloc (.cells #[.bool b, .slice A2 n2 c2] 28)
   have y0 := xa.cell g0
   have y1 := xa.cell u0
   have Hm := Lib.hid (And.intro (hz.base_le (Nat.zero_le _)) (HP.out.2.ext hB' |>.base_le (Nat.zero_le _)))
   have HX := Lib.hid (And.intro xd xa)
   clear hz
   gi_region_with_o (first | (refine ⟨trivial, ?_⟩; gi_at_call 22; refine (CallsIn.inRound lp (callsIn_wide.2 (HMul.out pre hlt _ _ (Hm.out.1.ext xd) (Hm.out.2.ext xd)))).mono ?_; rintro e w5 ⟨r5, rfl, hr5, hx5⟩; obtain ⟨A5, d5, rfl, -⟩ := hr5.shape; have v0 := (xd.trans hx5).cell e0; have v1 := (xd.trans hx5).cell e1; have HA1 := Lib.hid (And.intro (And.intro ((hr5.base_le (Nat.zero_le _)).ext ((Ext.refl w5).alloc (.cells #[.bool b, .slice A2 n2 c2] 28))) (HRow.out w5 b A2 n2 c2 p.1 (HQ.out.kd (xd.trans hx5).kd))) ((xd.trans hx5).trans ((Ext.refl w5).alloc (.cells #[.bool b, .slice A2 n2 c2] 28)))); clear hr5) | (refine ⟨trivial, ?_⟩; gi_at_call 36; refine (CallsIn.inRound lp (callsIn_wide.2 (HAdd.out pre hlt _ _ _ p.1 HA1.out.1.1 HA1.out.1.2))).mono ?_; rintro e w6 ⟨r6, rfl, hr6, hx6⟩; obtain ⟨A6, d6, rfl, -⟩ := hr6.shape; have x6 := HA1.out.2.trans hx6; have eg6 := eg.ext x6; have f6 := eg6.frozen; have s0 := eg6.cells1; have Hr6 := Lib.hid (hr6.base_le (b := w3.heap.size + 1) (by have := HA1.out.2.size; omega)); clear hr6) | (refine ⟨trivial, ?_⟩; gi_at_call 22; refine (CallsIn.inRound lp (callsIn_wide.2 (HMul.out pre hlt _ _ (Hm.out.1.ext xa) (Hm.out.2.ext xa)))).mono ?_; rintro e w5 ⟨r5, rfl, hr5, hx5⟩; obtain ⟨A5, d5, rfl, -⟩ := hr5.shape; have HA1 := Lib.hid (And.intro (And.intro (hr5.base_le (Nat.zero_le _)) ((HRow.out W.drew b A2 n2 c2 p.1 (HQ.out.kd xd.kd)).ext hx5)) (xa.trans hx5)); clear hr5))
   all_goals gi_wp2
   all_goals
    obtain ⟨W7, eW7, e7, U7⟩ := eg6.put1 (.slice A6 (pl (pad (cv (cpf F G pre) G) (mono 0 (F p.1)))) d6) rfl
    have kf := kept1 W2.heap.size x6 eW7
    have kb := below1 (n₀ := w3.heap.size) (x6.mono hB'.size) eW7 (by omega)
    have kq := Hr6.out.up1 U7
    rw [← eW7]
    exact ⟨kf, ⟨kb, fun v h => upd_cell U7 (by simp) (x6.cell h)⟩, ⟨_, e7, by rw [cpf_snoc F G pre p]; exact kq⟩, Below.trans hB kb⟩
  case done =>
   rintro D ys W hD rfl ⟨⟨z, eg, hz⟩, hB⟩ hK
   rw [cpf_dz F G (pl F) (Nat.le_refl _)] at hz
   have hB' : Ext w3 W := hB
   have g0 := eg.cells1
   have Hz := Lib.hid hz; clear hz
   go_wp2
   have hx4 : Ext w (W.putObj D (.deferred none)) := Below.trans (hx.trans hB') (belowK_b (w := w) (Nat.le_refl _) W D _ _ (by have := hx2.size; have := hx.size; omega) hK rfl rfl)
   have hz4 := Hz.out.own (grownBy_putObj' W D (.deferred none)) (fun r e => by cases e; exact ⟨_, hK, rfl⟩)
   refine ⟨by simp, .inl ⟨_, _, rfl, run_takeDeferred hK, ?_⟩⟩
   exact ⟨_, by simp [results, Tryz.f46, go_sem], Gives.mk ⟨_, rfl, hz4.base_le (Nat.zero_le _)⟩ hx4⟩
  case stop =>
   rintro D c pre W _ _ h _
   exact h.elim
set_option maxRecDepth 100000 in
set_option maxHeartbeats 8000000 in
theorem zcompose_big (v u : Value) (l m : List Int) (w : World) (hv : HzV 0 w v l) (hu : HzV 0 w u m) (hl : l.length ≤ 100) (hm : m.length ≤ 100)
  (hd : 1 < pl (cz l) ∧ 1 < pl (cz m) ∧ (64 : Int) / ((pl (cz m) : Int) - 1) < (pl (cz l) : Int) - 1) :
  Calls Tryz.prog 46 #[v, u] w (Gives w fun r _ => r = .tuple #[.slice none 0 0, .int .i64 7]) := by
 have HV := Lib.hid hv; have HU := Lib.hid hu
 obtain ⟨A, c, rfl⟩ := hv.len
 obtain ⟨E, d, rfl⟩ := hu.len
 clear hv hu
 have hn1 := fun W (x : Ext w W) => normal_zp (.slice A l.length c) l W (HV.out.ext x) (by omega)
 have hn2 := fun W (x : Ext w W) => normal_zp (.slice E m.length d) m W (HU.out.ext x) (by omega)
 have HN := Lib.hid (And.intro hn1 hn2); clear hn1 hn2
 have hp0 : pl (cz l) ≤ 100 := Nat.le_trans (pl_le (cz_sup l)) hl
 have hq0 : pl (cz m) ≤ 100 := Nat.le_trans (pl_le (cz_sup m)) hm
 obtain ⟨F, hF⟩ : ∃ F, F = cz l := ⟨_, rfl⟩
 obtain ⟨G, hG⟩ : ∃ G, G = cz m := ⟨_, rfl⟩
 simp only [← hF, ← hG] at HN hp0 hq0 hd ⊢
 clear hF hG HV HU
 have HD := Lib.hid hd; clear hd
 go_enter Tryz.func46, Tryz.ntmps46
 have eu := Box.new w 23 #[.slice E m.length d] (by simp [isDig])
 have hx := (Ext.refl w).alloc (.cells #[.slice E m.length d] 23)
 go_upto_region 1 with (fail)
 generalize w.alloc (.cells #[.slice E m.length d] 23) = w0 at *
 have e0 := eu.cells1
 refine wp_region_par (k := 4) (D := [11, 12, 13, 14]) (T := [[], [0], [], [0, 1, 2], [0, 1, 2, 3], [0, 1, 2, 3, 4]]) (EK := [0, 3]) (EV := [?e3x0, ?e3x1]) (VL := [(kv ?v3x0), (fun γ => γ 1), (kv ?v3x2), (fun γ => γ 3)]) (FL := fun γ w' => [True, IsZP (w.heap.size + 1) w' (γ 1) F, True, IsZP (w.heap.size + 1) w' (γ 3) G]) ?hE3 (by kernel_rfl) (by kernel_rfl) (by rfl) (by kernel_rfl) ?hloc3 ?hmono3 ?hstep3 ?htail3
 case hE3 => refine ⟨?_, ?_, trivial⟩ <;> (simp only [List.getElem?_toArray, List.getElem?_cons_succ, List.getElem?_cons_zero]; rfl)
 case hstep3 =>
  refine ⟨⟨⟨⟨trivial, ?_⟩, ?_⟩, ?_⟩, ?_⟩
  ·intro γ w' he hf; clear hf; refine ⟨trivial, ?_⟩; intro R hR
   have hc := he.cells
   go_simp
   (try go_ints); (try (rw [if_neg (by omega)])); (try (rw [if_pos (by omega)])); (try go_simp); (try go_ints)
   refine hR _ _ (Ext.refl _) ?_ trivial
   rfl
  ·intro γ w' he hf; clear hf; refine ⟨trivial, ?_⟩; intro R hR
   go_simp
   refine Calls.mono (show Calls _ _ _ w' (Gives w' fun r w'' => IsZP (w.heap.size + 1) w'' (r) F) from Gives.imp (HN.out.1 w' (hx.trans he)) fun _ _ h => h.base_le (eu.ext he).lt) ?_
   rintro e w2 ⟨v, rfl, hv, hx⟩
   exact ⟨v, rfl, hR v w2 hx rfl hv⟩
  ·intro γ w' he hf; clear hf; refine ⟨trivial, ?_⟩; intro R hR
   have hc := he.cells
   have cq0 := he.cell e0
   go_simp
   (try go_ints); (try (rw [if_neg (by omega)])); (try (rw [if_pos (by omega)])); (try go_simp); (try go_ints)
   refine hR _ _ (Ext.refl _) ?_ trivial
   rfl
  ·intro γ w' he hf; have f1 : IsZP (w.heap.size + 1) w' (γ 1) F := hf 1 (by decide); clear hf; refine ⟨trivial, ?_⟩; intro R hR
   go_simp
   refine Calls.mono (show Calls _ _ _ w' (Gives w' fun r w'' => IsZP (w.heap.size + 1) w'' (r) G) from Gives.imp (HN.out.2 w' (hx.trans he)) fun _ _ h => h.base_le (eu.ext he).lt) ?_
   rintro e w2 ⟨v, rfl, hv, hx⟩
   exact ⟨v, rfl, hR v w2 hx rfl hv⟩
 case hloc3 =>
  exact ⟨⟨⟨⟨trivial, (fun γ γ' h => ⟨rfl, fun _ => rfl⟩)⟩, (fun γ γ' h => ⟨h 1 rfl, fun w' => (congrArg (fun a => IsZP (w.heap.size + 1) w' (a) F) (h 1 rfl))⟩)⟩, (fun γ γ' h => ⟨rfl, fun _ => rfl⟩)⟩, (fun γ γ' h => ⟨h 3 rfl, fun w' => (congrArg (fun a => IsZP (w.heap.size + 1) w' (a) G) (h 3 rfl))⟩)⟩
 case hmono3 =>
  exact ⟨⟨⟨⟨trivial, (fun γ wA w' e h => h)⟩, (fun γ wA w' e h => (show IsZP (w.heap.size + 1) wA (γ 1) F from h).ext e)⟩, (fun γ wA w' e h => h)⟩, (fun γ wA w' e h => (show IsZP (w.heap.size + 1) wA (γ 3) G from h).ext e)⟩
 intro γ w1 hx1 hF
 have p1 : IsZP (w.heap.size + 1) w1 (γ 1) F := Each.get hF 1 (by decide)
 have p3 : IsZP (w.heap.size + 1) w1 (γ 3) G := Each.get hF 3 (by decide)
 clear hF
 simp only [fillAll, gV, kv, List.getD_cons_zero, List.getD_cons_succ, Act.put, List.setIfInBounds_toArray, List.set_cons_zero, List.set_cons_succ, List.toList_toArray, List.drop_succ_cons, List.drop_zero, List.drop_nil, Nat.zero_add, Nat.reduceAdd]
 generalize γ 1 = g1 at *
 generalize γ 3 = g3 at *
 clear γ
 obtain ⟨A1, c1, rfl, -⟩ := p1.shape
 obtain ⟨E1, d1, rfl, -⟩ := p3.shape
 replace eu := eu.ext hx1
 replace hx := hx.trans hx1
 clear hx1 e0 p1 p3
 have e0 := eu.cells1
 have fe := eu.frozen
 go_upto_region 2 with (fail)
 obtain ⟨w2, eW, eu', U⟩ := eu.put1 (.slice E1 (pl G) d1) rfl
 rw [← eW]
 replace hx := U.from_ hx (by simp <;> omega)
 have eu := eu'
 clear eW U eu' e0 fe
 have e0 := eu.cells1
 refine wp_region_par (k := 7) (D := [15, 16, 17, 18, 19, 20, 6]) (T := [[], [0], [0, 1], [], [3], [3, 4], [0, 1, 2], [0, 1, 2, 3, 4, 5, 6]]) (EK := [0, 3]) (EV := [?e4x0, ?e4x1]) (VL := [(kv ?v4x0), (kv ?v4x1), (kv ?v4x2), (kv ?v4x3), (kv ?v4x4), (kv ?v4x5), (kv ?v4x6)]) (FL := fun γ w' => [True, True, True, True, True, True, True]) ?hE4 (by kernel_rfl) (by kernel_rfl) (by rfl) (by kernel_rfl) ?hloc4 ?hmono4 ?hstep4 ?htail4
 case hE4 => refine ⟨?_, ?_, trivial⟩ <;> (simp only [List.getElem?_toArray, List.getElem?_cons_succ, List.getElem?_cons_zero]; rfl)
 case hstep4 =>
  refine ⟨⟨⟨⟨⟨⟨⟨trivial, ?_⟩, ?_⟩, ?_⟩, ?_⟩, ?_⟩, ?_⟩, ?_⟩
  ·intro γ w' he hf; clear hf; refine ⟨trivial, ?_⟩; intro R hR
   have hc := he.cells
   go_simp
   (try go_ints); (try (rw [if_neg (by omega)])); (try (rw [if_pos (by omega)])); (try go_simp); (try go_ints)
   refine hR _ _ (Ext.refl _) ?_ trivial
   rfl
  ·intro γ w' he hf; clear hf; refine ⟨trivial, ?_⟩; intro R hR
   have hc := he.cells
   go_simp
   (try go_ints); (try (rw [if_neg (by omega)])); (try (rw [if_pos (by omega)])); (try go_simp); (try go_ints)
   refine hR _ _ (Ext.refl _) ?_ trivial
   rfl
  ·intro γ w' he hf; clear hf; refine ⟨trivial, ?_⟩; intro R hR
   have hc := he.cells
   go_simp
   (try go_ints); (try (rw [if_neg (by omega)])); (try (rw [if_pos (by omega)])); (try go_simp); (try go_ints)
   refine hR _ _ (Ext.refl _) ?_ trivial
   rfl
  ·intro γ w' he hf; clear hf; refine ⟨trivial, ?_⟩; intro R hR
   have hc := he.cells
   have cq0 := he.cell e0
   go_simp
   (try go_ints); (try (rw [if_neg (by omega)])); (try (rw [if_pos (by omega)])); (try go_simp); (try go_ints)
   refine hR _ _ (Ext.refl _) ?_ trivial
   rfl
  ·intro γ w' he hf; clear hf; refine ⟨trivial, ?_⟩; intro R hR
   have hc := he.cells
   go_simp
   (try go_ints); (try (rw [if_neg (by omega)])); (try (rw [if_pos (by omega)])); (try go_simp); (try go_ints)
   refine hR _ _ (Ext.refl _) ?_ trivial
   rfl
  ·intro γ w' he hf; clear hf; refine ⟨trivial, ?_⟩; intro R hR
   have hc := he.cells
   go_simp
   (try go_ints); (try (rw [if_neg (by omega)])); (try (rw [if_pos (by omega)])); (try go_simp); (try go_ints)
   refine hR _ _ (Ext.refl _) ?_ trivial
   rfl
  ·intro γ w' he hf; clear hf; refine ⟨trivial, ?_⟩; intro R hR
   have hc := he.cells
   go_simp
   (try go_ints); (try (rw [if_neg (by omega)])); (try (rw [if_pos (by omega)])); (try go_simp); (try go_ints)
   refine hR _ _ (Ext.refl _) ?_ trivial
   rfl
 case hloc4 =>
  exact ⟨⟨⟨⟨⟨⟨⟨trivial, (fun γ γ' h => ⟨rfl, fun _ => rfl⟩)⟩, (fun γ γ' h => ⟨rfl, fun _ => rfl⟩)⟩, (fun γ γ' h => ⟨rfl, fun _ => rfl⟩)⟩, (fun γ γ' h => ⟨rfl, fun _ => rfl⟩)⟩, (fun γ γ' h => ⟨rfl, fun _ => rfl⟩)⟩, (fun γ γ' h => ⟨rfl, fun _ => rfl⟩)⟩, (fun γ γ' h => ⟨rfl, fun _ => rfl⟩)⟩
 case hmono4 =>
  exact ⟨⟨⟨⟨⟨⟨⟨trivial, (fun γ wA w' e h => h)⟩, (fun γ wA w' e h => h)⟩, (fun γ wA w' e h => h)⟩, (fun γ wA w' e h => h)⟩, (fun γ wA w' e h => h)⟩, (fun γ wA w' e h => h)⟩, (fun γ wA w' e h => h)⟩
 intro γ w3 hx3 hF
 clear hF
 simp only [fillAll, gV, kv, List.getD_cons_zero, List.getD_cons_succ, Act.put, List.setIfInBounds_toArray, List.set_cons_zero, List.set_cons_succ, List.toList_toArray, List.drop_succ_cons, List.drop_zero, List.drop_nil, Nat.zero_add, Nat.reduceAdd]
 clear γ
 replace eu := eu.ext hx3
 replace hx := hx.trans hx3
 clear hx3 e0
 have h1 := HD.out.1
 have h2 := HD.out.2.1
 have h3 := HD.out.2.2
 have h4 : 0 ≤ (64 : Int) / ((pl G : Int) - 1) := Int.ediv_nonneg (by omega) (by omega)
 have h5 : (64 : Int) / ((pl G : Int) - 1) ≤ 64 := Int.ediv_le_self _ (by omega)
 have h6 : Int.tdiv 64 ((pl G : Int) - 1) = 64 / ((pl G : Int) - 1) := Int.tdiv_eq_ediv_of_nonneg (by omega)
 clear HD
 generalize (64 : Int) / ((pl G : Int) - 1) = q at *
 go_wp2
 go_ret2
 exact Gives.mk rfl hx
end Go.Proofs.YtfacbpnegkjcgaaGreatDoor
