/- Lemmas: The walk of slices.Backward over a slice of integers. The walk of zpoly.term, at three terms, and of zpoly.Format at 3*x^2 - x + 5. The contracts of rational's functions: Sub, Cmp; qpoly.zero. The walks of qpoly: rows. The walks of qpoly: Add, Sub, Scale. The walks of qpoly: Scale; the wrappers. The walk of qpoly.Mul. The walks of qpoly: Derivative. The division, place by place. Plain. The walk of qpoly.divide. Power sums, one after the other; how many digits they need. Plain. How many digits power sums need. Plain. The reference's power sums: what is left of the shifted derivative. Plain. The polynomial with given power sums. Plain. The walks of the reference's polynomials: Normal, Degree, At. The walks of the reference's polynomials: Add, Scale, Sub, Derivative. The walks of the reference's polynomials: Sub, Derivative, Mul. The walk of the reference's division of polynomials. Euclid's algorithm for polynomials: what a round keeps; sizes. Plain. Interpolation: Newton's and Lagrange's way; sizes. Plain. Euclid's algorithm with cofactors: what a round keeps; sizes. Plain. The walks of the reference's polynomials: Lead, Monic, Eval; contracts over polynomials. The walks of qpoly: monic, DivMod. The walks of qpoly: PowerSums. The walks of the reference's polynomials: PowerSums. The walks of qpoly: FromPowerSums. The walks of the reference's polynomials: FromPowerSums. The walks of the statements' helpers: Z, Q, Qs, Frac, SameRats. The walks of the statements' helpers: Frac. The walks of the statements' helpers: awake, long. What an argument reads as: polynomials in any form; the walk of long. Points: two fractions side by side; slices of points. What an argument reads as: slices of structs, once for all. Polynomials over the integers as arguments. The walks of the reference's polynomials over the integers: Normal, Degree, At, Lead. The walks of the helpers of the statements about zpoly: Zs, long. The walk of SameInts. The walk of awake of the statements about zpoly. The walks of the reference's polynomials over the integers: Content, Over, Primitive. Contracts of zpoly's functions over polynomials. The walk of the statement ZpolyContents. Determinants are multiplicative. Plain. Division of polynomials over the integers without remainder. Plain. The greatest common divisor over the integers: what a round keeps; what comes out. Plain. Resultants are multiplicative; when they are 0. Plain. How many digits a determinant, a resultant needs. Plain. Elimination: what a round does to the determinant. And: the leading coefficient divides the resultant with the derivative. Plain. Rows of rows of fractions: as they are appended, and as a matrix that is changed in place. Plain. The walks of the reference's polynomials over the integers: Add, Scale, Sub. -/
import Derived.Test.YtfacbpnegkjcgaaGreatDoorSf1
import Derived.Test.YtfacbpnegkjcgaaGreatDoorSf2
import Derived.Test.YtfacbpnegkjcgaaGreatDoorSf3
import Derived.RangeFuncNested
import Derived.RangeFuncBound
import Derived.RangeFuncCalls
import Derived.RangeFuncLeaves
import Derived.Shelf.Abstract
import Derived.Shelf.RegionOpen
import Derived.WalkKit
import Derived.OwnWalkIn
import Derived.TacticsInMore
import Derived.LoopNIn
import Derived.LoopIn
import Derived.Deep.RegionWith
import Derived.ProofKit
import Derived.ChangeSlices
import Derived.Deep.Slices
set_option linter.unusedVariables false
set_option linter.unusedSimpArgs false
namespace Go.Hp
open Go.RowKit
def dz (n k : Nat) (h : k ≤ n) : List (Fin n) := (List.range k).pmap (fun j (hj : j < n) => (⟨n - 1 - j, by omega⟩ : Fin n)) (fun j hj => by have := List.mem_range.1 hj; omega)
theorem dz_succ {n k : Nat} (h : k + 1 ≤ n) : dz n (k + 1) h = dz n k (by omega) ++ [⟨n - 1 - k, by omega⟩] := by
 unfold dz
 simp [List.range_succ, List.pmap_append]
theorem dz_length {n k : Nat} (h : k ≤ n) : (dz n k h).length = k := by simp [dz]
def IntCells (W : World) (b o : Nat) (v : Value) : Prop :=
 ∃ b1 A1 n1 c1, v = .agg #[.bool b1, .slice A1 n1 c1] ∧ W.cell? ⟨b, o, none⟩ = some (.bool b1) ∧ W.cell? ⟨b, o + 1, none⟩ = some (.slice A1 n1 c1)
theorem IntCells.below {n₀ b o : Nat} {A B : World} {v : Value} (h : Below n₀ A B) (hb : b < n₀) (c : IntCells A b o v) : IntCells B b o v := by
 obtain ⟨b1, A1, n1, c1, e, q0, q1⟩ := c
 exact ⟨b1, A1, n1, c1, e, (h.cell (p := ⟨b, o, none⟩) hb).trans q0, (h.cell (p := ⟨b, o + 1, none⟩) hb).trans q1⟩
def KpZ (n₀ Bs : Nat) (W W' : World) : Prop := Below n₀ W W' ∧ ∀ v, W.cell? ⟨Bs, 0, none⟩ = some v → W'.cell? ⟨Bs, 0, none⟩ = some v
theorem KpZ.refl (n₀ Bs : Nat) (W : World) : KpZ n₀ Bs W W := ⟨Below.refl _ _, fun _ h => h⟩
theorem KpZ.trans {n₀ Bs : Nat} {A B C : World} (h : KpZ n₀ Bs A B) (k : KpZ n₀ Bs B C) : KpZ n₀ Bs A C := ⟨h.1.trans k.1, fun v e => k.2 v (h.2 v e)⟩
theorem kpZ_b {n₀ Bs : Nat} {w : World} (hn : n₀ ≤ w.heap.size) (W : World) (l : Nat) (o o' : Obj) (hl : w.heap.size ≤ l) (h : W.heap[l]? = some o) (h1 : o.isCells = false) (h2 : o.isWalk = false) : KpZ n₀ Bs W (W.putObj l o') :=
 ⟨belowK_b hn W l o o' hl h h1 h2, fun v e => cell_kept e (grownBy_putObj' W l o') (fun r er => by cases er; exact ⟨o, h, h1⟩)⟩
end Go.Hp
namespace Go.Proofs.YtfacbpnegkjcgaaGreatDoor
open Go.RowKit Go.Hp Go.Shelf
attribute [local go_sem] Oper.semAt_some
set_option maxRecDepth 100000 in
set_option maxHeartbeats 2000000 in
theorem zback1_in (F : Fence) (n : Nat) (h7 : F.fn 133) (hro : F.round = none) (hn : 1 ≤ n) (l Bs n₀ b off len cap : Nat) (enc : Fin len → Value) (hreach : len * 4 ≤ 1099511627776) (hb : b < n₀) (J Jx : List (Fin len) → World → Prop)
  (hY : ∀ pre x W, J pre W → pre.length < len → YieldAt F (n - 1) Tryz.prog l #[.int .i64 (x.1 : Nat), enc x] W fun e W' =>
   (e = .returned (.bool true) ∧ J (pre ++ [x]) W' ∧ KpZ n₀ Bs W W') ∨ (e = .returned (.bool false) ∧ Jx (pre ++ [x]) W'))
  (W : World) (hBs : W.cell? ⟨Bs, 0, none⟩ = some (.slice (some ⟨b, off, none⟩) len cap)) (hc : ∀ j (hj : j < len), IntCells W b (off + j * 2) (enc ⟨j, hj⟩)) (h0 : J [] W) :
  CallsIn F n Tryz.prog 133 #[.func (.yield l) #[] #[], .pointer (some ⟨Bs, 0, none⟩)] W fun e W' => (∃ v, e = .returned v) ∧
   ((∃ ys, ys = dz len len (Nat.le_refl _) ∧ J ys W') ∨ (∃ pre, (∃ k, ∃ h : k ≤ len, pre = dz len k h) ∧ Jx pre W')) := by
 refine callsIn_of_wp Tryz.func133 rfl h7 ?_ hro
 simp only [Tryz.ntmps133, List.size_toArray, List.length_cons, List.length_nil, Nat.reduceAdd, Nat.reduceSub, Array.replicate_succ, Array.replicate_zero, List.push_toArray, List.append_toArray, List.nil_append, List.cons_append]
 gi_wp2
 gi_loopw [3] (fun i wr => ∃ (k : Nat) (hk : k ≤ len), i = .int .i64 ((len : Int) - 1 - k) ∧ J (dz len k hk) wr ∧ KpZ n₀ Bs W wr)
  (fun i _ => (intOf i + 1).toNat)
 case atStart => exact ⟨0, Nat.zero_le _, by go_num, h0, KpZ.refl _ _ _⟩
 case round =>
  obtain ⟨k, hk, rfl, hJs, hnx⟩ := hrel
  by_cases hlt : k < len
  ·obtain ⟨b1, A1, n1, c1, hv, q0, q1⟩ := (hc (len - 1 - k) (by omega)).below hnx.1 hb
   have hbx := hnx.2 _ hBs
   obtain ⟨fn, tmps, assign, body, hy, hR⟩ := hY _ ⟨len - 1 - k, by omega⟩ wr hJs (by rw [dz_length]; exact hlt)
   dsimp only at hy
   rw [hv] at hy
   obtain ⟨m, hm⟩ : ∃ m, m = len - 1 - k := ⟨_, rfl⟩
   have hmi : (len : Int) - 1 - k = (m : Int) := by omega
   have hml : m < len := by omega
   simp only [← hm] at hy q0 q1
   rw [hmi]
   clear hJs hY h0 hc
   have Hm := Lib.hid (And.intro hm hmi); clear hm hmi
   gi_wp2
   refine hR.mono ?_
   rintro e W3 (⟨rfl, hJ3, hk3⟩ | ⟨rfl, hJx3⟩)
   ·gi_wp2
    go_roundw
    case rel => exact ⟨k + 1, by omega, by have := Hm.out.2; congr 1; omega, by rw [dz_succ]; exact hJ3, hnx.trans hk3⟩
    case measure => simp [intOf]
   ·gi_wp2
    refine bodyPost_ret (results_none rfl _ _ _) rfl ?_
    exact ⟨⟨_, rfl⟩, .inr ⟨_, ⟨k + 1, by omega, (dz_succ (by omega)).symm⟩, hJx3⟩⟩
  ·obtain rfl : k = len := by omega
   gi_wp2
   go_end0
   exact ⟨⟨_, rfl⟩, .inl ⟨_, rfl, hJs⟩⟩
set_option maxRecDepth 100000 in
set_option maxHeartbeats 1000000 in
theorem zback1_none_in (F : Fence) (n : Nat) (h7 : F.fn 133) (hro : F.round = none) (l Bs cap : Nat) (A : Option Addr) (J : List (Fin 0) → World → Prop) (W : World) (hBs : W.cell? ⟨Bs, 0, none⟩ = some (.slice A 0 cap)) (h0 : J [] W) :
  CallsIn F n Tryz.prog 133 #[.func (.yield l) #[] #[], .pointer (some ⟨Bs, 0, none⟩)] W fun e W' => (∃ v, e = .returned v) ∧ J [] W' := by
 refine callsIn_of_wp Tryz.func133 rfl h7 ?_ hro
 simp only [Tryz.ntmps133, List.size_toArray, List.length_cons, List.length_nil, Nat.reduceAdd, Nat.reduceSub, Array.replicate_succ, Array.replicate_zero, List.push_toArray, List.append_toArray, List.nil_append, List.cons_append]
 gi_wp2
 gi_loopw [3] (fun i wr => i = .int .i64 (-1) ∧ J [] wr) (fun _ _ => 0)
 case atStart => exact ⟨rfl, h0⟩
 case round =>
  obtain ⟨rfl, hJs⟩ := hrel
  gi_wp2
  go_end0
  exact ⟨⟨_, rfl⟩, hJs⟩
set_option maxHeartbeats 1000000 in
/-- slices.Backward(s): the slice is boxed; the function captures the box. -/
theorem zback_in (F : Fence) (n : Nat) (h5 : F.fn 89) (hro : F.round = none) (a : Option Addr) (len cap : Nat) (w : World) :
  CallsIn F n Tryz.prog 89 #[.slice a len cap] w fun e w' => e = .returned (.func (.func 133) #[] #[.pointer (some ⟨w.heap.size, 0, none⟩)]) ∧ w' = w.alloc (.cells #[.slice a len cap] 23) := by
 refine callsIn_of_wp Tryz.func89 rfl h5 ?_ hro
 simp only [Tryz.ntmps89, List.size_toArray, List.length_cons, List.length_nil, Nat.reduceAdd, Nat.reduceSub, Array.replicate_succ, Array.replicate_zero, List.push_toArray, List.append_toArray, List.nil_append, List.cons_append]
 gi_wp2
 go_ret
 exact ⟨rfl, rfl⟩
theorem zback_stops (F : Fence) (n : Nat) (h7 : F.fn 133) (hro : F.round = none) (hn : 1 ≤ n) (Bs n₀ len cap : Nat) (A : Option Addr) (enc : Fin len → Value) (hreach : len * 4 ≤ 1099511627776) (w : World) (hBs : Bs < w.heap.size) (hn₀ : n₀ ≤ w.heap.size)
  (hc : w.cell? ⟨Bs, 0, none⟩ = some (.slice A len cap)) (hI : 0 < len → ∃ b off, A = some ⟨b, off, none⟩ ∧ b < n₀ ∧ ∀ j (hj : j < len), IntCells w b (off + j * 2) (enc ⟨j, hj⟩)) :
  SeqStopsK F n Tryz.prog 133 #[.pointer (some ⟨Bs, 0, none⟩)] (fun x : Fin len => #[Value.int .i64 (x.1 : Nat), enc x]) (KpZ n₀ Bs) (fun ys => ys = dz len len (Nat.le_refl _)) (fun pre => ∃ k, ∃ h : k ≤ len, pre = dz len k h) len w := fun l J Jx W hW _ _ hY h0 => by
 have hc' := (hW.cell (p := ⟨Bs, 0, none⟩) hBs).trans hc
 by_cases hl : 0 < len
 ·obtain ⟨b, off, rfl, hb, hcs⟩ := hI hl
  exact zback1_in F n h7 hro hn l Bs n₀ b off len cap enc hreach hb J Jx hY W hc' (fun j hj => (hcs j hj).below (hW.mono hn₀) hb) h0
 ·obtain rfl : len = 0 := by omega
  exact (zback1_none_in F n h7 hro l Bs cap A J W hc' h0).mono fun e W' ⟨he, hj⟩ => ⟨he, .inl ⟨_, rfl, hj⟩⟩
end Go.Proofs.YtfacbpnegkjcgaaGreatDoor
namespace Go.Hp
open Go.RowKit
theorem topR_of {l : List Rat} (h : co l (l.length - 1) ≠ 0) : TopR l := fun h0 => by rw [← co_lt]; exact h
def stp (s : List UInt8) (x : Int) (t : List UInt8) : List UInt8 := s ++ (if s = [] then (if x < 0 then [45] else []) else if x < 0 then [32, 45, 32] else [32, 43, 32]) ++ t
def cf3 (j : Fin 3) : Int := if j.1 = 0 then 5 else if j.1 = 1 then -1 else 3
def tf3 (j : Fin 3) : List UInt8 := if j.1 = 0 then [53] else if j.1 = 1 then [120] else [51, 42, 120, 94, 50]
def acc3 (pre : List (Fin 3)) : List UInt8 := pre.foldl (fun s j => stp s (cf3 j) (tf3 j)) []
theorem acc3_snoc (pre : List (Fin 3)) (j : Fin 3) : acc3 (pre ++ [j]) = stp (acc3 pre) (cf3 j) (tf3 j) := by simp [acc3]
theorem stp_len (s : List UInt8) (x : Int) (t : List UInt8) : (stp s x t).length ≤ s.length + 3 + t.length := by
 unfold stp
 rw [List.length_append, List.length_append]
 split <;> split <;> simp <;> omega
theorem tf3_len (j : Fin 3) : (tf3 j).length ≤ 5 := by unfold tf3; split <;> (try split) <;> simp
theorem acc3_len (pre : List (Fin 3)) : (acc3 pre).length ≤ 8 * pre.length := by
 have key : ∀ (pre : List (Fin 3)) (s : List UInt8), (pre.foldl (fun s j => stp s (cf3 j) (tf3 j)) s).length ≤ s.length + 8 * pre.length := by
  intro pre
  induction pre with
  | nil => intro s; simp
  | cons p pre ih =>
   intro s
   have h1 := ih (stp s (cf3 p) (tf3 p))
   have h2 := stp_len s (cf3 p) (tf3 p)
   have h3 := tf3_len p
   rw [List.foldl_cons, List.length_cons]
   omega
 have := key pre []
 simpa [acc3] using this
theorem acc3_all : acc3 (dz 3 3 (Nat.le_refl _)) = [51, 42, 120, 94, 50, 32, 45, 32, 120, 32, 43, 32, 53] := by decide
end Go.Hp
namespace Go.Proofs.YtfacbpnegkjcgaaGreatDoor
open Go.RowKit Go.Hp
theorem term_c (v : Value) (w : World) (hv : HasZ w v (5)) : Calls Tryz.prog 102 #[v, .int .i64 0] w (Gives w fun r _ => r = .string ⟨#[53]⟩) := by
 have HV := Lib.hid hv
 obtain ⟨b0, A0, n0, c0, rfl⟩ := hv.cells
 clear hv
 go_enter Tryz.func102, Tryz.ntmps102
 go_wp2_with fail
 refine Calls.mono (abs_z _ (5) _ (HV.out.ext ((Ext.refl w).alloc _))) ?_
 rintro e w1 ⟨r1, rfl, hr, hx1⟩
 obtain ⟨b5, A5, n5, c5, rfl⟩ := hr.cells
 go_wp2_with fail
 refine Calls.mono (format_one _ 5 _ hr (by omega) (by omega)) ?_
 rintro e w2 ⟨r2, rfl, rfl, hx2⟩
 rw [show UInt8.ofNat (48 + 5) = 53 from rfl]
 have hx := hx1.a1.trans hx2
 go_wp2
 go_ret
 exact Gives.mk rfl hx
theorem term_b (v : Value) (w : World) (hv : HasZ w v (-1)) : Calls Tryz.prog 102 #[v, .int .i64 1] w (Gives w fun r _ => r = .string ⟨#[120]⟩) := by
 have HV := Lib.hid hv
 obtain ⟨b0, A0, n0, c0, rfl⟩ := hv.cells
 clear hv
 go_enter Tryz.func102, Tryz.ntmps102
 go_wp2_with fail
 refine Calls.mono (abs_z _ (-1) _ (HV.out.ext ((Ext.refl w).alloc _))) ?_
 rintro e w1 ⟨r1, rfl, hr, hx1⟩
 obtain ⟨b5, A5, n5, c5, rfl⟩ := hr.cells
 go_wp2_with fail
 refine Calls.mono (format_one _ 1 _ hr (by omega) (by omega)) ?_
 rintro e w2 ⟨r2, rfl, rfl, hx2⟩
 rw [show UInt8.ofNat (48 + 1) = 49 from rfl]
 have hx := hx1.a1.trans hx2
 go_wp2
 go_ret
 exact Gives.mk rfl hx
theorem term_a (v : Value) (w : World) (hv : HasZ w v (3)) : Calls Tryz.prog 102 #[v, .int .i64 2] w (Gives w fun r _ => r = .string ⟨#[51, 42, 120, 94, 50]⟩) := by
 have HV := Lib.hid hv
 obtain ⟨b0, A0, n0, c0, rfl⟩ := hv.cells
 clear hv
 go_enter Tryz.func102, Tryz.ntmps102
 go_wp2_with fail
 refine Calls.mono (abs_z _ (3) _ (HV.out.ext ((Ext.refl w).alloc _))) ?_
 rintro e w1 ⟨r1, rfl, hr, hx1⟩
 obtain ⟨b5, A5, n5, c5, rfl⟩ := hr.cells
 go_wp2_with fail
 refine Calls.mono (format_one _ 3 _ hr (by omega) (by omega)) ?_
 rintro e w2 ⟨r2, rfl, rfl, hx2⟩
 rw [show UInt8.ofNat (48 + 3) = 51 from rfl]
 have hx := hx1.a1.trans hx2
 go_wp2_with fail
 refine Calls.mono (itoa_s 2 (by omega) _) ?_
 rintro e w3 ⟨rfl, rfl⟩
 rw [show Lib.decDigits 2 = [50] from by unfold Lib.decDigits; rfl]
 go_wp2
 go_ret
 exact Gives.mk rfl hx
theorem IsBd.own {B b : Nat} {l : List UInt8} {A W : World} {row : Option Nat} (h : IsBd B b l A) (hg : A.grownBy W row) (hr : ∀ r, row = some r → ∃ o : Obj, A.heap[r]? = some o ∧ o.isCells = false) : IsBd B b l W := by
 have key : ∀ p, Lib.BuilderAtF 111 5 B b p (Lib.byteCells l) A → Lib.BuilderAtF 111 5 B b p (Lib.byteCells l) W := by
  rintro p ⟨hB, v, hb, hown, hne⟩
  have hlt : b < A.heap.size := by
   rcases Nat.lt_or_ge b A.heap.size with h' | h'
   ·exact h'
   ·rw [Array.getElem?_eq_none h'] at hb; cases hb
  refine ⟨hB, v, (hg.block b hlt (fun e => ?_)).trans hb, hown.kept hg ?_, hne⟩
  ·obtain ⟨o, h1, h2⟩ := hr b e.symm
   rw [hb] at h1; cases h1; cases h2
  ·rcases hv : v.ownBlock with _ | g
   ·exact .inl rfl
   ·refine .inr fun e => ?_
    obtain ⟨c, fz, h3⟩ := Lib.ownsRowF_kind hown g hv
    obtain ⟨o, h1, h2⟩ := hr g e.symm
    rw [h3] at h1; cases h1; cases h2
 rcases h with h | h
 ·exact .inl (key _ h)
 ·exact .inr (key _ h)
theorem heap_own {A W : World} {row : Option Nat} {k : Nat} {cs : Array Value} {t : TypeId} (h : A.heap[k]? = some (.cells cs t (0, 0))) (hg : A.grownBy W row) (hr : ∀ r, row = some r → ∃ o : Obj, A.heap[r]? = some o ∧ o.isCells = false) : W.heap[k]? = some (.cells cs t (0, 0)) := by
 have hlt : k < A.heap.size := by
  rcases Nat.lt_or_ge k A.heap.size with h' | h'
  ·exact h'
  ·rw [Array.getElem?_eq_none h'] at h; cases h
 refine (hg.block k hlt (fun e => ?_)).trans h
 obtain ⟨o, h1, h2⟩ := hr k e.symm
 rw [h] at h1; cases h1; cases h2
theorem IsBd.ext {B b : Nat} {l : List UInt8} {A W : World} (h : IsBd B b l A) (e : Ext A W) : IsBd B b l W := by
 have key : ∀ p, Lib.BuilderAtF 111 5 B b p (Lib.byteCells l) A → Lib.BuilderAtF 111 5 B b p (Lib.byteCells l) W := by
  rintro p ⟨hB, v, hb, hown, hne⟩
  refine ⟨hB, v, e.blk hb, ⟨hown.1, ?_⟩, hne⟩
  rcases hown.2 with h1 | ⟨g, cap, cur, fz, hv, h1, h2, h3⟩
  ·exact .inl h1
  ·exact .inr ⟨g, cap, cur, fz, hv, h1, e.blk h2, h3⟩
 rcases h with h | h
 ·exact .inl (key _ h)
 ·exact .inr (key _ h)
def Kb (B b : Nat) (A W : World) : Prop := Below B A W ∧ Lib.OthersKept 5 (some b) A W
theorem Kb.trans {B b : Nat} {X Y Z : World} (h : Kb B b X Y) (k : Kb B b Y Z) : Kb B b X Z := ⟨h.1.trans k.1, h.2.trans k.2⟩
theorem Kb.of_ext {B b : Nat} {A W : World} (e : Ext A W) (h : B ≤ A.heap.size) : Kb B b A W := ⟨Below.mono e h, fun _ _ h0 _ _ => e.blk h0⟩
theorem bwrite_l (B b : Nat) (s t : List UInt8) (w : World) (h : IsBd B b s w) (hlen : s.length + t.length ≤ 140737488355328) (hBw : B ≤ w.heap.size) :
  Calls Tryz.prog 101 #[.pointer (some ⟨b, 0, none⟩), .string ⟨t.toArray⟩] w fun e w' => (∃ n, e = .returned (.tuple #[.int .i64 n, .nilIface])) ∧ IsBd B b (s ++ t) w' ∧ Kb B b w w' := by
 refine (bwrite B b _ ⟨t.toArray⟩ w h (by rw [Lib.byteCells_length]; exact hlen) hBw).mono ?_
 rintro e w' ⟨rfl, h1, h2, h3⟩
 refine ⟨⟨_, rfl⟩, ?_, h2, h3⟩
 have e1 : Lib.byteCells s ++ Lib.strCells ⟨t.toArray⟩ = Lib.byteCells (s ++ t) := by simp [Lib.byteCells, Lib.strCells]
 rw [e1] at h1
 exact .inr h1
theorem kept_box {b k : Nat} {t : TypeId} {cs : Array Value} {A W : World} (h : Lib.OthersKept 5 (some b) A W) (hb : A.heap[k]? = some (.cells cs t (0, 0))) (hk : k ≠ b) (ht : t ≠ 5) : W.heap[k]? = some (.cells cs t (0, 0)) :=
 h k _ hb (by simpa using hk) (fun c fz e => ht (by injection e))
theorem IsBd.lt {B b : Nat} {s : List UInt8} {W : World} (h : IsBd B b s W) : ∃ cs, W.heap[b]? = some (.cells cs 111 (0, 0)) := by
 rcases h with ⟨-, v, hb, -⟩ | ⟨-, v, hb, -⟩
 ·exact ⟨_, hb⟩
 ·exact ⟨_, hb⟩
theorem Kb.fin {B N : Nat} {s : List UInt8} {cs : Array Value} {t : TypeId} {W W' : World} (hK : Kb B B W W') (hi : IsBd B B s W) (hbk : W.heap[B + 1]? = some (.cells cs t (0, 0))) (ht : t ≠ 5) : KeepsFrom N W W' ∧ KpZ B (B + 1) W W' ∧ W'.heap[B + 1]? = some (.cells cs t (0, 0)) := by
 obtain ⟨ds, hb⟩ := hi.lt
 have hbk' := kept_box hK.2 hbk (by omega) ht
 refine ⟨⟨hK.1.size, fun k o _ h0 hc => hK.2 k o h0 (fun e => ?_) (fun c fz e => by subst e; cases hc)⟩, ⟨hK.1, fun v hv => ?_⟩, hbk'⟩
 ·injection e with e; subst e
  rw [hb] at h0; cases h0; cases hc
 ·exact (World.cell?_of_block (hbk'.trans hbk.symm)).trans hv
theorem cellsB {W : World} {b : Nat} {u v : Value} {t : TypeId} (h : W.heap[b]? = some (.cells #[u, v] t (0, 0))) : W.cell? ⟨b, 0, none⟩ = some u ∧ W.cell? ⟨b, 1, none⟩ = some v := by
 constructor <;> (rw [Lib.cell_of_heap h]; rfl)
attribute [local go_sem] Oper.semAt_some
set_option maxRecDepth 100000 in
set_option maxHeartbeats 4000000 in
theorem format_aw (v : Value) (base : Nat) (w : World) (hv : ZsV base w v [5, -1, 3]) : Calls Tryz.prog 55 #[v] w (Gives w fun r _ => r = .string ⟨#[51, 42, 120, 94, 50, 32, 45, 32, 120, 32, 43, 32, 53]⟩) := by
 have hN : Calls Tryz.prog 34 #[v] w (Gives w fun r w' => ∃ A c, r = .slice A 3 c ∧ ZsAt w.heap.size w' A [5, -1, 3]) := by
  refine Gives.imp (normal_zp v [5, -1, 3] w (hv.has (by decide)) (by decide)) fun r w' h => ?_
  obtain ⟨A, c, l, rfl, k1, k2, hA, k3, k4, k5⟩ := h.form
  have ht : TopR (zq [5, -1, 3]) := topR_of (by decide +kernel)
  have e := zs_uniq k4 ht k5
  subst e
  exact ⟨A, c, by rw [← k3]; rfl, hA⟩
 obtain ⟨A0, c0, rfl, -⟩ := hv
 refine (callsIn_wide (n := 5)).1 ?_
 refine callsIn_of_wp_marks Tryz.func55 rfl trivial ?_ rfl
 simp only [Tryz.ntmps55, List.size_toArray, List.length_cons, List.length_nil, Nat.reduceAdd, Nat.reduceSub, Array.replicate_succ, Array.replicate_zero, List.push_toArray, List.append_toArray, List.nil_append, List.cons_append]
 gi_wp2_with (refine ⟨trivial, ?_⟩; gi_at_call 34; refine (callsIn_wide.2 hN).mono ?_; rintro e w1 ⟨r1, rfl, ⟨A, c, rfl, hA⟩, hx1⟩)
 refine ⟨trivial, ?_⟩
 gi_at_call 89
 refine (zback_in _ _ trivial rfl _ _ _ _).mono ?_
 rintro e w2 ⟨rfl, rfl⟩
 gi_wp2
 obtain ⟨W2, hW2⟩ : ∃ W2, (w1.alloc (.cells #[.pointer none, .slice none 0 0] 111)).alloc (.cells #[.slice A 3 c] 23) = W2 := ⟨_, rfl⟩
 have h2sz : W2.heap.size = w1.heap.size + 2 := by rw [← hW2]; simp
 have hbx : W2.heap[w1.heap.size + 1]? = some (.cells #[.slice A 3 c] 23 (0, 0)) := by
  rw [← hW2]; have := World.alloc_heap_new (w1.alloc (.cells #[.pointer none, .slice none 0 0] 111)) (.cells #[.slice A 3 c] 23); rwa [World.size_alloc] at this
 have hb2 : W2.cell? ⟨w1.heap.size + 1, 0, none⟩ = some (.slice A 3 c) := by rw [Lib.cell_of_heap hbx]; rfl
 have hbd : IsBd w1.heap.size w1.heap.size [] W2 := by rw [← hW2]; exact (Lib.IsBuilderF.of (Lib.fresh_isBuilder _ _ w1)).alloc _
 have hx2 : Ext w1 W2 := by rw [← hW2]; exact ((Ext.refl w1).alloc _).alloc _
 rw [hW2]
 clear hW2
 obtain ⟨g, o, b0, B0, n0, d0, rfl, -, q00, q01, h0⟩ := hA.at_ (j := 0) (by decide)
 obtain ⟨g1, o1, b1, B1, n1, d1, e1, -, q10, q11, h1⟩ := hA.at_ (j := 1) (by decide)
 cases e1
 obtain ⟨g2, o2, b2, B2, n2, d2, e2, -, q20, q21, h2⟩ := hA.at_ (j := 2) (by decide)
 cases e2
 obtain ⟨enc, hE, hI⟩ : ∃ enc : Fin 3 → Value, (∀ j, IsZ w1 (enc j) (cf3 j)) ∧ (∀ j (hj : j < 3), IntCells W2 g (o + j * 2) (enc ⟨j, hj⟩)) := by
  refine ⟨fun j => if j.1 = 0 then .agg #[.bool b0, .slice B0 n0 d0] else if j.1 = 1 then .agg #[.bool b1, .slice B1 n1 d1] else .agg #[.bool b2, .slice B2 n2 d2], fun j => ?_, fun j hj => ?_⟩
  ·obtain ⟨j, hj⟩ := j
   rcases (show j = 0 ∨ j = 1 ∨ j = 2 by omega) with rfl | rfl | rfl
   ·exact h0
   ·exact h1
   ·exact h2
  ·rcases (show j = 0 ∨ j = 1 ∨ j = 2 by omega) with rfl | rfl | rfl
   ·exact ⟨_, _, _, _, rfl, hx2.cell q00, hx2.cell q01⟩
   ·exact ⟨_, _, _, _, rfl, hx2.cell q10, hx2.cell q11⟩
   ·exact ⟨_, _, _, _, rfl, hx2.cell q20, hx2.cell q21⟩
 have hglt := World.block_lt_of_cell? w1 _ q00
 have HE := Lib.hid hE
 clear h0 h1 h2 q00 q01 q10 q11 q20 q21 hE hA hN
 refine wpIn_rangeFunc_ownH rfl (by omega) (gf := 133) (lb := #[.pointer (some ⟨w1.heap.size + 1, 0, none⟩)]) rfl trivial (enters_of Tryz.func133 (by kernel_rfl) rfl)
  (zback_stops _ _ trivial rfl (by omega) (w1.heap.size + 1) w1.heap.size 3 c (some ⟨g, o, none⟩) enc (by omega) W2 (by omega) hx2.size hb2 (fun _ => ⟨g, o, rfl, hglt, hI⟩)) KpZ.trans (kpZ_b hx2.size) (Below.refl _ _) (fun _ => rfl)
  (fun pre W => IsBd w1.heap.size w1.heap.size (acc3 pre) W ∧ Below w1.heap.size w1 W ∧ W.heap[w1.heap.size + 1]? = some (.cells #[.slice (some ⟨g, o, none⟩) 3 c] 23 (0, 0)))
  (fun _ _ _ => False)
  (fun pre X Y row hs hg hr => ⟨hs.1.own hg (fun r e => (hr r e).2), ownFrom_below (β := Unit) (Nat.le_refl _) hx2.size () X Y row hs.2.1 hg hr, heap_own hs.2.2 hg (fun r e => (hr r e).2)⟩)
  (fun _ _ _ _ _ hs _ _ => hs)
  ⟨hbd, hx2, hbx⟩
  (fun x a' W => ∃ Bx b A2 n2 c2, enc x = .agg #[.bool b, .slice A2 n2 c2] ∧ W.heap[Bx]? = some (.cells #[.bool b, .slice A2 n2 c2] 28 (0, 0)) ∧ w1.heap.size + 1 < Bx ∧ a' = { tmps := #[.slice (some ⟨g, o, none⟩) 3 c, undef, .string ⟨#[]⟩, .pointer (some ⟨w1.heap.size, 0, none⟩), .int .i64 (x.1 : Nat), .pointer (some ⟨Bx, 0, none⟩), undef, .slice A0 3 c0, .slice (some ⟨g, o, none⟩) 3 c, .slice (some ⟨g, o, none⟩) 3 c, .int .i64 3, .bool false, .slice (some ⟨g, o, none⟩) 3 c, .func (.func 133) #[] #[.pointer (some ⟨w1.heap.size + 1, 0, none⟩)], .int .i64 (x.1 : Nat), .agg #[.bool b, .slice A2 n2 c2], undef, undef, undef, undef, undef, undef, undef, undef, undef, undef, undef, undef, undef, undef, undef, undef, undef, undef, undef, undef, undef, undef, undef, undef, undef, undef, undef, undef, undef], defers := [] })
  (fun x a' _ X Y row hs hg hr => by obtain ⟨Bx, b, A2, n2, c2, k2, k3, k4, k5⟩ := hs; exact ⟨Bx, b, A2, n2, c2, k2, heap_own k3 hg (fun r e => (hr r e).2), k4, k5⟩)
  ?assign ?body ?done ?stop
 case assign =>
  rintro lp pre x W K ⟨hi, hB, hbk⟩ hK
  obtain ⟨b, A2, n2, c2, hpv⟩ := (HE.out x).cells
  have HK := Lib.hid hK; clear hK
  have HI := Lib.hid (And.intro hi (And.intro hB hbk)); clear hi hbk
  gi_wp2
  obtain ⟨W9, eW9, e9, x9⟩ := Box.made W 28 #[.bool b, .slice A2 n2 c2] (by simp [isDig])
  rw [← eW9]
  have hW := HI.out.2.1.size
  have hltb : w1.heap.size + 1 < W.heap.size := by
   rcases Nat.lt_or_ge (w1.heap.size + 1) W.heap.size with h' | h'
   ·exact h'
   ·have := HI.out.2.2; rw [Array.getElem?_eq_none h'] at this; cases this
  refine HK.out _ _ ⟨x9.size, fun k o _ h0 _ => x9.blk h0⟩ ⟨x9.mono hB.size, fun v h => x9.cell h⟩ ⟨HI.out.1.ext x9, hB.trans (x9.mono hB.size), x9.blk HI.out.2.2⟩ ⟨W.heap.size, b, A2, n2, c2, hpv, e9.1, hltb, rfl⟩
 case body =>
  rintro lp pre x a' W hl0 ⟨r, hr⟩ ⟨hi, hB0, hbk⟩ ⟨Bx, b, A2, n2, c2, k2, k3, k4, rfl⟩ hlt
  have hB : Ext w1 W := hB0
  have hq0 : HasZ w1 (.agg #[.bool b, .slice A2 n2 c2]) (cf3 x) := k2 ▸ (HE.out x).has (by unfold cf3; split <;> (try split) <;> decide)
  obtain ⟨j, hj⟩ := x
  rcases (show j = 0 ∨ j = 1 ∨ j = 2 by omega) with rfl | rfl | rfl
  ·have HQ := Lib.hid (show HasZ w1 (.agg #[.bool b, .slice A2 n2 c2]) (5) from hq0); clear hq0
   obtain ⟨l, hl⟩ : ∃ l, l = acc3 pre := ⟨_, rfl⟩
   rw [← hl] at hi
   have hbd := hi
   have hK : Kb w1.heap.size w1.heap.size W W := ⟨Below.refl _ _, Lib.OthersKept.refl _ _ _⟩
   have hl3 : l.length ≤ 8 * 3 := by rw [hl]; have := acc3_len pre; omega
   have HL := Lib.hid hl; clear hl
   obtain ⟨q0, q1⟩ := cellsB k3
   gi_wp2
   refine ⟨trivial, ?_⟩
   gi_at_call 99
   refine (CallsIn.inRound lp (callsIn_wide.2 (sign_z _ (5) _ (HQ.out.ext hB)))).mono ?_
   rintro e w5 ⟨r5, rfl, rfl, hx5⟩
   replace hK := hK.trans (Kb.of_ext hx5 (by have := hB.size; omega))
   replace hbd := hbd.ext hx5
   clear q0 q1 hx5
   obtain ⟨q0, q1⟩ := cellsB (kept_box hK.2 k3 (by omega) (by decide))
   gi_wp2
   by_cases hnil : l = []
   ·subst hnil
    refine ⟨trivial, ?_⟩
    gi_at_call 100
    refine (CallsIn.inRound lp (callsIn_wide.2 (blen _ _ _ _ hbd))).mono ?_
    rintro e w6 ⟨rfl, hw6⟩
    rw [hw6, Lib.byteCells_length]
    clear hw6 w6
    gi_wp2
    refine ⟨trivial, ?_⟩
    gi_at_call 100
    refine (CallsIn.inRound lp (callsIn_wide.2 (blen _ _ _ _ hbd))).mono ?_
    rintro e w6 ⟨rfl, hw6⟩
    rw [hw6, Lib.byteCells_length]
    clear hw6 w6
    gi_wp2
    refine ⟨trivial, ?_⟩
    gi_at_call 100
    refine (CallsIn.inRound lp (callsIn_wide.2 (blen _ _ _ _ hbd))).mono ?_
    rintro e w6 ⟨rfl, hw6⟩
    rw [hw6, Lib.byteCells_length]
    clear hw6 w6
    gi_wp2
    have HQ2 := Lib.hid (HQ.out.ext (show Ext w1 _ from Below.trans hB0 hK.1))
    refine ⟨trivial, ?_⟩
    gi_at_call 102
    refine (CallsIn.inRound lp (callsIn_wide.2 (term_c _ _ HQ2.out))).mono ?_
    rintro e w8 ⟨r8, rfl, rfl, hx8⟩
    replace hK := hK.trans (Kb.of_ext hx8 (by have := hK.1.size; have := hB.size; omega))
    replace hbd := hbd.ext hx8
    clear hx8 HQ2
    gi_wp2
    refine ⟨trivial, ?_⟩
    gi_at_call 101
    refine (CallsIn.inRound lp (callsIn_wide.2 (bwrite_l _ _ _ [53] _ hbd (by simp <;> omega) (by have := hK.1.size; have := hB.size; omega)))).mono ?_
    rintro e w7 ⟨⟨n, rfl⟩, hbd7, k7⟩
    replace hK := hK.trans k7
    replace hbd := hbd7
    clear hbd7 k7 q0 q1
    obtain ⟨q0, q1⟩ := cellsB (kept_box hK.2 k3 (by omega) (by decide))
    gi_wp2
    obtain ⟨f1, f2, f3⟩ := hK.fin (N := W2.heap.size) hi hbk (by decide)
    exact ⟨f1, f2, by rw [acc3_snoc, ← HL.out]; exact hbd, Below.trans hB0 hK.1, f3⟩
   ·have hn0 : l.length ≠ 0 := fun e => hnil (List.eq_nil_of_length_eq_zero e)
    have hb1 : ((l.length : Int) == 0) = false := by simpa using hn0
    have hb2 : decide ((0 : Int) < (l.length : Int)) = true := decide_eq_true (by omega)
    refine ⟨trivial, ?_⟩
    gi_at_call 100
    refine (CallsIn.inRound lp (callsIn_wide.2 (blen _ _ _ _ hbd))).mono ?_
    rintro e w6 ⟨rfl, hw6⟩
    rw [hw6, Lib.byteCells_length]
    clear hw6 w6
    gi_wp2
    refine ⟨trivial, ?_⟩
    gi_at_call 100
    refine (CallsIn.inRound lp (callsIn_wide.2 (blen _ _ _ _ hbd))).mono ?_
    rintro e w6 ⟨rfl, hw6⟩
    rw [hw6, Lib.byteCells_length]
    clear hw6 w6
    gi_wp2
    refine ⟨trivial, ?_⟩
    gi_at_call 100
    refine (CallsIn.inRound lp (callsIn_wide.2 (blen _ _ _ _ hbd))).mono ?_
    rintro e w6 ⟨rfl, hw6⟩
    rw [hw6, Lib.byteCells_length]
    clear hw6 w6
    gi_wp2
    refine ⟨trivial, ?_⟩
    gi_at_call 101
    refine (CallsIn.inRound lp (callsIn_wide.2 (bwrite_l _ _ _ [32, 43, 32] _ hbd (by simp <;> omega) (by have := hK.1.size; have := hB.size; omega)))).mono ?_
    rintro e w7 ⟨⟨n, rfl⟩, hbd7, k7⟩
    replace hK := hK.trans k7
    replace hbd := hbd7
    clear hbd7 k7 q0 q1
    obtain ⟨q0, q1⟩ := cellsB (kept_box hK.2 k3 (by omega) (by decide))
    gi_wp2
    have HQ2 := Lib.hid (HQ.out.ext (show Ext w1 _ from Below.trans hB0 hK.1))
    refine ⟨trivial, ?_⟩
    gi_at_call 102
    refine (CallsIn.inRound lp (callsIn_wide.2 (term_c _ _ HQ2.out))).mono ?_
    rintro e w8 ⟨r8, rfl, rfl, hx8⟩
    replace hK := hK.trans (Kb.of_ext hx8 (by have := hK.1.size; have := hB.size; omega))
    replace hbd := hbd.ext hx8
    clear hx8 HQ2
    gi_wp2
    refine ⟨trivial, ?_⟩
    gi_at_call 101
    refine (CallsIn.inRound lp (callsIn_wide.2 (bwrite_l _ _ _ [53] _ hbd (by simp <;> omega) (by have := hK.1.size; have := hB.size; omega)))).mono ?_
    rintro e w7 ⟨⟨n, rfl⟩, hbd7, k7⟩
    replace hK := hK.trans k7
    replace hbd := hbd7
    clear hbd7 k7 q0 q1
    obtain ⟨q0, q1⟩ := cellsB (kept_box hK.2 k3 (by omega) (by decide))
    gi_wp2
    obtain ⟨f1, f2, f3⟩ := hK.fin (N := W2.heap.size) hi hbk (by decide)
    exact ⟨f1, f2, by rw [acc3_snoc, ← HL.out]; simp only [stp, if_neg hnil]; exact hbd, Below.trans hB0 hK.1, f3⟩
  ·have HQ := Lib.hid (show HasZ w1 (.agg #[.bool b, .slice A2 n2 c2]) (-1) from hq0); clear hq0
   obtain ⟨l, hl⟩ : ∃ l, l = acc3 pre := ⟨_, rfl⟩
   rw [← hl] at hi
   have hbd := hi
   have hK : Kb w1.heap.size w1.heap.size W W := ⟨Below.refl _ _, Lib.OthersKept.refl _ _ _⟩
   have hl3 : l.length ≤ 8 * 3 := by rw [hl]; have := acc3_len pre; omega
   have HL := Lib.hid hl; clear hl
   obtain ⟨q0, q1⟩ := cellsB k3
   gi_wp2
   refine ⟨trivial, ?_⟩
   gi_at_call 99
   refine (CallsIn.inRound lp (callsIn_wide.2 (sign_z _ (-1) _ (HQ.out.ext hB)))).mono ?_
   rintro e w5 ⟨r5, rfl, rfl, hx5⟩
   replace hK := hK.trans (Kb.of_ext hx5 (by have := hB.size; omega))
   replace hbd := hbd.ext hx5
   clear q0 q1 hx5
   obtain ⟨q0, q1⟩ := cellsB (kept_box hK.2 k3 (by omega) (by decide))
   gi_wp2
   by_cases hnil : l = []
   ·subst hnil
    refine ⟨trivial, ?_⟩
    gi_at_call 100
    refine (CallsIn.inRound lp (callsIn_wide.2 (blen _ _ _ _ hbd))).mono ?_
    rintro e w6 ⟨rfl, hw6⟩
    rw [hw6, Lib.byteCells_length]
    clear hw6 w6
    gi_wp2
    refine ⟨trivial, ?_⟩
    gi_at_call 101
    refine (CallsIn.inRound lp (callsIn_wide.2 (bwrite_l _ _ _ [45] _ hbd (by simp <;> omega) (by have := hK.1.size; have := hB.size; omega)))).mono ?_
    rintro e w7 ⟨⟨n, rfl⟩, hbd7, k7⟩
    replace hK := hK.trans k7
    replace hbd := hbd7
    clear hbd7 k7 q0 q1
    obtain ⟨q0, q1⟩ := cellsB (kept_box hK.2 k3 (by omega) (by decide))
    gi_wp2
    have HQ2 := Lib.hid (HQ.out.ext (show Ext w1 _ from Below.trans hB0 hK.1))
    refine ⟨trivial, ?_⟩
    gi_at_call 102
    refine (CallsIn.inRound lp (callsIn_wide.2 (term_b _ _ HQ2.out))).mono ?_
    rintro e w8 ⟨r8, rfl, rfl, hx8⟩
    replace hK := hK.trans (Kb.of_ext hx8 (by have := hK.1.size; have := hB.size; omega))
    replace hbd := hbd.ext hx8
    clear hx8 HQ2
    gi_wp2
    refine ⟨trivial, ?_⟩
    gi_at_call 101
    refine (CallsIn.inRound lp (callsIn_wide.2 (bwrite_l _ _ _ [120] _ hbd (by simp <;> omega) (by have := hK.1.size; have := hB.size; omega)))).mono ?_
    rintro e w7 ⟨⟨n, rfl⟩, hbd7, k7⟩
    replace hK := hK.trans k7
    replace hbd := hbd7
    clear hbd7 k7 q0 q1
    obtain ⟨q0, q1⟩ := cellsB (kept_box hK.2 k3 (by omega) (by decide))
    gi_wp2
    obtain ⟨f1, f2, f3⟩ := hK.fin (N := W2.heap.size) hi hbk (by decide)
    exact ⟨f1, f2, by rw [acc3_snoc, ← HL.out]; exact hbd, Below.trans hB0 hK.1, f3⟩
   ·have hn0 : l.length ≠ 0 := fun e => hnil (List.eq_nil_of_length_eq_zero e)
    have hb1 : ((l.length : Int) == 0) = false := by simpa using hn0
    have hb2 : decide ((0 : Int) < (l.length : Int)) = true := decide_eq_true (by omega)
    refine ⟨trivial, ?_⟩
    gi_at_call 100
    refine (CallsIn.inRound lp (callsIn_wide.2 (blen _ _ _ _ hbd))).mono ?_
    rintro e w6 ⟨rfl, hw6⟩
    rw [hw6, Lib.byteCells_length]
    clear hw6 w6
    gi_wp2
    refine ⟨trivial, ?_⟩
    gi_at_call 100
    refine (CallsIn.inRound lp (callsIn_wide.2 (blen _ _ _ _ hbd))).mono ?_
    rintro e w6 ⟨rfl, hw6⟩
    rw [hw6, Lib.byteCells_length]
    clear hw6 w6
    gi_wp2
    refine ⟨trivial, ?_⟩
    gi_at_call 101
    refine (CallsIn.inRound lp (callsIn_wide.2 (bwrite_l _ _ _ [32, 45, 32] _ hbd (by simp <;> omega) (by have := hK.1.size; have := hB.size; omega)))).mono ?_
    rintro e w7 ⟨⟨n, rfl⟩, hbd7, k7⟩
    replace hK := hK.trans k7
    replace hbd := hbd7
    clear hbd7 k7 q0 q1
    obtain ⟨q0, q1⟩ := cellsB (kept_box hK.2 k3 (by omega) (by decide))
    gi_wp2
    have HQ2 := Lib.hid (HQ.out.ext (show Ext w1 _ from Below.trans hB0 hK.1))
    refine ⟨trivial, ?_⟩
    gi_at_call 102
    refine (CallsIn.inRound lp (callsIn_wide.2 (term_b _ _ HQ2.out))).mono ?_
    rintro e w8 ⟨r8, rfl, rfl, hx8⟩
    replace hK := hK.trans (Kb.of_ext hx8 (by have := hK.1.size; have := hB.size; omega))
    replace hbd := hbd.ext hx8
    clear hx8 HQ2
    gi_wp2
    refine ⟨trivial, ?_⟩
    gi_at_call 101
    refine (CallsIn.inRound lp (callsIn_wide.2 (bwrite_l _ _ _ [120] _ hbd (by simp <;> omega) (by have := hK.1.size; have := hB.size; omega)))).mono ?_
    rintro e w7 ⟨⟨n, rfl⟩, hbd7, k7⟩
    replace hK := hK.trans k7
    replace hbd := hbd7
    clear hbd7 k7 q0 q1
    obtain ⟨q0, q1⟩ := cellsB (kept_box hK.2 k3 (by omega) (by decide))
    gi_wp2
    obtain ⟨f1, f2, f3⟩ := hK.fin (N := W2.heap.size) hi hbk (by decide)
    exact ⟨f1, f2, by rw [acc3_snoc, ← HL.out]; simp only [stp, if_neg hnil]; exact hbd, Below.trans hB0 hK.1, f3⟩
  ·have HQ := Lib.hid (show HasZ w1 (.agg #[.bool b, .slice A2 n2 c2]) (3) from hq0); clear hq0
   obtain ⟨l, hl⟩ : ∃ l, l = acc3 pre := ⟨_, rfl⟩
   rw [← hl] at hi
   have hbd := hi
   have hK : Kb w1.heap.size w1.heap.size W W := ⟨Below.refl _ _, Lib.OthersKept.refl _ _ _⟩
   have hl3 : l.length ≤ 8 * 3 := by rw [hl]; have := acc3_len pre; omega
   have HL := Lib.hid hl; clear hl
   obtain ⟨q0, q1⟩ := cellsB k3
   gi_wp2
   refine ⟨trivial, ?_⟩
   gi_at_call 99
   refine (CallsIn.inRound lp (callsIn_wide.2 (sign_z _ (3) _ (HQ.out.ext hB)))).mono ?_
   rintro e w5 ⟨r5, rfl, rfl, hx5⟩
   replace hK := hK.trans (Kb.of_ext hx5 (by have := hB.size; omega))
   replace hbd := hbd.ext hx5
   clear q0 q1 hx5
   obtain ⟨q0, q1⟩ := cellsB (kept_box hK.2 k3 (by omega) (by decide))
   gi_wp2
   by_cases hnil : l = []
   ·subst hnil
    refine ⟨trivial, ?_⟩
    gi_at_call 100
    refine (CallsIn.inRound lp (callsIn_wide.2 (blen _ _ _ _ hbd))).mono ?_
    rintro e w6 ⟨rfl, hw6⟩
    rw [hw6, Lib.byteCells_length]
    clear hw6 w6
    gi_wp2
    refine ⟨trivial, ?_⟩
    gi_at_call 100
    refine (CallsIn.inRound lp (callsIn_wide.2 (blen _ _ _ _ hbd))).mono ?_
    rintro e w6 ⟨rfl, hw6⟩
    rw [hw6, Lib.byteCells_length]
    clear hw6 w6
    gi_wp2
    refine ⟨trivial, ?_⟩
    gi_at_call 100
    refine (CallsIn.inRound lp (callsIn_wide.2 (blen _ _ _ _ hbd))).mono ?_
    rintro e w6 ⟨rfl, hw6⟩
    rw [hw6, Lib.byteCells_length]
    clear hw6 w6
    gi_wp2
    have HQ2 := Lib.hid (HQ.out.ext (show Ext w1 _ from Below.trans hB0 hK.1))
    refine ⟨trivial, ?_⟩
    gi_at_call 102
    refine (CallsIn.inRound lp (callsIn_wide.2 (term_a _ _ HQ2.out))).mono ?_
    rintro e w8 ⟨r8, rfl, rfl, hx8⟩
    replace hK := hK.trans (Kb.of_ext hx8 (by have := hK.1.size; have := hB.size; omega))
    replace hbd := hbd.ext hx8
    clear hx8 HQ2
    gi_wp2
    refine ⟨trivial, ?_⟩
    gi_at_call 101
    refine (CallsIn.inRound lp (callsIn_wide.2 (bwrite_l _ _ _ [51, 42, 120, 94, 50] _ hbd (by simp <;> omega) (by have := hK.1.size; have := hB.size; omega)))).mono ?_
    rintro e w7 ⟨⟨n, rfl⟩, hbd7, k7⟩
    replace hK := hK.trans k7
    replace hbd := hbd7
    clear hbd7 k7 q0 q1
    obtain ⟨q0, q1⟩ := cellsB (kept_box hK.2 k3 (by omega) (by decide))
    gi_wp2
    obtain ⟨f1, f2, f3⟩ := hK.fin (N := W2.heap.size) hi hbk (by decide)
    exact ⟨f1, f2, by rw [acc3_snoc, ← HL.out]; exact hbd, Below.trans hB0 hK.1, f3⟩
   ·have hn0 : l.length ≠ 0 := fun e => hnil (List.eq_nil_of_length_eq_zero e)
    have hb1 : ((l.length : Int) == 0) = false := by simpa using hn0
    have hb2 : decide ((0 : Int) < (l.length : Int)) = true := decide_eq_true (by omega)
    refine ⟨trivial, ?_⟩
    gi_at_call 100
    refine (CallsIn.inRound lp (callsIn_wide.2 (blen _ _ _ _ hbd))).mono ?_
    rintro e w6 ⟨rfl, hw6⟩
    rw [hw6, Lib.byteCells_length]
    clear hw6 w6
    gi_wp2
    refine ⟨trivial, ?_⟩
    gi_at_call 100
    refine (CallsIn.inRound lp (callsIn_wide.2 (blen _ _ _ _ hbd))).mono ?_
    rintro e w6 ⟨rfl, hw6⟩
    rw [hw6, Lib.byteCells_length]
    clear hw6 w6
    gi_wp2
    refine ⟨trivial, ?_⟩
    gi_at_call 100
    refine (CallsIn.inRound lp (callsIn_wide.2 (blen _ _ _ _ hbd))).mono ?_
    rintro e w6 ⟨rfl, hw6⟩
    rw [hw6, Lib.byteCells_length]
    clear hw6 w6
    gi_wp2
    refine ⟨trivial, ?_⟩
    gi_at_call 101
    refine (CallsIn.inRound lp (callsIn_wide.2 (bwrite_l _ _ _ [32, 43, 32] _ hbd (by simp <;> omega) (by have := hK.1.size; have := hB.size; omega)))).mono ?_
    rintro e w7 ⟨⟨n, rfl⟩, hbd7, k7⟩
    replace hK := hK.trans k7
    replace hbd := hbd7
    clear hbd7 k7 q0 q1
    obtain ⟨q0, q1⟩ := cellsB (kept_box hK.2 k3 (by omega) (by decide))
    gi_wp2
    have HQ2 := Lib.hid (HQ.out.ext (show Ext w1 _ from Below.trans hB0 hK.1))
    refine ⟨trivial, ?_⟩
    gi_at_call 102
    refine (CallsIn.inRound lp (callsIn_wide.2 (term_a _ _ HQ2.out))).mono ?_
    rintro e w8 ⟨r8, rfl, rfl, hx8⟩
    replace hK := hK.trans (Kb.of_ext hx8 (by have := hK.1.size; have := hB.size; omega))
    replace hbd := hbd.ext hx8
    clear hx8 HQ2
    gi_wp2
    refine ⟨trivial, ?_⟩
    gi_at_call 101
    refine (CallsIn.inRound lp (callsIn_wide.2 (bwrite_l _ _ _ [51, 42, 120, 94, 50] _ hbd (by simp <;> omega) (by have := hK.1.size; have := hB.size; omega)))).mono ?_
    rintro e w7 ⟨⟨n, rfl⟩, hbd7, k7⟩
    replace hK := hK.trans k7
    replace hbd := hbd7
    clear hbd7 k7 q0 q1
    obtain ⟨q0, q1⟩ := cellsB (kept_box hK.2 k3 (by omega) (by decide))
    gi_wp2
    obtain ⟨f1, f2, f3⟩ := hK.fin (N := W2.heap.size) hi hbk (by decide)
    exact ⟨f1, f2, by rw [acc3_snoc, ← HL.out]; simp only [stp, if_neg hnil]; exact hbd, Below.trans hB0 hK.1, f3⟩
 case done =>
  rintro D ys W hD rfl ⟨hi, hB, hbk⟩ hK
  rw [acc3_all] at hi
  have hB' : Ext w1 W := hB
  gi_wp2
  refine ⟨trivial, ?_⟩
  gi_at_call 103
  refine (callsIn_wide.2 (bstring _ _ _ _ hi (by decide))).mono ?_
  rintro e w8 ⟨rfl, hb8, ho8⟩
  have hK3 : w8.heap[D]? = some (.deferred (some [])) := ho8 D _ hK (fun e => by injection e with e; omega) (fun c fz e => by cases e)
  have hx8 : Ext w w8 := hx1.trans (show Ext w1 w8 from Below.trans hB hb8)
  have hx9 : Ext w (w8.putObj D (.deferred none)) := Below.trans hx8 (belowK_b (w := w) (Nat.le_refl _) w8 D _ _ (by have := hx1.size; omega) hK3 rfl rfl)
  gi_wp2
  refine ⟨by simp, .inl ⟨_, _, rfl, run_takeDeferred hK3, ?_⟩⟩
  exact ⟨_, by simp [results, Tryz.f55, go_sem], Gives.mk rfl hx9⟩
 case stop =>
  rintro D c pre W _ _ h _
  exact h.elim
end Go.Proofs.YtfacbpnegkjcgaaGreatDoor
namespace Go.Proofs.YtfacbpnegkjcgaaGreatDoor
open Go.RowKit Go.Hp
end Go.Proofs.YtfacbpnegkjcgaaGreatDoor
namespace Go.Proofs.YtfacbpnegkjcgaaGreatDoor
open Go.RowKit Go.Hp
theorem QsV.trim {base : Nat} {w : World} {A : Option Addr} {l : List Rat} (h : QsAt base w A l) {c : Nat} (hl : l.length ≤ c) (hc : c ≤ 9223372036854775807 := by omega) : QsV base w (.slice A (trimR l).length c) (trimR l) := by
 refine ⟨A, c, rfl, by have := trimR_len l; omega, hc, ?_⟩
 rw [trimR_prefix l]
 exact RowAt.take h _
end Go.Proofs.YtfacbpnegkjcgaaGreatDoor
namespace Go.Hp
theorem HasQ.zero (w : World) : HasQ w (.agg #[.bool false, .slice none 0 0, .bool false, .slice none 0 0]) 0 :=
 ⟨_, _, _, _, _, _, _, _, 0, 0, rfl, (IsZ.zero w).has (by decide), (IsZ.zero w).has (by decide), by decide, by decide, by simp⟩
end Go.Hp
namespace Go.Proofs.YtfacbpnegkjcgaaGreatDoor
open Go.RowKit Go.Hp
end Go.Proofs.YtfacbpnegkjcgaaGreatDoor
namespace Go.Proofs.YtfacbpnegkjcgaaGreatDoor
open Go.RowKit Go.Hp
end Go.Proofs.YtfacbpnegkjcgaaGreatDoor
namespace Go.Hp
theorem QArr.full_at {w : World} {g : Nat} {t : TypeId} {N : Nat} {F : Nat → Rat} (h : QArr w g t (full N F)) {j : Nat} (hj : j < N) :
  ∃ b A n c b' A' n' c', w.cell? ⟨g, j * 4, none⟩ = some (.bool b) ∧ w.cell? ⟨g, j * 4 + 1, none⟩ = some (.slice A n c) ∧ w.cell? ⟨g, j * 4 + 2, none⟩ = some (.bool b') ∧ w.cell? ⟨g, j * 4 + 3, none⟩ = some (.slice A' n' c') ∧ IsQ w (.agg #[.bool b, .slice A n c, .bool b', .slice A' n' c']) (F j) := by
 obtain ⟨b, A, n, c, b', A', n', c', q0, q1, q2, q3, q⟩ := h.at_ (j := j) (by rw [full_len]; exact hj)
 rw [full_get] at q
 exact ⟨b, A, n, c, b', A', n', c', q0, q1, q2, q3, q⟩
end Go.Hp
namespace Go.Proofs.YtfacbpnegkjcgaaGreatDoor
open Go.RowKit Go.Hp
end Go.Proofs.YtfacbpnegkjcgaaGreatDoor
namespace Go.Hp
theorem qsz_int {x : Int} (h1 : -9223372036854775808 ≤ x) (h2 : x ≤ 9223372036854775808) : qsz (x : Rat) ≤ 2 := by
 have h3 := sz_small2 (n := x.natAbs) (by omega)
 have h4 : sz 1 = 1 := by decide
 show max (sz x.natAbs) (sz 1) ≤ 2
 omega
end Go.Hp
namespace Go.Proofs.YtfacbpnegkjcgaaGreatDoor
open Go.RowKit Go.Hp
end Go.Proofs.YtfacbpnegkjcgaaGreatDoor
namespace Go.Hp
def subG (k j : Nat) (c : Rat) (R G : Nat → Rat) (n : Nat) : Rat := R n - (if k ≤ n ∧ n - k < j then c * G (n - k) else 0)
theorem subG_zero (k : Nat) (c : Rat) (R G : Nat → Rat) : subG k 0 c R G = R := by
 funext n; unfold subG; rw [if_neg (by omega)]; grind
theorem subG_full {k m : Nat} {c : Rat} {R G : Nat → Rat} (h : Sup m G) : subG k m c R G = psb R (cv (mono k c) G) := by
 funext n
 rw [mono_cv]
 show R n - _ = R n - c * sh k G n
 unfold sh
 by_cases h1 : n < k
 ·rw [if_neg (by omega), if_pos h1]; grind
 ·rw [if_neg h1]
  by_cases h2 : n - k < m
  ·rw [if_pos ⟨by omega, h2⟩]
  ·rw [if_neg (by omega), h _ (by omega)]; grind
theorem subG_succ (k j : Nat) (c : Rat) (R G : Nat → Rat) (n : Nat) : subG k (j + 1) c R G n = if n = k + j then subG k j c R G n - c * G j else subG k j c R G n := by
 unfold subG
 by_cases h : n = k + j
 ·subst h; rw [if_pos rfl, if_pos (by omega), if_neg (by omega), show k + j - k = j from by omega]; grind
 ·rw [if_neg h]
  by_cases h2 : k ≤ n ∧ n - k < j
  ·rw [if_pos h2, if_pos (by omega)]
  ·rw [if_neg h2, if_neg (by omega)]
theorem map_full (l : List Rat) : l.map some = full l.length (co l) := by
 apply List.ext_getElem
 ·simp [full]
 ·intro i h1 h2
  have : i < l.length := by simpa using h1
  simp [full, co_lt this]
def TupQ (w : World) (v : Value) (c : Rat) : Prop := ∃ a, v = .tuple #[a, .int .i64 0] ∧ IsQ w a c
theorem TupQ.ext {w w' : World} {v : Value} {c : Rat} (h : TupQ w v c) (e : Ext w w') : TupQ w' v c := by
 obtain ⟨a, h1, h2⟩ := h; exact ⟨a, h1, h2.ext e⟩
theorem full_of {la : List (Option Rat)} {n : Nat} {Q : Nat → Rat} (hl : la.length = n) (h : ∀ j (hj : j < la.length), la[j] = some (Q j)) : la = full n Q := by
 apply List.ext_getElem
 ·simp [full, hl]
 ·intro i h1 h2
  rw [h i h1]; simp [full]
end Go.Hp
namespace Go.Hp
def DivSt (F G : Nat → Rat) (n s t i : Nat) (la : List (Option Rat)) (Q R : Nat → Rat) : Prop :=
 la.length = n ∧ (∀ j (h : j < la.length), i ≤ j → la[j] = some (Q j)) ∧ (∀ j, j < i → Q j = 0) ∧ Sup n Q ∧ Sup (i + pl G - 1) R ∧ F = pad (cv Q G) R ∧ CD (s + (n - i) * (t + 1)) R
theorem DivSt.start {F G : Nat → Rat} {n s t : Nat} (hF : Sup (n + pl G - 1) F) (hs : CD s F) : DivSt F G n s t n (List.replicate n none) pz F :=
 ⟨by simp, fun j h h' => by simp at h; omega, fun _ _ => rfl, Sup.pz _, hF, by rw [pz_cv]; funext m; simp only [pad, pz]; grind, hs.mono (by omega)⟩
theorem DivSt.step {F G : Nat → Rat} {n s t k : Nat} {la : List (Option Rat)} {Q R : Nat → Rat} (hG : Fin_ G) (h0 : G ≠ pz) (hcG : CD t G) (h : DivSt F G n s t (k + 1) la Q R) (hk : k < n) {c : Rat} (hc : c = R (k + pl G - 1) / ld G) :
  DivSt F G n s t k (la.set k (some c)) (pad Q (mono k c)) (psb R (cv (mono k c) G)) := by
 obtain ⟨h1, h2, h3, h4, h5, h6, h7⟩ := h
 have hp := pl_pos hG h0
 refine ⟨by simpa using h1, fun j hj hkj => ?_, fun j hj => ?_, h4.pad ((mono_sup k c).mono (by omega)), ?_, ?_, ?_⟩
 ·rw [List.getElem_set]
  split
  ·rename_i e; subst e
   show some c = some (Q k + mono k c k)
   rw [h3 k (by omega), mono_at]; congr 1; grind
  ·rename_i e
   rw [h2 j (by simpa using hj) (by omega)]
   show some (Q j) = some (Q j + mono k c j)
   rw [mono_off (fun e' => e e'.symm)]; congr 1; grind
 ·show Q j + mono k c j = 0
  rw [h3 j (by omega), mono_off (by omega)]; grind
 ·subst hc
  exact div_step hG h0 (h5.mono (by omega))
 ·rw [pad_cv]
  funext m
  have := congrFun h6 m
  simp only [pad, psb] at this ⊢
  grind
 ·subst hc
  refine (CD.step (n := k) hG h0 h7 hcG).mono ?_
  have : n - k = (n - (k + 1)) + 1 := by omega
  rw [this, Nat.succ_mul]; omega
theorem DivSt.end_ {F G : Nat → Rat} {n s t : Nat} {la : List (Option Rat)} {Q R : Nat → Rat} (hF : Fin_ F) (hG : Fin_ G) (h0 : G ≠ pz) (h : DivSt F G n s t 0 la Q R) : la = full n Q ∧ Q = pq F G ∧ R = pr F G ∧ Sup n Q := by
 obtain ⟨h1, h2, h3, h4, h5, h6, h7⟩ := h
 have := div_eq hF hG h0 ⟨n, h4⟩ h6 (by rwa [Nat.zero_add] at h5)
 exact ⟨full_of h1 fun j hj => h2 j hj (Nat.zero_le _), this.1, this.2, h4⟩
end Go.Hp
namespace Go.Hp
theorem len_trim (l : List Rat) : (trimR l).length = pl (co l) := by rw [← (topR_trim l).pl, co_trimR]
end Go.Hp
namespace Go.Proofs.YtfacbpnegkjcgaaGreatDoor
open Go.RowKit Go.Hp
end Go.Proofs.YtfacbpnegkjcgaaGreatDoor
namespace Go.Hp
end Go.Hp
namespace Go.Hp
theorem rat_pow_add (x : Rat) (a b : Nat) : x ^ (a + b) = x ^ a * x ^ b := by
 induction b with
 | zero => rw [Nat.add_zero, Rat.pow_zero, Rat.mul_one]
 | succ b ih => rw [← Nat.add_assoc, Rat.pow_succ, ih, Rat.pow_succ, Rat.mul_assoc]
def Fr (D k Y : Nat) (q : Rat) : Prop := ∃ m : Int, q = (m : Rat) / ((D : Rat) ^ k) ∧ m.natAbs ≤ Y
theorem Fr.mono {D k Y Y' : Nat} {q : Rat} (h : Fr D k Y q) (l : Y ≤ Y') : Fr D k Y' q := by obtain ⟨m, h1, h2⟩ := h; exact ⟨m, h1, by omega⟩
theorem Fr.zero (D k Y : Nat) : Fr D k Y 0 := ⟨0, by rw [show ((0 : Int) : Rat) = 0 from rfl, Rat.div_def, Rat.zero_mul], by simp⟩
theorem Fr.sub {D k Y Z : Nat} {p q : Rat} (h : Fr D k Y p) (g : Fr D k Z q) : Fr D k (Y + Z) (p - q) := by
 obtain ⟨m, h1, h2⟩ := h; obtain ⟨n, g1, g2⟩ := g
 refine ⟨m - n, ?_, ?_⟩
 ·rw [h1, g1, Rat.intCast_sub, Rat.div_def, Rat.div_def, Rat.div_def]; grind
 ·have := Int.natAbs_sub_le m n; omega
theorem Fr.mul {D a b Y Z : Nat} {p q : Rat} (h : Fr D a Y p) (g : Fr D b Z q) : Fr D (a + b) (Y * Z) (p * q) := by
 obtain ⟨m, h1, h2⟩ := h; obtain ⟨n, g1, g2⟩ := g
 refine ⟨m * n, ?_, ?_⟩
 ·rw [h1, g1, Rat.intCast_mul, Rat.div_def, Rat.div_def, Rat.div_def, rat_pow_add, Rat.inv_mul_rev]; grind
 ·rw [Int.natAbs_mul]; exact Nat.mul_le_mul h2 g2
theorem Fr.up {D k Y : Nat} {q : Rat} (hD : 0 < D) (h : Fr D k Y q) (j : Nat) : Fr D (k + j) (Y * D ^ j) q := by
 have h0 := natq hD
 have h1 : Fr D j (D ^ j) 1 := by
  refine ⟨((D ^ j : Nat) : Int), ?_, by simp⟩
  have h2 : (D : Rat) ^ j ≠ 0 := by
   induction j with
   | zero => rw [Rat.pow_zero]; decide
   | succ j ih => rw [Rat.pow_succ]; intro e; rcases Rat.mul_eq_zero.1 e with e | e <;> contradiction
  rw [Rat.intCast_natCast, Rat.natCast_pow]
  grind
 have := h.mul h1
 rwa [Rat.mul_one] at this
theorem Fr.qsz {D k Y : Nat} {q : Rat} (hD : 0 < D) (h : Fr D k Y q) {t : Nat} (h1 : sz Y ≤ t) (h2 : sz (D ^ k) ≤ t) (h3 : 1 ≤ t) : qsz q ≤ t := by
 obtain ⟨m, e, hm⟩ := h
 rw [← Rat.natCast_pow, divInt_eq] at e
 rw [e]
 exact qsz_divInt (Nat.le_trans (sz_mono hm) h1) (by simpa using h2) h3
section
variable {C S : Nat → Rat} {D X : Nat}
end
end Go.Hp
namespace Go.Hp
theorem qsz_nat {n : Nat} (h : n ≤ 9223372036854775807) : qsz (n : Rat) ≤ 2 := by
 have h3 := sz_small2 (n := n) (by omega)
 have h4 : sz 1 = 1 := by decide
 show max (sz ((n : Int)).natAbs) (sz 1) ≤ 2
 rw [Int.natAbs_natCast]; omega
theorem CD.rv {s : Nat} {F : Nat → Rat} (h : CD s F) (d : Nat) : CD s (rv d F) := by
 obtain ⟨D, X, ⟨hD, hF⟩, h1, h2⟩ := h
 refine ⟨D, X, ⟨hD, fun i => ?_⟩, h1, h2⟩
 unfold Hp.rv
 split
 ·exact hF _
 ·exact ⟨0, by show (0 : Rat) = _; grind, by simp⟩
theorem CD.pd {s d : Nat} {F : Nat → Rat} (hC : CD s F) (hs : Sup (d + 1) F) (hd : d ≤ 9223372036854775807) : CD (1 + d * (s + 3)) (pd F) := by
 refine CD.of (k := s + 2) (n := d) (fun i hi => by unfold Hp.pd; rw [hs (i + 1) (by omega)]; exact Rat.mul_zero _) fun i hi => ?_
 have h1 := qsz_mul ((i + 1 : Nat) : Rat) (F (i + 1))
 have h2 := qsz_nat (n := i + 1) (by omega)
 have h3 := hC.elem (i + 1)
 show Hp.qsz (((i + 1 : Nat) : Rat) * F (i + 1)) ≤ s + 2
 omega
end Go.Hp
namespace Go.Hp
theorem sm_qsz {f : Nat → Rat} {t : Nat} (n : Nat) (h : ∀ i, i < n → qsz (f i) ≤ t) : qsz (sm n f) ≤ 1 + n * (t + 1) := by
 induction n with
 | zero => rw [sm_zero, qsz_zero]; omega
 | succ n ih =>
  have h1 := qsz_add (sm n f) (f n)
  have h2 := ih fun i hi => h i (by omega)
  have h3 := h n (by omega)
  rw [sm_succ, Nat.succ_mul]; omega
end Go.Hp
namespace Go.Hp
open Go.RowKit
def ArrL (base : Nat) (w : World) (v : Value) (t : TypeId) (l : List Rat) : Prop := l = [] ∨ ∃ g cap, v = .slice (some ⟨g, 0, none⟩) l.length cap ∧ base ≤ g ∧ l.length ≤ cap ∧ cap ≤ 9223372036854775807 ∧ QArr w g t (l.map some)
def ArrP (base : Nat) (w : World) (v : Value) (t : TypeId) (F : Nat → Rat) : Prop := pl F = 0 ∨ ∃ g cap, v = .slice (some ⟨g, 0, none⟩) (pl F) cap ∧ base ≤ g ∧ pl F ≤ cap ∧ cap ≤ 9223372036854775807 ∧ QArr w g t (full (pl F) F)
theorem OwnQ.arr {base : Nat} {e : TypeId} {w : World} {v : Value} {l : List Rat} (h : OwnQ base e w v l) : ArrL base w v e l := by
 obtain ⟨ess, h1, h2, ⟨h3, h4⟩, h5⟩ := h
 rcases h4 with ⟨_, h0⟩ | ⟨g, cap, cur, rfl, hbg, hb, hnc, hcm, hcs, htake⟩
 ·exact .inl (List.eq_nil_of_length_eq_zero h0)
 ·refine .inr ⟨g, cap, rfl, hbg, hnc, maxLen_le hcm, cur, hb, by rw [hcs, List.length_map]; omega, fun j hj => ?_⟩
  have hj' : j < l.length := by simpa using hj
  have hje : j < ess.length := by omega
  have hq := h5 j hj' hje
  obtain ⟨b, A, n, c, b', A', n', c', e⟩ := IsQ.cells_ hq
  have ec := agg4 e
  have key : ∀ i, i < 4 → cur[j * 4 + i]? = ess[j][i]? := fun i hi => by
   have hlt : j * 4 + i < l.length * 4 := by omega
   rw [← flat_get h2 hje hi, ← htake, List.getElem?_take_of_lt hlt]
   simp
  refine ⟨b, A, n, c, b', A', n', c', by have := key 0 (by omega); rw [ec] at this; simpa using this, by have := key 1 (by omega); rw [ec] at this; simpa using this, by have := key 2 (by omega); rw [ec] at this; simpa using this, by have := key 3 (by omega); rw [ec] at this; simpa using this, ?_⟩
  rw [List.getElem_map, ← e]; exact hq
theorem QArr.pre {w : World} {g : Nat} {t : TypeId} {l : List (Option Rat)} (h : QArr w g t l) (n : Nat) : QArr w g t (l.take n) := by
 obtain ⟨cs, h1, h2, h3⟩ := h
 have hl : (l.take n).length ≤ l.length := List.length_take_le' _ _
 refine ⟨cs, h1, by omega, fun j hj => ?_⟩
 have := h3 j (by omega)
 rw [List.getElem_take]; exact this
theorem full_take (N n : Nat) (F : Nat → Rat) (h : n ≤ N) : (full N F).take n = full n F := by
 unfold full
 rw [← List.map_take, List.take_range, Nat.min_eq_left h]
theorem ArrL.fin {base n c : Nat} {w w' : World} {A : Option Addr} {t : TypeId} {l : List Rat} (h : ArrL base w (.slice A n c) t l) (e : Ext w w') : ArrP base w' (.slice A (trimR l).length c) t (co l) := by
 have hp : pl (co l) ≤ l.length := pl_le (co_sup l)
 rcases h with rfl | ⟨g, cap, e1, h1, h2, h3, h4⟩
 ·exact .inl (by rw [co_nil, pl_pz])
 ·refine .inr ⟨g, cap, ?_, h1, by omega, h3, ?_⟩
  ·rw [len_trim]
   injection e1 with e1 e2 e3
   rw [e1, e3]
  ·have := (h4.ext e).pre (pl (co l))
   rw [map_full, full_take _ _ _ hp] at this; exact this
end Go.Hp
namespace Go.Proofs.YtfacbpnegkjcgaaGreatDoor
open Go.RowKit Go.Hp
end Go.Proofs.YtfacbpnegkjcgaaGreatDoor
namespace Go.Proofs.YtfacbpnegkjcgaaGreatDoor
open Go.RowKit Go.Hp
end Go.Proofs.YtfacbpnegkjcgaaGreatDoor
namespace Go.Hp
open Go.RowKit
def BoxQ (w : World) (g : Nat) (t : TypeId) (q : Rat) : Prop := ∃ b A n c b' A' n' c', Box w g t #[.bool b, .slice A n c, .bool b', .slice A' n' c'] ∧ IsQ w (.agg #[.bool b, .slice A n c, .bool b', .slice A' n' c']) q
theorem BoxQ.ext {w w' : World} {g : Nat} {t : TypeId} {q : Rat} (h : BoxQ w g t q) (e : Ext w w') : BoxQ w' g t q := by
 obtain ⟨b, A, n, c, b', A', n', c', h1, h2⟩ := h; exact ⟨b, A, n, c, b', A', n', c', h1.ext e, h2.ext e⟩
theorem BoxQ.lt {w : World} {g : Nat} {t : TypeId} {q : Rat} (h : BoxQ w g t q) : g < w.heap.size := by
 obtain ⟨b, A, n, c, b', A', n', c', h1, h2⟩ := h; exact h1.lt
theorem BoxQ.upd {w w' : World} {g : Nat} {t : TypeId} {q : Rat} {G : List Nat} (h : BoxQ w g t q) (U : Upd G w w') (hg : g ∉ G) : BoxQ w' g t q := by
 obtain ⟨b, A, n, c, b', A', n', c', h1, h2⟩ := h; exact ⟨b, A, n, c, b', A', n', c', h1.upd U hg, h2.kd U.kd⟩
theorem BoxQ.mk {w : World} {g : Nat} {t : TypeId} {q : Rat} {b b' : Bool} {A A' : Option Addr} {n c n' c' : Nat} (h : Box w g t #[.bool b, .slice A n c, .bool b', .slice A' n' c']) (k : IsQ w (.agg #[.bool b, .slice A n c, .bool b', .slice A' n' c']) q) : BoxQ w g t q := ⟨_, _, _, _, _, _, _, _, h, k⟩
theorem OwnQ.off {base : Nat} {e : TypeId} {w w' : World} {v : Value} {l : List Rat} {g : Nat} (h : OwnQ base e w v l) (U : Upd [g] w w') (hg : ∀ k ∈ blk v, k < g) : OwnQ base e w' v l :=
 OwnR.upd h U (fun k hk hG => by have := hg k hk; simp at hG; omega) fun _ _ q => q.kd U.kd
theorem smm_qsz {F G : Nat → Rat} {s t : Nat} (hF : ∀ i, qsz (F i) ≤ s) (hG : ∀ i, qsz (G i) ≤ t) (n i : Nat) : qsz (sm i (fun j => F j * G (n - j))) ≤ 1 + i * (s + t + 1) :=
 sm_qsz i fun j _ => by have h1 := qsz_mul (F j) (G (n - j)); have h2 := hF j; have h3 := hG (n - j); omega
theorem mul_le_of {i k c d : Nat} (h : i ≤ k) (e : 1 + k * c ≤ d) : 1 + i * c ≤ d := by
 have : i * c ≤ k * c := Nat.mul_le_mul_right _ h
 omega
end Go.Hp
namespace Go.Proofs.YtfacbpnegkjcgaaGreatDoor
open Go.RowKit Go.Hp
end Go.Proofs.YtfacbpnegkjcgaaGreatDoor
namespace Go.Hp
open Go.RowKit
theorem QArr.hs {w : World} {g : Nat} {t : TypeId} {N c : Nat} {F : Nat → Rat} (h : QArr w g t (full N F)) (hs : ∀ i, i < N → qsz (F i) ≤ 274877906944) (hc : N ≤ c) (hm : c ≤ 9223372036854775807) : HsV 0 w (.slice (some ⟨g, 0, none⟩) N c) ((List.range N).map F) := by
 have hrow := h.row (full_row N F) (Nat.zero_le g)
 refine QsV.has (base := 0) ⟨_, c, by rw [range_len], by rw [range_len]; exact hc, hm, hrow⟩ fun q hq => ?_
 obtain ⟨i, hi, rfl⟩ := List.mem_map.1 hq
 exact hs i (List.mem_range.1 hi)
end Go.Hp
namespace Go.Proofs.YtfacbpnegkjcgaaGreatDoor
open Go.RowKit Go.Hp
end Go.Proofs.YtfacbpnegkjcgaaGreatDoor
namespace Go.Hp
theorem CD.mn {s : Nat} {F : Nat → Rat} (h : CD s F) : CD (2 * s) (mn F) := by
 have h1 := h.elem (pl F - 1)
 have h2 : Hp.qsz (1 / ld F) ≤ s := by
  have e : 1 / ld F = (ld F)⁻¹ := by rw [Rat.div_def, Rat.one_mul]
  rw [e]; exact Nat.le_trans (qsz_inv _) h1
 exact (h.psc (1 / ld F)).mono (by omega)
def gcb (s : Nat) : Nat → Nat
 | 0 => s
 | j + 1 => 18 * gcb s j + 16
theorem gcb_mono {s i j : Nat} (h : i ≤ j) : gcb s i ≤ gcb s j := by
  induction j with
  | zero => obtain rfl : i = 0 := by omega
            exact Nat.le_refl _
  | succ j ih =>
    rcases Nat.eq_or_lt_of_le h with e | e
    · rw [e]; exact Nat.le_refl _
    · have := ih (by omega)
      show _ ≤ 18 * gcb s j + 16
      omega
def GcSt (F0 G0 : Nat → Rat) (j : Nat) (F G : Nat → Rat) : Prop :=
 Fin_ F ∧ Fin_ G ∧ (∀ E, Fin_ E → (Dv E F ∧ Dv E G ↔ Dv E F0 ∧ Dv E G0)) ∧ CD (gcb 44 j) F ∧ CD (gcb 44 j) G ∧ pl F ≤ 7 ∧ pl G + j ≤ 7
theorem GcSt.start {F G : Nat → Rat} (hF : Fin_ F) (hG : Fin_ G) (cF : CD 22 F) (cG : CD 22 G) (lF : pl F ≤ 7) (lG : pl G ≤ 7) : GcSt F G 0 F G :=
 ⟨hF, hG, fun _ _ => Iff.rfl, cF.mono (by show 22 ≤ 44; omega), cG.mono (by show 22 ≤ 44; omega), lF, lG⟩
theorem GcSt.step {F0 G0 F G : Nat → Rat} {j : Nat} (h : GcSt F0 G0 j F G) (h0 : G ≠ pz) : GcSt F0 G0 (j + 1) G (mn (pr F G)) := by
 obtain ⟨hF, hG, hd, cF, cG, lF, lG⟩ := h
 have hp := pl_pos hG h0
 have hr := pr_fin hF hG
 have hs := pl_le (pr_sup hF hG h0)
 have c1 := CD.pr (n := 8) ((pl_sup hF).mono (by omega)) hG h0 cF cG
 refine ⟨hG, mn_fin hr, fun E hE => ?_, cG.mono (gcb_mono (by omega)), c1.mn.mono ?_, by omega, by rw [mn_pl hr]; omega⟩
 ·rw [dv_mn_iff hr, dv_step]; exact hd E hE
 ·show _ ≤ 18 * gcb 44 j + 16
  omega
theorem GcSt.end_ {F0 G0 F G : Nat → Rat} {j : Nat} (h : GcSt F0 G0 j F G) (h0 : G = pz) : IsG F0 G0 (mn F) := by
 obtain ⟨hF, hG, hd, _⟩ := h
 subst h0
 exact (IsG.zero hF).of hd
theorem GcSt.room {F0 G0 F G : Nat → Rat} {j : Nat} (h : GcSt F0 G0 j F G) (h0 : G ≠ pz) : j ≤ 6 ∧ gcb 44 j + (pl F + 2) * (gcb 44 j + 1) + 2 * gcb 44 j + 2 ≤ 68719476736 ∧ pl (pr F G) ≤ 6 ∧ CD (9 * gcb 44 j + 8) (pr F G) := by
 obtain ⟨hF, hG, hd, cF, cG, lF, lG⟩ := h
 have hp := pl_pos hG h0
 have hs := pl_le (pr_sup hF hG h0)
 have c1 := CD.pr (n := 8) ((pl_sup hF).mono (by omega)) hG h0 cF cG
 have h6 : gcb 44 j ≤ gcb 44 6 := gcb_mono (by omega)
 have h7 : gcb 44 6 = 1528549360 := rfl
 have h8 : (pl F + 2) * (gcb 44 j + 1) ≤ 9 * (gcb 44 j + 1) := Nat.mul_le_mul_right _ (by omega)
 exact ⟨by omega, by omega, by omega, c1.mono (by omega)⟩
end Go.Hp
namespace Go.Hp
def lin (a : Rat) : Nat → Rat := cs (-a) pone
theorem pone_sup : Sup 1 pone := (Sup.pz 0).cs 1
theorem pone_fin : Fin_ pone := ⟨1, pone_sup⟩
theorem ev_pone (x : Rat) : ev pone x = 1 := by unfold pone; rw [ev_cs _ Fin_.pz, ev_pz]; grind
theorem lin_sup (a : Rat) : Sup 2 (lin a) := pone_sup.cs _
theorem lin_fin (a : Rat) : Fin_ (lin a) := ⟨2, lin_sup a⟩
theorem ev_lin (a x : Rat) : ev (lin a) x = x - a := by unfold lin; rw [ev_cs _ pone_fin, ev_pone]; grind
theorem CD.pone : CD 3 pone := by
 have := CD.pz.cs 1
 have e : qsz (1 : Rat) = 1 := by decide
 rw [e] at this; exact this
theorem CD.lin {a : Rat} (h : qsz a ≤ 2) : CD 6 (lin a) := by
 have := CD.pone.cs (-a)
 rw [qsz_neg] at this
 exact this.mono (by omega)
def lgp (X : Nat → Rat) (i : Nat) : Nat → Nat → Rat
 | 0 => pone
 | n + 1 => if n = i then lgp X i n else cv (lgp X i n) (lin (X n))
theorem lgp_succ (X : Nat → Rat) (i n : Nat) : lgp X i (n + 1) = if n = i then lgp X i n else cv (lgp X i n) (lin (X n)) := by rw [lgp]
theorem lgp_fin (X : Nat → Rat) (i n : Nat) : Fin_ (lgp X i n) := by
  induction n with
  | zero => exact pone_fin
  | succ n ih => rw [lgp_succ]; split
                 · exact ih
                 · exact ih.cv (lin_fin _)
theorem lgp_sup (X : Nat → Rat) (i n : Nat) : Sup (n + 1) (lgp X i n) ∧ (i < n → Sup n (lgp X i n)) := by
 induction n with
 | zero => exact ⟨pone_sup, fun h => by omega⟩
 | succ n ih =>
  rw [lgp_succ]; split
  ·exact ⟨ih.1.mono (by omega), fun _ => ih.1⟩
  ·have h1 := ih.1.cv (lin_sup (X n))
   refine ⟨h1.mono (by omega), fun h => ?_⟩
   exact ((ih.2 (by omega)).cv (lin_sup (X n))).mono (by omega)
theorem lgp_root (X : Nat → Rat) {i n k : Nat} (hk : k < n) (hi : k ≠ i) : ev (lgp X i n) (X k) = 0 := by
 induction n with
 | zero => omega
 | succ n ih =>
  rw [lgp_succ]; split
  ·rcases Nat.lt_or_ge k n with h | h
   ·exact ih h
   ·omega
  ·rw [ev_cv (lgp_fin _ _ _) (lin_fin _), ev_lin]
   rcases Nat.lt_or_ge k n with h | h
   ·rw [ih h]; grind
   ·obtain rfl : k = n := by omega
    grind
theorem lgp_ne (X : Nat → Rat) {i n : Nat} {x : Rat} (h : ∀ k, k < n → k ≠ i → x ≠ X k) : ev (lgp X i n) x ≠ 0 := by
 induction n with
 | zero => show ev pone x ≠ 0; rw [ev_pone]; decide
 | succ n ih =>
  have h1 := ih fun k hk => h k (by omega)
  rw [lgp_succ]; split
  ·exact h1
  ·rename_i hne
   rw [ev_cv (lgp_fin _ _ _) (lin_fin _), ev_lin]
   intro e
   rcases Rat.mul_eq_zero.1 e with e | e
   ·exact h1 e
   ·exact h n (by omega) hne (by grind)
theorem lgp_cd {X : Nat → Rat} (i n : Nat) (hX : ∀ k, k < n → qsz (X k) ≤ 2) (hn : n ≤ 4294967290) : CD (3 + 7 * n) (lgp X i n) := by
 induction n with
 | zero => exact CD.pone
 | succ n ih =>
  have h1 := ih (fun k hk => hX k (by omega)) (by omega)
  rw [lgp_succ]; split
  ·exact h1.mono (by omega)
  ·exact (CD.cv (lgp_sup X i n).1 (by omega) h1 (CD.lin (hX n (by omega)))).mono (by omega)
def hor (F : Nat → Rat) (x : Rat) (n i : Nat) : Rat := evn (n - i) (fun j => F (i + j)) x
theorem evn_qsz {F : Nat → Rat} {x : Rat} {s t : Nat} (hF : ∀ i, qsz (F i) ≤ s) (hx : qsz x ≤ t) (n : Nat) : qsz (evn n F x) ≤ 1 + n * (s + t + 1) := by
 induction n generalizing F with
 | zero => show qsz 0 ≤ _; rw [qsz_zero]; omega
 | succ n ih =>
  rw [evn_tl]
  have h1 := qsz_add (F 0) (x * evn n (tl F) x)
  have h2 := qsz_mul x (evn n (tl F) x)
  have h3 := ih (F := tl F) fun i => hF (i + 1)
  have h4 := hF 0
  rw [Nat.succ_mul]; omega
theorem ev_qsz {F : Nat → Rat} {x : Rat} {s t n : Nat} (hs : Sup n F) (hF : ∀ i, qsz (F i) ≤ s) (hx : qsz x ≤ t) : qsz (ev F x) ≤ 1 + n * (s + t + 1) := by
 rw [ev_eq hs]; exact evn_qsz hF hx n
noncomputable def lgt (X Y : Nat → Rat) (n i : Nat) : Nat → Rat := psc (Y i / ev (lgp X i n) (X i)) (lgp X i n)
noncomputable def lgs (X Y : Nat → Rat) (n : Nat) : Nat → Nat → Rat
 | 0 => pz
 | m + 1 => pad (lgs X Y n m) (lgt X Y n m)
def Apart (X : Nat → Rat) (n : Nat) : Prop := ∀ i k, i < n → k < i → X i ≠ X k
theorem Apart.ne {X : Nat → Rat} {n : Nat} (h : Apart X n) {i k : Nat} (hi : i < n) (hk : k < n) (e : k ≠ i) : X i ≠ X k := by
 rcases Nat.lt_or_ge k i with l | l
 ·exact h i k hi l
 ·exact fun e2 => h k i hk (by omega) e2.symm
theorem lgt_sup (X Y : Nat → Rat) {n i : Nat} (h : i < n) : Sup n (lgt X Y n i) := ((lgp_sup X i n).2 h).psc _
theorem lgs_sup (X Y : Nat → Rat) (n : Nat) : ∀ m, m ≤ n → Sup n (lgs X Y n m) := by
 intro m
 induction m with
 | zero => intro _; exact Sup.pz n
 | succ m ih => intro h; exact (ih (by omega)).pad (lgt_sup X Y h)
theorem ev_lgs {X Y : Nat → Rat} {n : Nat} (h : Apart X n) {k : Nat} (hk : k < n) : ∀ m, m ≤ n → ev (lgs X Y n m) (X k) = if k < m then Y k else 0 := by
 intro m
 induction m with
 | zero => intro _; show ev pz _ = _; rw [ev_pz, if_neg (by omega)]
 | succ m ih =>
  intro hm
  show ev (pad (lgs X Y n m) (lgt X Y n m)) (X k) = _
  rw [ev_pad ⟨n, lgs_sup X Y n m (by omega)⟩ ⟨n, lgt_sup X Y hm⟩, ih (by omega)]
  unfold lgt
  rw [ev_psc _ (lgp_fin _ _ _)]
  by_cases e : k = m
  ·subst e
   have := lgp_ne X (i := k) (n := n) (x := X k) fun j hj hne => h.ne hk hj hne
   rw [if_neg (by omega), if_pos (by omega)]; grind
  ·rw [lgp_root X hk e]
   by_cases l : k < m
   ·rw [if_pos l, if_pos (by omega)]; grind
   ·rw [if_neg l, if_neg (by omega)]; grind
theorem through_uniq {X : Nat → Rat} {n : Nat} (h : Apart X n) {F G : Nat → Rat} (hF : Sup n F) (hG : Sup n G) (e : ∀ k, k < n → ev F (X k) = ev G (X k)) : F = G := by
 have hz : psb F G = pz := by
  refine many_roots (l := (List.range n).map X) (by simpa using hF.psb hG) ?_ ?_
  ·rw [List.nodup_iff_pairwise_ne, List.pairwise_map]
   refine List.Pairwise.imp_of_mem (R := fun a b => a < b) ?_ List.pairwise_lt_range
   intro a b ha hb hab
   exact fun e => h b a (List.mem_range.1 hb) hab e.symm
  ·intro x hx
   obtain ⟨k, hk, rfl⟩ := List.mem_map.1 hx
   rw [ev_psb ⟨n, hF⟩ ⟨n, hG⟩, e k (List.mem_range.1 hk)]; grind
 funext i
 have := congrFun hz i
 simp only [psb, pz] at this; grind
end Go.Hp
namespace Go.Hp
def xgb : Nat → Nat
 | 0 => 22
 | 1 => 22
 | j + 2 => xgb j + 8 * (xgb (j + 1) + 1)
def xgq (j : Nat) : Nat := 1 + 8 * (xgb j + 8 * (xgb (j + 1) + 1) + xgb (j + 1) + 1)
def xga : Nat → Nat
 | 0 => 3
 | 1 => 3
 | j + 2 => xga j + (xgq j + xga (j + 1) + 1) + 1
theorem xgb_le : ∀ j, xgb j ≤ xgb (j + 1)
 | 0 => Nat.le_refl _
 | j + 1 => by show _ ≤ xgb j + 8 * (xgb (j + 1) + 1); omega
theorem xga_le : ∀ j, xga j ≤ xga (j + 1)
 | 0 => Nat.le_refl _
 | j + 1 => by show _ ≤ xga j + (xgq j + xga (j + 1) + 1) + 1; omega
theorem mono_of {f : Nat → Nat} (h : ∀ j, f j ≤ f (j + 1)) {i j : Nat} (k : i ≤ j) : f i ≤ f j := by
  induction j with
  | zero => obtain rfl : i = 0 := by omega
            exact Nat.le_refl _
  | succ j ih =>
    rcases Nat.eq_or_lt_of_le k with e | e
    · rw [e]; exact Nat.le_refl _
    · exact Nat.le_trans (ih (by omega)) (h j)
theorem xgb7 : xgb 7 = 7310526 := rfl
theorem xga7 : xga 7 = 76218651 := rfl
def XgSt (F0 G0 : Nat → Rat) (j : Nat) (R S U N : Nat → Rat) : Prop :=
 (Fin_ R ∧ Fin_ S ∧ Fin_ U ∧ Fin_ N) ∧ (∀ E, Fin_ E → (Dv E R ∧ Dv E S ↔ Dv E F0 ∧ Dv E G0)) ∧
 (∃ V W, Fin_ V ∧ Fin_ W ∧ pad (cv U F0) (cv V G0) = R ∧ pad (cv N F0) (cv W G0) = S) ∧
 (CD (xgb j) R ∧ CD (xgb (j + 1)) S ∧ CD (xga j) U ∧ CD (xga (j + 1)) N) ∧ pl R ≤ 7 ∧ pl S + j ≤ 7 ∧ pl G0 ≤ 7 ∧
 ((j = 0 ∧ U = pone ∧ N = pz ∧ S = G0) ∨ (1 ≤ j ∧ pl N + pl R ≤ pl G0 + 1 ∧ pl U + pl R ≤ pl G0 + 1 ∧ pl S ≤ pl R ∧ R ≠ pz))
theorem XgSt.start {F G : Nat → Rat} (hF : Fin_ F) (hG : Fin_ G) (cF : CD 22 F) (cG : CD 22 G) (lF : pl F ≤ 7) (lG : pl G ≤ 7) : XgSt F G 0 F G pone pz :=
 ⟨⟨hF, hG, pone_fin, Fin_.pz⟩, fun _ _ => Iff.rfl, ⟨pz, pone, Fin_.pz, pone_fin, by rw [pone_cv, pz_cv]; funext n; simp only [pad, pz]; grind, by rw [pone_cv, pz_cv]; funext n; simp only [pad, pz]; grind⟩,
  ⟨cF, cG, CD.pone, CD.pz.mono (by show 1 ≤ 3; omega)⟩, lF, lG, lG, .inl ⟨rfl, rfl, rfl, rfl⟩⟩
theorem XgSt.step {F0 G0 R S U N : Nat → Rat} {j : Nat} (h : XgSt F0 G0 j R S U N) (h0 : S ≠ pz) : XgSt F0 G0 (j + 1) S (pr R S) N (psb U (cv (pq R S) N)) := by
 obtain ⟨⟨hR, hS, hU, hN⟩, hd, ⟨V, W, hV, hW, e1, e2⟩, ⟨cR, cS, cU, cN⟩, lR, lS, lG, hj⟩ := h
 have hp := pl_pos hS h0
 have hs := pl_le (pr_sup hR hS h0)
 have hR8 : Sup (8 + pl S - 1) R := (pl_sup hR).mono (by omega)
 have q8 := pq_sup hR8 hS h0
 have hq := pq_fin R S
 have c1 := CD.pr hR8 hS h0 cR cS
 have c2 := CD.pq hR8 hS h0 cR cS
 refine ⟨⟨hS, pr_fin hR hS, hN, hU.psb (hq.cv hN)⟩, fun E hE => by rw [dv_step]; exact hd E hE, ⟨W, psb V (cv (pq R S) W), hW, hV.psb (hq.cv hW), e2, ?_⟩,
  ⟨cS, c1, cN, cU.psb (CD.cv q8 (by omega) c2 cN)⟩, by omega, by omega, lG, .inr ?_⟩
 ·show _ = psb R (cv (pq R S) S)
  rw [psb_cv, psb_cv, cv_assoc, cv_assoc, ← e2, cv_pad]
  conv => rhs; rw [← e1]
  funext n; simp only [pad, psb]; grind
 ·rcases hj with ⟨rfl, rfl, rfl, rfl⟩ | ⟨hj, d1, d2, d3, d4⟩
  ·have e : psb pone (cv (pq R S) pz) = pone := by rw [cv_pz]; funext n; simp only [psb, pz]; grind
   have l1 := pl_le pone_sup
   rw [e, pl_pz]
   exact ⟨by omega, by omega, by omega, by omega, h0⟩
  ·have q1 := pq_sup (n := pl R - pl S + 1) ((pl_sup hR).mono (by omega)) hS h0
   have l1 : pl (psb U (cv (pq R S) N)) ≤ pl G0 + 1 - pl S := pl_le (((pl_sup hU).mono (by omega)).psb ((q1.cv (pl_sup hN)).mono (by omega)))
   exact ⟨by omega, by omega, by omega, by omega, h0⟩
theorem XgSt.room {F0 G0 R S U N : Nat → Rat} {j : Nat} (h : XgSt F0 G0 j R S U N) (h0 : S ≠ pz) : j ≤ 6 ∧ xgb j ≤ 7310526 ∧ xgb (j + 1) ≤ 7310526 ∧ xga j ≤ 76218651 ∧ xga (j + 1) ≤ 76218651 ∧ Sup 8 (pq R S) ∧ pl N ≤ 8 ∧ (∀ i, qsz (pq R S i) ≤ 73105268) ∧
  xgb j + (pl R + 2) * (xgb (j + 1) + 1) + 2 * xgb (j + 1) + 2 ≤ 68719476736 ∧ (∀ i, qsz (cv (pq R S) N i) ≤ 661060805) ∧ pl U ≤ 8 := by
 obtain ⟨⟨hR, hS, hU, hN⟩, hd, -, ⟨cR, cS, cU, cN⟩, lR, lS, lG, hj⟩ := h
 have hp := pl_pos hS h0
 have hR8 : Sup (8 + pl S - 1) R := (pl_sup hR).mono (by omega)
 have q8 := pq_sup hR8 hS h0
 have b1 : xgb j ≤ 7310526 := by rw [← xgb7]; exact mono_of xgb_le (by omega)
 have b2 : xgb (j + 1) ≤ 7310526 := by rw [← xgb7]; exact mono_of xgb_le (by omega)
 have a1 : xga j ≤ 76218651 := by rw [← xga7]; exact mono_of xga_le (by omega)
 have a2 : xga (j + 1) ≤ 76218651 := by rw [← xga7]; exact mono_of xga_le (by omega)
 have c2 := CD.pq hR8 hS h0 cR cS
 have c3 := CD.cv q8 (by omega) c2 cN
 have h8 : (pl R + 2) * (xgb (j + 1) + 1) ≤ 9 * (xgb (j + 1) + 1) := Nat.mul_le_mul_right _ (by omega)
 have lN : pl N ≤ 8 ∧ pl U ≤ 8 := by
  rcases hj with ⟨rfl, rfl, rfl, rfl⟩ | ⟨hj, d1, d2, d3, d4⟩
  ·have := pl_le pone_sup
   rw [pl_pz]; omega
  ·omega
 refine ⟨by omega, b1, b2, a1, a2, q8, lN.1, fun i => ?_, by omega, fun i => ?_, lN.2⟩
 ·have := pq_qsz hR8 hS h0 cR cS i; omega
 ·have := c3.elem i; omega
theorem XgSt.end_ {F0 G0 R S U N : Nat → Rat} {j : Nat} (h : XgSt F0 G0 j R S U N) (h0 : S = pz) (hF : Fin_ F0) (hG : Fin_ G0) (hg : G0 ≠ pz) (cF : CD 22 F0) (cG : CD 22 G0) (lF : pl F0 ≤ 7) :
  R ≠ pz ∧ CD 7310526 R ∧ CD 14621052 (mn R) ∧ CD 76218651 U ∧ CD 83529177 (psc (1 / ld R) U) ∧ pl U ≤ 7 ∧ 1 ≤ pl R ∧ pl R ≤ 7 ∧
  pq G0 (mn R) ≠ pz ∧ CD 1052715993 (pq G0 (mn R)) ∧ pl (pq G0 (mn R)) ≤ 7 ∧
  CD 8505257129 (pr (psc (1 / ld R) U) (pq G0 (mn R))) ∧ pl (pr (psc (1 / ld R) U) (pq G0 (mn R))) ≤ 7 ∧
  CD 8519878205 (psb (mn R) (cv (pr (psc (1 / ld R) U) (pq G0 (mn R))) F0)) ∧ pl (psb (mn R) (cv (pr (psc (1 / ld R) U) (pq G0 (mn R))) F0)) ≤ 14 ∧
  (∀ i, qsz (pq (psb (mn R) (cv (pr (psc (1 / ld R) U) (pq G0 (mn R))) F0)) G0 i) ≤ 8519878572) ∧
  IsX F0 G0 (mn R) (pr (psc (1 / ld R) U) (pq G0 (mn R))) (pq (psb (mn R) (cv (pr (psc (1 / ld R) U) (pq G0 (mn R))) F0)) G0) := by
 subst h0
 obtain ⟨⟨hR, hS, hU, hN⟩, hd, ⟨V, W, hV, hW, e1, e2⟩, ⟨cR, cS, cU, cN⟩, lR, lS, lG, hj⟩ := h
 rcases hj with ⟨rfl, rfl, rfl, e⟩ | ⟨hj, d1, d2, d3, d4⟩
 ·exact absurd e.symm hg
 have pR := pl_pos hR d4
 have cR' : CD 7310526 R := cR.mono (by rw [← xgb7]; exact mono_of xgb_le (by omega))
 have cU' : CD 76218651 U := cU.mono (by rw [← xga7]; exact mono_of xga_le (by omega))
 have hD := mn_fin hR
 have cD : CD 14621052 (mn R) := cR'.mn.mono (by omega)
 have hI : IsG F0 G0 (mn R) := (IsG.zero hR).of hd
 have hD0 := mn_ne hR d4
 have lD := mn_pl hR
 obtain ⟨A, hA, eA⟩ := hI.2.2.1
 obtain ⟨Q, hQ, eQ⟩ := hI.2.2.2.1
 have hper : pq G0 (mn R) = Q := by
  have := (pq_mul hQ hD hD0).1
  rw [← eQ] at this; exact this
 have hQ0 : Q ≠ pz := fun e => hg (by rw [eQ, e, pz_cv])
 have lQ : pl G0 = pl Q + pl (mn R) - 1 := by rw [eQ]; exact pl_cv hQ hD hQ0 hD0
 have pQ := pl_pos hQ hQ0
 have cQ : CD 1052715993 Q := by
  rw [← hper]
  exact (CD.pq (n := 8) ((pl_sup hG).mono (by omega)) hD hD0 cG cD).mono (by omega)
 have c1 : qsz (1 / ld R) ≤ 7310526 := by
  have e : 1 / ld R = (ld R)⁻¹ := by rw [Rat.div_def, Rat.one_mul]
  rw [e]; exact Nat.le_trans (qsz_inv _) (cR'.elem _)
 have cU1 : CD 83529177 (psc (1 / ld R) U) := (cU'.psc _).mono (by omega)
 have hU1 : Fin_ (psc (1 / ld R) U) := hU.psc _
 have lU1 : pl (psc (1 / ld R) U) ≤ 7 := Nat.le_trans (pl_le ((pl_sup hU).psc _)) (by omega)
 rw [hper]
 obtain ⟨U1, hU1e⟩ : ∃ U1, U1 = psc (1 / ld R) U := ⟨_, rfl⟩
 rw [← hU1e] at cU1 hU1 lU1 ⊢
 have hU2 := pr_fin hU1 hQ
 have cU2 : CD 8505257129 (pr U1 Q) := (CD.pr (n := 8) ((pl_sup hU1).mono (by omega)) hQ hQ0 cU1 cQ).mono (by omega)
 have sU2 := pr_sup hU1 hQ hQ0
 have lU2 := pl_le sU2
 have cX : CD 8519878205 (psb (mn R) (cv (pr U1 Q) F0)) := (cD.psb (CD.cv sU2 (by omega) cU2 cF)).mono (by omega)
 have hX : Fin_ (psb (mn R) (cv (pr U1 Q) F0)) := hD.psb (hU2.cv hF)
 have lX : pl (psb (mn R) (cv (pr U1 Q) F0)) ≤ 14 := pl_le (((pl_sup hD).mono (by omega)).psb (((pl_sup hU2).cv (pl_sup hF)).mono (by omega)))
 have key : psb (mn R) (cv (pr U1 Q) F0) = cv (pad (psc (1 / ld R) V) (cv (pq U1 Q) A)) G0 := by
  have k1 : cv (pr U1 Q) F0 = psb (cv U1 F0) (cv (cv (pq U1 Q) Q) F0) := by
   unfold pr; rw [psb_cv]
  have k2 : cv (cv (pq U1 Q) Q) F0 = cv (cv (pq U1 Q) A) G0 := by
   rw [cv_assoc, cv_assoc]
   congr 1
   conv => lhs; rw [eA]
   conv => rhs; rw [eQ]
   rw [← cv_assoc, ← cv_assoc, cv_comm Q A]
  have k3 : mn R = pad (cv U1 F0) (cv (psc (1 / ld R) V) G0) := by
   rw [hU1e, psc_cv, psc_cv]
   show psc (1 / ld R) R = _
   conv => lhs; rw [← e1]
   funext n; simp only [pad, psc]; grind
  rw [k1, k2, pad_cv]
  conv => lhs; rw [k3]
  funext n; simp only [pad, psb]; grind
 have hB : Fin_ (pad (psc (1 / ld R) V) (cv (pq U1 Q) A)) := (hV.psc _).pad ((pq_fin _ _).cv hA)
 have hV2 : pq (psb (mn R) (cv (pr U1 Q) F0)) G0 = pad (psc (1 / ld R) V) (cv (pq U1 Q) A) := by
  rw [key]; exact (pq_mul hB hG hg).1
 refine ⟨d4, cR', cD, cU', cU1, by omega, pR, lR, hQ0, cQ, by omega, cU2, by omega, cX, lX, fun i => ?_, hI, hU2, pq_fin _ _, ?_, sU2.mono (by omega)⟩
 ·have := pq_qsz (n := 15) ((pl_sup hX).mono (by omega)) hG hg cX cG i
  omega
 ·rw [hV2, ← key]
  funext n; simp only [pad, psb]; grind
end Go.Hp
namespace Go.Hp
open Go.RowKit
end Go.Hp
namespace Go.Proofs.YtfacbpnegkjcgaaGreatDoor
open Go.RowKit Go.Hp
/-! ### over polynomials -/
end Go.Proofs.YtfacbpnegkjcgaaGreatDoor
namespace Go.Proofs.YtfacbpnegkjcgaaGreatDoor
open Go.RowKit Go.Hp
end Go.Proofs.YtfacbpnegkjcgaaGreatDoor
namespace Go.Hp
open Go.RowKit
theorem OwnQ.at_ {base n c : Nat} {e : TypeId} {w : World} {A : Option Addr} {l : List Rat} (h : OwnQ base e w (.slice A n c) l) {j : Nat} (hj : j < l.length) :
  ∃ g o b A1 n c b' A1' n' c', A = some ⟨g, o, none⟩ ∧ base ≤ g ∧ w.cell? ⟨g, o + j * 4, none⟩ = some (.bool b) ∧ w.cell? ⟨g, o + j * 4 + 1, none⟩ = some (.slice A1 n c) ∧ w.cell? ⟨g, o + j * 4 + 2, none⟩ = some (.bool b') ∧ w.cell? ⟨g, o + j * 4 + 3, none⟩ = some (.slice A1' n' c') ∧ IsQ w (.agg #[.bool b, .slice A1 n c, .bool b', .slice A1' n' c']) l[j] := by
 obtain ⟨A', c', e1, h2, h3, h4⟩ := OwnQ.row h
 cases e1
 exact QsAt.at_ h4 hj
theorem OwnQ.shape {base : Nat} {e : TypeId} {w : World} {v : Value} {l : List Rat} (h : OwnQ base e w v l) : ∃ A c, v = .slice A l.length c ∧ l.length ≤ c ∧ c ≤ 9223372036854775807 := by
 obtain ⟨A', c', e1, h2, h3, h4⟩ := OwnQ.row h
 exact ⟨A', c', e1, h2, h3⟩
end Go.Hp
namespace Go.Proofs.YtfacbpnegkjcgaaGreatDoor
open Go.RowKit Go.Hp
end Go.Proofs.YtfacbpnegkjcgaaGreatDoor
namespace Go.Hp
open Go.RowKit
theorem IsP.upd {base : Nat} {G : List Nat} {w w' : World} {v : Value} {F : Nat → Rat} (h : IsP base w v F) (U : Upd G w w') (hG : ∀ g ∈ G, g < base) : IsP base w' v F := by
 obtain ⟨l, h1, h2, h3⟩ := h; exact ⟨l, RowV.upd h1 U hG fun _ _ q => q.kd U.kd, h2, h3⟩
end Go.Hp
namespace Go.Proofs.YtfacbpnegkjcgaaGreatDoor
open Go.RowKit Go.Hp
end Go.Proofs.YtfacbpnegkjcgaaGreatDoor
namespace Go.Hp
open Go.RowKit
end Go.Hp
namespace Go.Proofs.YtfacbpnegkjcgaaGreatDoor
open Go.RowKit Go.Hp
end Go.Proofs.YtfacbpnegkjcgaaGreatDoor
namespace Go.Hp
open Go.RowKit
theorem NewQ.own {w : World} {v : Value} {base : Nat} {q : Rat} {t : TypeId} (h : NewQ w v base q t) : OwnQ base t w v [q] := by
 obtain ⟨g, cs, rfl, h1, h2, h3, h4⟩ := h
 refine ⟨[cs], rfl, fun c hc => by simp at hc; subst hc; exact h3, ⟨by simp [h3], .inr ⟨g, 1, cs, rfl, h1, h2, by simp, by simp [maxLen], by simp [h3], ?_⟩⟩, fun j h h' => ?_⟩
 ·simp only [List.flatMap_cons, List.flatMap_nil, List.append_nil]
  exact List.take_of_length_le (by simp [h3])
 ·have : j = 0 := by simp at h; omega
  subst this; exact h4
end Go.Hp
namespace Go.Proofs.YtfacbpnegkjcgaaGreatDoor
open Go.RowKit Go.Hp
end Go.Proofs.YtfacbpnegkjcgaaGreatDoor
namespace Go.Hp
open Go.RowKit
theorem IsZ.of_one {w : World} {A : Option Addr} {c N : Nat} {b : Bool} {n : Int} (h : DigV w (.slice A 1 c) [N]) (h0 : N ≠ 0) (hn : n = if b then -(N : Int) else N) : IsZ w (.agg #[.bool b, .slice A 1 c]) n := by
 refine ⟨b, [N], ⟨_, rfl, h⟩, ?_, fun _ => by simpa using h0, fun _ => by simp⟩
 rw [hn]; unfold iv; simp [nv]
theorem IsZ.of_nil {w : World} : IsZ w (.agg #[.bool false, .slice none 0 0]) 0 := IsZ.zero w
end Go.Hp
namespace Go.Proofs.YtfacbpnegkjcgaaGreatDoor
open Go.RowKit Go.Hp
set_option maxHeartbeats 2000000 in
theorem z_b (n : Int) (w : World) (h1 : -4294967296 < n) (h2 : n < 4294967296) : Calls Tryz.prog 21 #[.int .i64 n] w (Gives w fun r w' => IsZ w' r n) := by
 go_enter Tryz.func21, Tryz.ntmps21
 by_cases hneg : n < 0
 ·have hb : decide (n < 0) = true := by simpa using hneg
  have Hw := Lib.hid (wrap_neg (x := n) (by omega) hneg)
  obtain ⟨N, hN⟩ : ∃ N, N = n.natAbs := ⟨_, rfl⟩
  have HN := Lib.hid hN
  have hNb : N < 4294967296 := by omega
  clear hN
  go_wp2
  obtain ⟨W9, eW9, e9, x9⟩ := Box.made (w.alloc (.cells #[.bool false, .slice none 0 0] 28)) 28 #[.bool true, .slice none 0 0] (by simp [isDig])
  rw [← eW9]
  clear eW9
  rw [World.size_alloc] at e9
  go_loopw [3] (fun uv wx => ∃ m : Nat, uv = .int .u64 m ∧ m < 4294967296 ∧ ((m = N ∧ Box wx (w.heap.size + 1) 28 #[.bool true, .slice none 0 0]) ∨ (m = 0 ∧ N ≠ 0 ∧ ∃ A c, Box wx (w.heap.size + 1) 28 #[.bool true, .slice A 1 c] ∧ DigV wx (.slice A 1 c) [N])) ∧ Ext (w.alloc (.cells #[.bool false, .slice none 0 0] 28)) wx) (fun uv _ => (intOf uv).toNat)
  case atStart => exact ⟨N, by rw [Hw.out, HN.out], hNb, .inl ⟨rfl, e9⟩, x9⟩
  case round =>
   clear e9 x9
   obtain ⟨m, rfl, hm, hst, hx⟩ := hrel
   by_cases h0 : m = 0
   ·have hr : ∃ A k c, Box wr (w.heap.size + 1) 28 #[.bool true, .slice A k c] ∧ IsZ wr (.agg #[.bool true, .slice A k c]) n := by
     rcases hst with ⟨e, hb⟩ | ⟨_, hne, A, c, hb, hd⟩
     ·exact ⟨_, _, _, hb, by have h3 := HN.out; omega⟩
     ·exact ⟨_, _, _, hb, IsZ.of_one hd hne (by have h3 := HN.out; (simp; omega))⟩
    obtain ⟨A5, n5, c5, ez, hr⟩ := hr
    have H0 := Lib.hid h0; clear h0
    have Hr := Lib.hid hr; clear hr hst
    have hm0 : ¬ (0 < (m : Int)) := by have := H0.out; omega
    obtain ⟨cez0, cez1⟩ := ez.cells2
    have fez := ez.frozen
    have hx1 := hx
    clear hx
    have hc1 := hx1.cells
    have hf1 := hx1.frozens
    have Hfin := Lib.hid (fin_z Hr.out hx1.a1 (NoDig.at_ hx1 (g := w.heap.size + 0) (by simp) (by simp [isDig])) (by omega))
    go_wp2
    refine bodyPost_ret (v := .agg #[.bool true, .slice A5 n5 c5]) (by simp [results, Tryz.results21, go_sem, hc1]) rfl ?_
    exact Hfin.out
   ·obtain ⟨rfl, ez⟩ : m = N ∧ Box wr (w.heap.size + 1) 28 #[.bool true, .slice none 0 0] := by
     rcases hst with ⟨e, hb⟩ | ⟨e, _⟩
     ·exact ⟨e, hb⟩
     ·exact absurd e h0
    have hm0 : 0 < m := by omega
    have hsz : w.heap.size ≤ wr.heap.size := hx.a1.size
    clear hst
    obtain ⟨cez0, cez1⟩ := ez.cells2
    have fez := ez.frozen
    go_wp2_with (at_builtin; refine wpList_append_run rfl _ _ 26 rfl (.slice none 0 0) (.slice (some ⟨wr.heap.size, 0, none⟩) 1 1) rfl rfl (append_d wr w.heap.size _ _ [] m _ _ (OwnD.nil _ _) (by first | rfl | omega) (by simp) hsz rfl) ?_)
    rintro v' w5 hown hg
    have xa : Ext wr w5 := ((Ext.refl wr).alloc _).grown hg (fun k hk => by simp [Value.ownBlock] at hk)
    have hd := hown.digv (Digs.cons hm Digs.nil)
    have hd2 := hd
    obtain ⟨A5, c5, rfl, -, -, -⟩ := hd2
    clear hown hg
    have ez5 := ez.ext xa
    replace hx := hx.trans xa
    clear ez xa cez0 cez1 fez
    obtain ⟨cez50, cez51⟩ := ez5.cells2
    have fez5 := ez5.frozen
    have Hd := Lib.hid hd; clear hd
    have H0 := Lib.hid h0; clear h0
    go_wp2
    have eb := ez5.set_ 1 (u := .slice A5 1 c5) rfl
    have U := Upd.set_ ez5.nodig 1 (.slice A5 1 c5)
    replace hx := U.from_ hx (by simp)
    have Hdd := Lib.hid (show DigV _ _ _ from DigV.kd Hd.out U.kd)
    go_roundw
    case rel => exact ⟨0, by go_num, by omega, .inr ⟨rfl, H0.out, A5, c5, eb, Hdd.out⟩, hx⟩
    case measure => simp [intOf] <;> omega
 ·have hb : decide (n < 0) = false := by simpa using hneg
  have Hw := Lib.hid (wrap_pos (x := n) (by omega) (by omega))
  obtain ⟨N, hN⟩ : ∃ N, N = n.natAbs := ⟨_, rfl⟩
  have HN := Lib.hid hN
  have hNb : N < 4294967296 := by omega
  clear hN
  go_wp2
  obtain ⟨W9, eW9, e9, x9⟩ := Box.made (w.alloc (.cells #[.bool false, .slice none 0 0] 28)) 28 #[.bool false, .slice none 0 0] (by simp [isDig])
  rw [← eW9]
  clear eW9
  rw [World.size_alloc] at e9
  go_loopw [3] (fun uv wx => ∃ m : Nat, uv = .int .u64 m ∧ m < 4294967296 ∧ ((m = N ∧ Box wx (w.heap.size + 1) 28 #[.bool false, .slice none 0 0]) ∨ (m = 0 ∧ N ≠ 0 ∧ ∃ A c, Box wx (w.heap.size + 1) 28 #[.bool false, .slice A 1 c] ∧ DigV wx (.slice A 1 c) [N])) ∧ Ext (w.alloc (.cells #[.bool false, .slice none 0 0] 28)) wx) (fun uv _ => (intOf uv).toNat)
  case atStart => exact ⟨N, by (congr 1; have h3 := HN.out; omega), hNb, .inl ⟨rfl, e9⟩, x9⟩
  case round =>
   clear e9 x9
   obtain ⟨m, rfl, hm, hst, hx⟩ := hrel
   by_cases h0 : m = 0
   ·have hr : ∃ A k c, Box wr (w.heap.size + 1) 28 #[.bool false, .slice A k c] ∧ IsZ wr (.agg #[.bool false, .slice A k c]) n := by
     rcases hst with ⟨e, hb⟩ | ⟨_, hne, A, c, hb, hd⟩
     ·exact ⟨_, _, _, hb, by have h3 := HN.out; (have e5 : n = 0 := by omega) ; rw [e5]; exact IsZ.of_nil⟩
     ·exact ⟨_, _, _, hb, IsZ.of_one hd hne (by have h3 := HN.out; (simp; omega))⟩
    obtain ⟨A5, n5, c5, ez, hr⟩ := hr
    have H0 := Lib.hid h0; clear h0
    have Hr := Lib.hid hr; clear hr hst
    have hm0 : ¬ (0 < (m : Int)) := by have := H0.out; omega
    obtain ⟨cez0, cez1⟩ := ez.cells2
    have fez := ez.frozen
    have hx1 := hx
    clear hx
    have hc1 := hx1.cells
    have hf1 := hx1.frozens
    have Hfin := Lib.hid (fin_z Hr.out hx1.a1 (NoDig.at_ hx1 (g := w.heap.size + 0) (by simp) (by simp [isDig])) (by omega))
    go_wp2
    refine bodyPost_ret (v := .agg #[.bool false, .slice A5 n5 c5]) (by simp [results, Tryz.results21, go_sem, hc1]) rfl ?_
    exact Hfin.out
   ·obtain ⟨rfl, ez⟩ : m = N ∧ Box wr (w.heap.size + 1) 28 #[.bool false, .slice none 0 0] := by
     rcases hst with ⟨e, hb⟩ | ⟨e, _⟩
     ·exact ⟨e, hb⟩
     ·exact absurd e h0
    have hm0 : 0 < m := by omega
    have hsz : w.heap.size ≤ wr.heap.size := hx.a1.size
    clear hst
    obtain ⟨cez0, cez1⟩ := ez.cells2
    have fez := ez.frozen
    go_wp2_with (at_builtin; refine wpList_append_run rfl _ _ 26 rfl (.slice none 0 0) (.slice (some ⟨wr.heap.size, 0, none⟩) 1 1) rfl rfl (append_d wr w.heap.size _ _ [] m _ _ (OwnD.nil _ _) (by first | rfl | omega) (by simp) hsz rfl) ?_)
    rintro v' w5 hown hg
    have xa : Ext wr w5 := ((Ext.refl wr).alloc _).grown hg (fun k hk => by simp [Value.ownBlock] at hk)
    have hd := hown.digv (Digs.cons hm Digs.nil)
    have hd2 := hd
    obtain ⟨A5, c5, rfl, -, -, -⟩ := hd2
    clear hown hg
    have ez5 := ez.ext xa
    replace hx := hx.trans xa
    clear ez xa cez0 cez1 fez
    obtain ⟨cez50, cez51⟩ := ez5.cells2
    have fez5 := ez5.frozen
    have Hd := Lib.hid hd; clear hd
    have H0 := Lib.hid h0; clear h0
    go_wp2
    have eb := ez5.set_ 1 (u := .slice A5 1 c5) rfl
    have U := Upd.set_ ez5.nodig 1 (.slice A5 1 c5)
    replace hx := U.from_ hx (by simp)
    have Hdd := Lib.hid (show DigV _ _ _ from DigV.kd Hd.out U.kd)
    go_roundw
    case rel => exact ⟨0, by go_num, by omega, .inr ⟨rfl, H0.out, A5, c5, eb, Hdd.out⟩, hx⟩
    case measure => simp [intOf] <;> omega
end Go.Proofs.YtfacbpnegkjcgaaGreatDoor
namespace Go.Hp
open Go.RowKit
def IntsV (w : World) (v : Value) (ns : List Int) : Prop := ∃ g c, v = .slice (some ⟨g, 0, none⟩) ns.length c ∧ ns.length ≤ c ∧ c ≤ 9223372036854775807 ∧ ∀ j (h : j < ns.length), w.cell? ⟨g, j, none⟩ = some (.int .i64 ns[j])
theorem IntsV.new (w : World) (t : TypeId) (ns : List Int) (h : ns.length ≤ 1000) : IntsV (w.alloc (.cells (ns.map fun n => Value.int .i64 n).toArray t)) (.slice (some ⟨w.heap.size, 0, none⟩) ns.length ns.length) ns :=
 ⟨_, _, rfl, Nat.le_refl _, by omega, fun j hj => by
  rw [cell_of_row _ w.heap.size j _ t (0, 0) (heap_alloc_new w _)]
  simp [hj]⟩
theorem QsV.at_ {base n c : Nat} {w : World} {A : Option Addr} {l : List Rat} (h : QsV base w (.slice A n c) l) {j : Nat} (hj : j < l.length) :
  ∃ g o b A1 n c b' A1' n' c', A = some ⟨g, o, none⟩ ∧ base ≤ g ∧ w.cell? ⟨g, o + j * 4, none⟩ = some (.bool b) ∧ w.cell? ⟨g, o + j * 4 + 1, none⟩ = some (.slice A1 n c) ∧ w.cell? ⟨g, o + j * 4 + 2, none⟩ = some (.bool b') ∧ w.cell? ⟨g, o + j * 4 + 3, none⟩ = some (.slice A1' n' c') ∧ IsQ w (.agg #[.bool b, .slice A1 n c, .bool b', .slice A1' n' c']) l[j] := by
 obtain ⟨A', c', e1, h2, h3, h4⟩ := h
 have e5 : A' = A := by injection e1 with h1; exact h1.symm
 subst e5
 exact QsAt.at_ h4 hj
end Go.Hp
namespace Go.Proofs.YtfacbpnegkjcgaaGreatDoor
open Go.RowKit Go.Hp
end Go.Proofs.YtfacbpnegkjcgaaGreatDoor
namespace Go.Hp
end Go.Hp
namespace Go.Proofs.YtfacbpnegkjcgaaGreatDoor
open Go.RowKit Go.Hp
end Go.Proofs.YtfacbpnegkjcgaaGreatDoor
namespace Go.Hp
open Go.RowKit
theorem TopR.of {l : List Rat} (h : co l (l.length - 1) ≠ 0) : TopR l := fun h0 => by rw [← co_lt]; exact h
end Go.Hp
namespace Go.Proofs.YtfacbpnegkjcgaaGreatDoor
open Go.RowKit Go.Hp
end Go.Proofs.YtfacbpnegkjcgaaGreatDoor
namespace Go.Hp
open Go.RowKit
theorem addr_add (b o i : Nat) : (⟨b, o, none⟩ : Addr).add i = ⟨b, o + i, none⟩ := by unfold Addr.add; split <;> simp_all
abbrev Raw := Bool × List Nat × Bool × List Nat
def RawQ (w : World) (v : Value) (x : Raw) : Prop := ∃ A n c A' n' c', v = .agg #[.bool x.1, .slice A n c, .bool x.2.2.1, .slice A' n' c'] ∧ DigV w (.slice A n c) x.2.1 ∧ DigV w (.slice A' n' c') x.2.2.2
def PolyV (w : World) (v : Value) (l : List Raw) : Prop := RowV 4 RawQ 0 w v l
theorem RawQ.ext {w w' : World} {v : Value} {x : Raw} (h : RawQ w v x) (e : Ext w w') : RawQ w' v x := by
 obtain ⟨A, n, c, A', n', c', h1, h2, h3⟩ := h; exact ⟨A, n, c, A', n', c', h1, h2.ext e, h3.ext e⟩
theorem PolyV.ext {w w' : World} {v : Value} {l : List Raw} (h : PolyV w v l) (e : Ext w w') : PolyV w' v l := RowV.ext h e fun _ _ q => q.ext e
def Small (x : Raw) : Prop := x.2.1.length ≤ 2 ∧ x.2.2.2.length ≤ 2
def ratOf (x : Raw) : Rat := Rat.divInt (iv x.1 x.2.1) (iv x.2.2.1 x.2.2.2)
theorem iv_abs (b : Bool) (ds : List Nat) : (iv b ds).natAbs = nv ds := by unfold iv; cases b <;> simp
theorem sz_dig {w : World} {v : Value} {ds : List Nat} (h : DigV w v ds) : sz (nv ds) ≤ ds.length := by
 obtain ⟨_, _, _, _, _, hA⟩ := h
 exact sz_nv hA.1
theorem RawQ.has {w : World} {v : Value} {x : Raw} (h : RawQ w v x) (hs : Small x) : HasQ w v (ratOf x) ∧ qsz (ratOf x) ≤ 2 := by
 obtain ⟨A, n, c, A', n', c', rfl, h2, h3⟩ := h
 have s1 := sz_dig h2
 have s2 := sz_dig h3
 obtain ⟨k1, k2⟩ := hs
 have e1 := iv_abs x.1 x.2.1
 have e2 := iv_abs x.2.2.1 x.2.2.2
 exact ⟨⟨_, A, n, c, _, A', n', c', _, _, rfl, ⟨_, _, ⟨_, rfl, h2⟩, rfl, by omega⟩, ⟨_, _, ⟨_, rfl, h3⟩, rfl, by omega⟩, by rw [e1]; omega, by rw [e2]; omega, rfl⟩,
  qsz_divInt (by rw [e1]; omega) (by rw [e2]; omega) (by omega)⟩
theorem PolyV.has {w : World} {v : Value} {l : List Raw} (h : PolyV w v l) (hs : ∀ x ∈ l, Small x) : HsV 0 w v (l.map ratOf) := by
 obtain ⟨A, c, h1, h2, h3, h4⟩ := h
 refine ⟨A, c, by simpa using h1, by simpa using h2, h3, fun h0 => ?_⟩
 obtain ⟨g, o, q1, q2, q3⟩ := h4 (by simpa using h0)
 refine ⟨g, o, q1, q2, fun j hj => ?_⟩
 have hj' : j < l.length := by simpa using hj
 obtain ⟨cs, r1, r2, r3⟩ := q3 j hj'
 refine ⟨cs, r1, r2, ?_⟩
 rw [List.getElem_map]
 exact (r3.has (hs _ (List.getElem_mem hj'))).1
theorem PolyV.len {w : World} {v : Value} {l : List Raw} (h : PolyV w v l) : ∃ A c, v = .slice A l.length c ∧ l.length ≤ c ∧ c ≤ 9223372036854775807 := by
 obtain ⟨A, c, h1, h2, h3, h4⟩ := h; exact ⟨A, c, h1, h2, h3⟩
theorem PolyV.at_ {w : World} {A : Option Addr} {n c : Nat} {l : List Raw} (h : PolyV w (.slice A n c) l) {j : Nat} (hj : j < l.length) :
  ∃ g o A1 n c A1' n' c', A = some ⟨g, o, none⟩ ∧ w.cell? ⟨g, o + j * 4, none⟩ = some (.bool l[j].1) ∧ w.cell? ⟨g, o + j * 4 + 1, none⟩ = some (.slice A1 n c) ∧ w.cell? ⟨g, o + j * 4 + 2, none⟩ = some (.bool l[j].2.2.1) ∧ w.cell? ⟨g, o + j * 4 + 3, none⟩ = some (.slice A1' n' c') ∧ n = l[j].2.1.length ∧ n' = l[j].2.2.2.length := by
 obtain ⟨A', c', e1, h2, h3, h4⟩ := h
 have e5 : A' = A := by injection e1 with h1; exact h1.symm
 subst e5
 obtain ⟨g, o, ha, hb, hc⟩ := h4 (by omega)
 obtain ⟨cs, q1, q2, q3⟩ := hc j hj
 obtain ⟨A1, n1, c1, A2, n2, c2, e, d1, d2⟩ := q3
 obtain rfl := agg4 e
 obtain ⟨_, _, f1, _⟩ := d1
 obtain ⟨_, _, f2, _⟩ := d2
 exact ⟨g, o, A1, n1, c1, A2, n2, c2, ha, q2 0 (by omega), q2 1 (by omega), q2 2 (by omega), q2 3 (by omega), by injection f1, by injection f2⟩
end Go.Hp
namespace Go.Proofs.YtfacbpnegkjcgaaGreatDoor
open Go.RowKit Go.Hp Go.Deep Go.ChangeShapes Go.ChangeAt
section
variable {H : Type} {enc : TypeId × Value → H} {w : World} {spare : Nat → Bool} {held : Bool}
theorem open_digs {fuel : Nat} {cs : List Value} {x : DataW H × List MemPlace} (h : DataW.trod enc Tryz.prog w 0 spare held fuel 26 cs = some x) : ∃ A n c ds, cs = [.slice A n c] ∧ DigV w (.slice A n c) ds := by
 rcases open_ints Tryz.underlying26 Tryz.underlying87 (by kernel_rfl) h with ⟨rfl, _⟩ | ⟨a, n, c, zs, rfl, _, hl, hm, hz, _, hcell, hwz⟩
 ·exact ⟨none, 0, 0, [], rfl, none, 0, rfl, Nat.le_refl _, by omega, fun d hd => by simp at hd, fun h => by simp at h⟩
 ·have hzl : n ≤ zs.length := by rw [hz]; split <;> omega
  have hw : ∀ z ∈ zs, 0 ≤ z ∧ z < 4294967296 := fun z hz => by
   have := hwz z hz
   simp [Lit.wf] at this
   have e1 : IntKind.u32.min = 0 := rfl
   have e2 : IntKind.u32.max = 4294967295 := rfl
   omega
  have hlen : ((zs.take n).map Int.toNat).length = n := by simp; omega
  refine ⟨some a, n, c, (zs.take n).map Int.toNat, rfl, some a, c, by rw [hlen], by rw [hlen]; exact hl, maxLen_le hm, ?_, fun _ => ⟨a, rfl, fun j hj => ?_⟩⟩
  ·intro d hd
   obtain ⟨z, hz1, rfl⟩ := List.mem_map.1 hd
   have := hw z (List.mem_of_mem_take hz1)
   omega
  ·rw [hlen] at hj
   have hjz : j < zs.length := by omega
   rw [hcell j hjz, List.getElem_map, List.getElem_take]
   have := hw zs[j] (List.getElem_mem hjz)
   rw [show zs.getD j 0 = zs[j] from by rw [List.getD_eq_getElem?_getD, List.getElem?_eq_getElem hjz]; rfl]
   congr 2; omega
set_option maxRecDepth 100000 in
theorem open_zraw {fuel : Nat} {cs : List Value} {x : DataW H × List MemPlace} (h : DataW.trod enc Tryz.prog w 0 spare held fuel 28 cs = some x) : ∃ b A n c ds, cs = [.bool b, .slice A n c] ∧ DigV w (.slice A n c) ds := by
 obtain ⟨y0, y1, n, _, hl, h0, h1⟩ := trod_struct2 Tryz.underlying28 h
 rw [show Tryz.prog.cellsOf 28 = 2 from by kernel_rfl] at hl
 match cs, hl with
 | [c0, c1], _ =>
  rw [show Tryz.prog.cellsOf 4 = 1 from by kernel_rfl] at h0
  rw [show Tryz.prog.cellsOf 26 = 1 from by kernel_rfl] at h1
  obtain ⟨b, e0, _⟩ := DataW.trod_bool Tryz.underlying4 h0
  obtain ⟨A, m, c, ds, e1, hd⟩ := open_digs h1
  simp at e0 e1
  subst e0 e1
  exact ⟨b, A, m, c, ds, rfl, hd⟩
end
end Go.Proofs.YtfacbpnegkjcgaaGreatDoor
namespace Go.Hp
open Go.RowKit
def HasPt (w : World) (v : Value) (p : Rat × Rat) : Prop :=
 ∃ b1 A1 n1 c1 b2 A2 n2 c2 b3 A3 n3 c3 b4 A4 n4 c4, v = .agg #[.bool b1, .slice A1 n1 c1, .bool b2, .slice A2 n2 c2, .bool b3, .slice A3 n3 c3, .bool b4, .slice A4 n4 c4] ∧
  HasQ w (.agg #[.bool b1, .slice A1 n1 c1, .bool b2, .slice A2 n2 c2]) p.1 ∧ HasQ w (.agg #[.bool b3, .slice A3 n3 c3, .bool b4, .slice A4 n4 c4]) p.2
theorem HasPt.ext {w w' : World} {v : Value} {p : Rat × Rat} (h : HasPt w v p) (e : Ext w w') : HasPt w' v p := by
 obtain ⟨b1, A1, n1, c1, b2, A2, n2, c2, b3, A3, n3, c3, b4, A4, n4, c4, h1, h2, h3⟩ := h
 exact ⟨b1, A1, n1, c1, b2, A2, n2, c2, b3, A3, n3, c3, b4, A4, n4, c4, h1, h2.ext e, h3.ext e⟩
def PtsV (w : World) (v : Value) (l : List (Rat × Rat)) : Prop := RowV 8 HasPt 0 w v l
def PtsAt (w : World) (A : Option Addr) (l : List (Rat × Rat)) : Prop := RowAt 8 HasPt 0 w A l
theorem PtsV.ext {w w' : World} {v : Value} {l : List (Rat × Rat)} (h : PtsV w v l) (e : Ext w w') : PtsV w' v l := RowV.ext h e fun _ _ q => q.ext e
theorem PtsAt.at_ {w : World} {A : Option Addr} {l : List (Rat × Rat)} (h : PtsAt w A l) {j : Nat} (hj : j < l.length) :
  ∃ g o b1 A1 n1 c1 b2 A2 n2 c2 b3 A3 n3 c3 b4 A4 n4 c4, A = some ⟨g, o, none⟩ ∧ w.cell? ⟨g, o + j * 8, none⟩ = some (.bool b1) ∧ w.cell? ⟨g, o + j * 8 + 1, none⟩ = some (.slice A1 n1 c1) ∧ w.cell? ⟨g, o + j * 8 + 2, none⟩ = some (.bool b2) ∧ w.cell? ⟨g, o + j * 8 + 3, none⟩ = some (.slice A2 n2 c2) ∧
   w.cell? ⟨g, o + j * 8 + 4, none⟩ = some (.bool b3) ∧ w.cell? ⟨g, o + j * 8 + 5, none⟩ = some (.slice A3 n3 c3) ∧ w.cell? ⟨g, o + j * 8 + 6, none⟩ = some (.bool b4) ∧ w.cell? ⟨g, o + j * 8 + 7, none⟩ = some (.slice A4 n4 c4) ∧
   HasQ w (.agg #[.bool b1, .slice A1 n1 c1, .bool b2, .slice A2 n2 c2]) l[j].1 ∧ HasQ w (.agg #[.bool b3, .slice A3 n3 c3, .bool b4, .slice A4 n4 c4]) l[j].2 := by
 obtain ⟨g, o, ha, hb, hc⟩ := h (by omega)
 obtain ⟨cs, q1, q2, q3⟩ := hc j hj
 obtain ⟨b1, A1, n1, c1, b2, A2, n2, c2, b3, A3, n3, c3, b4, A4, n4, c4, e, h1, h2⟩ := q3
 obtain rfl : cs = #[.bool b1, .slice A1 n1 c1, .bool b2, .slice A2 n2 c2, .bool b3, .slice A3 n3 c3, .bool b4, .slice A4 n4 c4] := by injection e
 exact ⟨g, o, b1, A1, n1, c1, b2, A2, n2, c2, b3, A3, n3, c3, b4, A4, n4, c4, ha, q2 0 (by omega), q2 1 (by omega), q2 2 (by omega), q2 3 (by omega), q2 4 (by omega), q2 5 (by omega), q2 6 (by omega), q2 7 (by omega), h1, h2⟩
theorem PtsV.len {w : World} {v : Value} {l : List (Rat × Rat)} (h : PtsV w v l) : ∃ A c, v = .slice A l.length c ∧ l.length ≤ c ∧ c ≤ 9223372036854775807 ∧ PtsAt w A l := h
def px (l : List (Rat × Rat)) (i : Nat) : Rat := (l.getD i (0, 0)).1
def py (l : List (Rat × Rat)) (i : Nat) : Rat := (l.getD i (0, 0)).2
theorem px_lt {l : List (Rat × Rat)} {i : Nat} (h : i < l.length) : px l i = l[i].1 := by unfold px; rw [List.getD_eq_getElem?_getD, List.getElem?_eq_getElem h]; rfl
theorem py_lt {l : List (Rat × Rat)} {i : Nat} (h : i < l.length) : py l i = l[i].2 := by unfold py; rw [List.getD_eq_getElem?_getD, List.getElem?_eq_getElem h]; rfl
theorem Apart.step {X : Nat → Rat} {n : Nat} (h : Apart X n) (k : ∀ j, j < n → X n ≠ X j) : Apart X (n + 1) := fun i j hi hj => by
 rcases Nat.lt_or_ge i n with l | l
 ·exact h i j l hj
 ·obtain rfl : i = n := by omega
  exact k j hj
end Go.Hp
namespace Go.Hp
open Go.RowKit
abbrev RawI := Bool × List Nat
def RawZ (w : World) (v : Value) (x : RawI) : Prop := IntV w v x.1 x.2
theorem RawZ.ext {w w' : World} {v : Value} {x : RawI} (h : RawZ w v x) (e : Ext w w') : RawZ w' v x := by
 obtain ⟨u, h1, h2⟩ := h; exact ⟨u, h1, h2.ext e⟩
def ZPolyV (w : World) (v : Value) (l : List RawI) : Prop := RowV 2 RawZ 0 w v l
theorem ZPolyV.ext {w w' : World} {v : Value} {l : List RawI} (h : ZPolyV w v l) (e : Ext w w') : ZPolyV w' v l := RowV.ext h e fun _ _ q => q.ext e
abbrev RawPt := Raw × Raw
def RawP2 (w : World) (v : Value) (x : RawPt) : Prop :=
 ∃ b1 A1 n1 c1 b2 A2 n2 c2 b3 A3 n3 c3 b4 A4 n4 c4, v = .agg #[.bool b1, .slice A1 n1 c1, .bool b2, .slice A2 n2 c2, .bool b3, .slice A3 n3 c3, .bool b4, .slice A4 n4 c4] ∧
  RawQ w (.agg #[.bool b1, .slice A1 n1 c1, .bool b2, .slice A2 n2 c2]) x.1 ∧ RawQ w (.agg #[.bool b3, .slice A3 n3 c3, .bool b4, .slice A4 n4 c4]) x.2
theorem RawP2.ext {w w' : World} {v : Value} {x : RawPt} (h : RawP2 w v x) (e : Ext w w') : RawP2 w' v x := by
 obtain ⟨b1, A1, n1, c1, b2, A2, n2, c2, b3, A3, n3, c3, b4, A4, n4, c4, h1, h2, h3⟩ := h
 exact ⟨b1, A1, n1, c1, b2, A2, n2, c2, b3, A3, n3, c3, b4, A4, n4, c4, h1, h2.ext e, h3.ext e⟩
def PointsV (w : World) (v : Value) (l : List RawPt) : Prop := RowV 8 RawP2 0 w v l
def PointsAt (w : World) (A : Option Addr) (l : List RawPt) : Prop := RowAt 8 RawP2 0 w A l
theorem PointsV.ext {w w' : World} {v : Value} {l : List RawPt} (h : PointsV w v l) (e : Ext w w') : PointsV w' v l := RowV.ext h e fun _ _ q => q.ext e
theorem PointsAt.at_ {w : World} {A : Option Addr} {l : List RawPt} (h : PointsAt w A l) {j : Nat} (hj : j < l.length) :
  ∃ g o b1 A1 n1 c1 b2 A2 n2 c2 b3 A3 n3 c3 b4 A4 n4 c4, A = some ⟨g, o, none⟩ ∧ w.cell? ⟨g, o + j * 8, none⟩ = some (.bool b1) ∧ w.cell? ⟨g, o + j * 8 + 1, none⟩ = some (.slice A1 n1 c1) ∧ w.cell? ⟨g, o + j * 8 + 2, none⟩ = some (.bool b2) ∧ w.cell? ⟨g, o + j * 8 + 3, none⟩ = some (.slice A2 n2 c2) ∧
   w.cell? ⟨g, o + j * 8 + 4, none⟩ = some (.bool b3) ∧ w.cell? ⟨g, o + j * 8 + 5, none⟩ = some (.slice A3 n3 c3) ∧ w.cell? ⟨g, o + j * 8 + 6, none⟩ = some (.bool b4) ∧ w.cell? ⟨g, o + j * 8 + 7, none⟩ = some (.slice A4 n4 c4) ∧
   RawQ w (.agg #[.bool b1, .slice A1 n1 c1, .bool b2, .slice A2 n2 c2]) l[j].1 ∧ RawQ w (.agg #[.bool b3, .slice A3 n3 c3, .bool b4, .slice A4 n4 c4]) l[j].2 := by
 obtain ⟨g, o, ha, hb, hc⟩ := h (by omega)
 obtain ⟨cs, q1, q2, q3⟩ := hc j hj
 obtain ⟨b1, A1, n1, c1, b2, A2, n2, c2, b3, A3, n3, c3, b4, A4, n4, c4, e, h1, h2⟩ := q3
 obtain rfl : cs = #[.bool b1, .slice A1 n1 c1, .bool b2, .slice A2 n2 c2, .bool b3, .slice A3 n3 c3, .bool b4, .slice A4 n4 c4] := by injection e
 exact ⟨g, o, b1, A1, n1, c1, b2, A2, n2, c2, b3, A3, n3, c3, b4, A4, n4, c4, ha, q2 0 (by omega), q2 1 (by omega), q2 2 (by omega), q2 3 (by omega), q2 4 (by omega), q2 5 (by omega), q2 6 (by omega), q2 7 (by omega), h1, h2⟩
def SmallP (x : RawPt) : Prop := Small x.1 ∧ Small x.2
def ptOf (x : RawPt) : Rat × Rat := (ratOf x.1, ratOf x.2)
theorem PointsV.has {w : World} {v : Value} {l : List RawPt} (h : PointsV w v l) (hs : ∀ x ∈ l, SmallP x) : PtsV w v (l.map ptOf) ∧ (∀ i, i < l.length → qsz (px (l.map ptOf) i) ≤ 2 ∧ qsz (py (l.map ptOf) i) ≤ 2) := by
 obtain ⟨A, c, h1, h2, h3, h4⟩ := h
 refine ⟨⟨A, c, by simpa using h1, by simpa using h2, h3, fun h0 => ?_⟩, fun i hi => ?_⟩
 ·obtain ⟨g, o, q1, q2, q3⟩ := h4 (by simpa using h0)
  refine ⟨g, o, q1, q2, fun j hj => ?_⟩
  have hj' : j < l.length := by simpa using hj
  obtain ⟨cs, r1, r2, b1, A1, n1, c1, b2, A2, n2, c2, b3, A3, n3, c3, b4, A4, n4, c4, e, k1, k2⟩ := q3 j hj'
  refine ⟨cs, r1, r2, ?_⟩
  rw [List.getElem_map]
  have hsm := hs _ (List.getElem_mem hj')
  exact ⟨b1, A1, n1, c1, b2, A2, n2, c2, b3, A3, n3, c3, b4, A4, n4, c4, e, (k1.has hsm.1).1, (k2.has hsm.2).1⟩
 ·obtain ⟨g, o, q1, q2, q3⟩ := h4 (by omega)
  obtain ⟨cs, r1, r2, b1, A1, n1, c1, b2, A2, n2, c2, b3, A3, n3, c3, b4, A4, n4, c4, e, k1, k2⟩ := q3 i hi
  have hsm := hs _ (List.getElem_mem hi)
  rw [px_lt (by simpa using hi), py_lt (by simpa using hi), List.getElem_map]
  exact ⟨(k1.has hsm.1).2, (k2.has hsm.2).2⟩
end Go.Hp
namespace Go.Proofs.YtfacbpnegkjcgaaGreatDoor
open Go.RowKit Go.Hp Go.Deep Go.ChangeShapes Go.ChangeAt
section
variable {H : Type} {enc : TypeId × Value → H} {w : World} {spare : Nat → Bool} {held : Bool}
theorem open_rows {α : Type} {k E : Nat} (hk : 0 < k) {rd : World → Value → α → Prop} (hsz : Tryz.prog.cellsOf E = k)
  (hop : ∀ {fuel : Nat} {cs : List Value} {x : DataW H × List MemPlace}, DataW.trod enc Tryz.prog w 0 spare held fuel E cs = some x → ∃ r : α, ∃ cs' : Array Value, cs = cs'.toList ∧ cs'.size = k ∧ rd w (.agg cs') r)
  {T fuel : Nat} {v : Value} {x : DataW H × List MemPlace} (hT : Tryz.prog.underlying T = some (.slice E)) (h : DataW.trod enc Tryz.prog w 0 spare held fuel T v.cells.toList = some x) (hv : ∃ a n c, v = .slice a n c) : ∃ l : List α, RowV k rd 0 w v l := by
 obtain ⟨a0, n0, c0, rfl⟩ := hv
 rcases open_slice hT h with ⟨hcs, _⟩ | ⟨a, n, c, m, k', D, Pl, hcs, _, hl, hm, hmm, _, hel⟩
 ·simp [Value.cells] at hcs
  obtain ⟨rfl, rfl, rfl⟩ := hcs
  exact ⟨[], RowV.nil k rd 0 w⟩
 ·simp [Value.cells] at hcs
  obtain ⟨rfl, rfl, rfl⟩ := hcs
  have hnm : n0 ≤ m := by rw [hmm]; split <;> omega
  rw [hsz] at hel
  have key : ∀ i, i < n0 → ∃ r : α, ∃ cs : Array Value, cs.size = k ∧ (∀ j, j < k → w.cell? ((a.add (i * k)).add j) = cs[j]?) ∧ rd w (.agg cs) r := fun i hi => by
   obtain ⟨cs', h1, h2⟩ := hel i (by omega)
   obtain ⟨r, cs, rfl, h3, h4⟩ := hop h2
   obtain ⟨_, h5, h6⟩ := World.cells?_some h1
   exact ⟨r, cs, h3, fun j hj => by rw [h6 j hj]; simp, h4⟩
  have hc : ∀ n', n' ≤ n0 → ∃ l : List α, l.length = n' ∧ ∀ i (h : i < l.length), ∃ cs : Array Value, cs.size = k ∧ (∀ j, j < k → w.cell? ((a.add (i * k)).add j) = cs[j]?) ∧ rd w (.agg cs) l[i] := by
   intro n'
   induction n' with
   | zero => intro _; exact ⟨[], rfl, fun i h => by simp at h⟩
   | succ n' ih =>
    intro hn
    obtain ⟨l, hl1, hl2⟩ := ih (by omega)
    obtain ⟨r, cs, k1, k2, k3⟩ := key n' (by omega)
    refine ⟨l ++ [r], by simp [hl1], fun i hi => ?_⟩
    rcases Nat.lt_or_ge i l.length with h' | h'
    ·rw [List.getElem_append_left h']; exact hl2 i h'
    ·have e : i = n' := by simp at hi; omega
     subst e
     refine ⟨cs, k1, k2, ?_⟩
     rw [List.getElem_append_right h']
     simpa [hl1] using k3
  obtain ⟨l, hl1, hl2⟩ := hc n0 (Nat.le_refl _)
  refine ⟨l, some a, c0, by rw [hl1], by omega, maxLen_le hm, fun h0 => ?_⟩
  obtain ⟨b, off, spot⟩ := a
  obtain ⟨cs, k1, k2, k3⟩ := hl2 0 h0
  have hs : spot = none := by
   have := k2 0 hk
   rw [Array.getElem?_eq_getElem (by omega)] at this
   simpa [Addr.add] using World.cell?_spot this
  subst hs
  refine ⟨b, off, rfl, Nat.zero_le _, fun j hj => ?_⟩
  obtain ⟨cs, k1, k2, k3⟩ := hl2 j hj
  refine ⟨cs, k1, fun i hi => ?_, k3⟩
  rw [← k2 i hi, addr_add, addr_add]
set_option maxRecDepth 100000 in
theorem open_zp {fuel : Nat} {cs : List Value} {x : DataW H × List MemPlace} (h : DataW.trod enc Tryz.prog w 0 spare held fuel 28 cs = some x) : ∃ r : RawI, ∃ cs' : Array Value, cs = cs'.toList ∧ cs'.size = 2 ∧ RawZ w (.agg cs') r := by
 obtain ⟨b, A, n, c, ds, rfl, hd⟩ := open_zraw h
 exact ⟨(b, ds), #[.bool b, .slice A n c], rfl, rfl, _, rfl, hd⟩
theorem open_zpoly {T fuel : Nat} {v : Value} {x : DataW H × List MemPlace} (hT : Tryz.prog.underlying T = some (.slice 28)) (h : DataW.trod enc Tryz.prog w 0 spare held fuel T v.cells.toList = some x) (hv : ∃ a n c, v = .slice a n c) : ∃ l : List RawI, ZPolyV w v l :=
 open_rows (by decide) (by kernel_rfl) (fun h => open_zp h) hT h hv
end
end Go.Proofs.YtfacbpnegkjcgaaGreatDoor
namespace Go.Hp
open Go.RowKit
def zOf (x : RawI) : Int := iv x.1 x.2
theorem RawZ.has {w : World} {v : Value} {x : RawI} (h : RawZ w v x) (hs : x.2.length ≤ 1099511627776) : HasZ w v (zOf x) ∧ sz (zOf x).natAbs ≤ x.2.length := by
 have h' := h
 obtain ⟨s, rfl, hd⟩ := h'
 refine ⟨⟨x.1, x.2, h, rfl, hs⟩, ?_⟩
 have := sz_dig hd
 unfold zOf; rw [iv_abs]; exact this
theorem ZPolyV.len {w : World} {v : Value} {l : List RawI} (h : ZPolyV w v l) : ∃ A c, v = .slice A l.length c ∧ l.length ≤ c ∧ c ≤ 9223372036854775807 := by
 obtain ⟨A, c, h1, h2, h3, h4⟩ := h; exact ⟨A, c, h1, h2, h3⟩
theorem ZPolyV.at_ {w : World} {A : Option Addr} {n c : Nat} {l : List RawI} (h : ZPolyV w (.slice A n c) l) {j : Nat} (hj : j < l.length) :
  ∃ g o A1 c, A = some ⟨g, o, none⟩ ∧ w.cell? ⟨g, o + j * 2, none⟩ = some (.bool l[j].1) ∧ w.cell? ⟨g, o + j * 2 + 1, none⟩ = some (.slice A1 l[j].2.length c) ∧ RawZ w (.agg #[.bool l[j].1, .slice A1 l[j].2.length c]) l[j] := by
 obtain ⟨A', c', e1, h2, h3, h4⟩ := h
 have e5 : A' = A := by injection e1 with h1; exact h1.symm
 subst e5
 obtain ⟨g, o, q1, q2, q3⟩ := h4 (by omega)
 obtain ⟨cs, r1, r2, r3⟩ := q3 j hj
 have hr := r3
 obtain ⟨s, e, A1, c1, e2, k⟩ := r3
 subst e2
 have e := agg2 e
 subst e
 exact ⟨g, o, A1, c1, q1, r2 0 (by omega), r2 1 (by omega), hr⟩
theorem ZPolyV.has {w : World} {v : Value} {l : List RawI} {d : Nat} (h : ZPolyV w v l) (hs : ∀ x ∈ l, x.2.length ≤ d) (hd : d ≤ 1099511627776 := by omega) : HzV 0 w v (l.map zOf) ∧ ∀ x ∈ l.map zOf, sz x.natAbs ≤ d := by
 obtain ⟨A, c, h1, h2, h3, h4⟩ := h
 have key : ∀ j (hj : j < l.length), ∃ cs : Array Value, cs.size = 2 ∧ RawZ w (.agg cs) l[j] := fun j hj => by
  obtain ⟨g, o, q1, q2, q3⟩ := h4 (by omega)
  obtain ⟨cs, r1, r2, r3⟩ := q3 j hj
  exact ⟨cs, r1, r3⟩
 refine ⟨⟨A, c, by simpa using h1, by simpa using h2, h3, fun h0 => ?_⟩, fun x hx => ?_⟩
 ·obtain ⟨g, o, q1, q2, q3⟩ := h4 (by simpa using h0)
  refine ⟨g, o, q1, q2, fun j hj => ?_⟩
  have hj' : j < l.length := by simpa using hj
  obtain ⟨cs, r1, r2, r3⟩ := q3 j hj'
  refine ⟨cs, r1, r2, ?_⟩
  rw [List.getElem_map]
  exact (r3.has (Nat.le_trans (hs _ (List.getElem_mem hj')) hd)).1
 ·obtain ⟨y, hy, rfl⟩ := List.mem_map.1 hx
  obtain ⟨j, hj, rfl⟩ := List.getElem_of_mem hy
  obtain ⟨cs, -, r3⟩ := key j hj
  have := hs _ (List.getElem_mem hj)
  exact Nat.le_trans (r3.has (by omega)).2 this
theorem ZPolyV.qsz {w : World} {v : Value} {l : List RawI} {d : Nat} (h : ZPolyV w v l) (hs : ∀ x ∈ l, x.2.length ≤ d) (hd : d ≤ 1099511627776 := by omega) (h1 : 1 ≤ d := by omega) (i : Nat) : qsz (cz (l.map zOf) i) ≤ d := cz_qsz (h.has hs hd).2 h1 i
end Go.Hp
namespace Go.Hp
open Go.RowKit
theorem lzf_succ (k : Nat) (F : Nat → Rat) : lzf (k + 1) F = lzf k F ++ [(F k).num] := by simp [lzf, List.range_succ]
theorem small_lenz {n : Nat} (h : n ≤ 1099511627776) : n + 1 ≤ maxLen := by simp only [maxLen]; omega
theorem lzf_cz (l : List Int) : lzf l.length (cz l) = l := by
 apply List.ext_getElem
 ·rw [lzf_len]
 ·intro i h1 h2; rw [lzf_get, cz_lt h2]; rfl
end Go.Hp
namespace Go.Proofs.YtfacbpnegkjcgaaGreatDoor
open Go.RowKit Go.Hp
theorem append_rz (W : World) (base ty g : Nat) (v : Value) (l : List Int) (q : Int) {b : Bool} {A : Option Addr} {n c : Nat} (h : OwnZ base 28 W v l) (hq : IsZ W (.agg #[.bool b, .slice A n c]) q) (hn : l.length ≤ 1099511627776) (hb : base ≤ W.heap.size) (hg : g = W.heap.size) :
  ∃ v' w', (Builtin.append_ #[22, 22] ty #[v, .slice (some ⟨g, 0, none⟩) 1 1]).run Tryz.prog (W.alloc (.cells #[.bool b, .slice A n c] 28)) = .ok v' w' ∧ (OwnZ base 28 w' v' (l ++ [q]) ∧ Upd (blk v) (W.alloc (.cells #[.bool b, .slice A n c] 28)) w') := by
 subst hg
 obtain ⟨g, cs, e1, h1, h2, h3, h4⟩ := NewZ.mk hq (base := W.heap.size) (Nat.le_refl _) 28
 cases e1
 obtain ⟨i0, hi, hz0, hz1, hz2⟩ := info_parts info_int
 have ho := IsZ.one h4
 have hx := (Ext.refl W).alloc (.cells #[.bool b, .slice A n c] 28)
 obtain ⟨v', w', a, b, c⟩ := OwnR.append (P := Tryz.prog) (h.ext hx) 22 ty i0 _ 32 Tryz.underlying22 hi hz0 hz1 hz2 rfl (by simp [nodig, isDig, Value.cells]) (by decide) ⟨W.heap.size, 0, none⟩ 1 cs h3 h4 h2.news ho.1 ho.2.1 (small_lenz hn) (by omega) (Nat.le_trans hb hx.size) (fun _ _ _ k hq => IsZ.kd hq k)
 exact ⟨v', w', a, b, c⟩
set_option maxHeartbeats 1000000 in
theorem normal_rz (v : Value) (l : List Int) (w : World) (hv : HzV 0 w v l) (hn : l.length ≤ 1099511627776) : Calls Tryz.prog 20 #[v] w (Gives w fun r w' => IsZP w.heap.size w' r (cz l)) := by
 have hqs := hv.sz
 obtain ⟨A, c, rfl, hl, hc, hA⟩ := hv
 have HA : Hid (HzAt 0 w A l) := Lib.hid hA; clear hA
 have HQ := Lib.hid hqs; clear hqs
 go_enter Tryz.func20, Tryz.ntmps20
 go_wp2
 go_loopw [3, 4] (fun ov iv wr => ∃ (k : Nat), k ≤ l.length ∧ iv = .int .i64 k ∧ OwnZ w.heap.size 28 wr ov (lzf k (cz l)) ∧ Ext w wr) (fun _ iv _ => l.length - (intOf iv).toNat)
 case atStart => exact ⟨0, Nat.zero_le _, rfl, OwnR.nil _ _ _ _ _, Ext.refl _⟩
 case round =>
  obtain ⟨k, hk, rfl, hown, hx⟩ := hrel
  by_cases hkl : k < l.length
  ·obtain ⟨g, o, b, A1, n, c1, rfl, _, q0, q1, hq⟩ := HA.out.at_ (j := k) hkl
   replace q0 := hx.cell q0
   replace q1 := hx.cell q1
   have Hq := Lib.hid (hq.kd hx.kd); clear hq
   go_wp2_with fail
   refine Calls.mono (norm_r _ _ _ Hq.out) ?_
   rintro e w2 ⟨r, rfl, hr, hx2⟩
   obtain ⟨b5, A5, n5, c5, rfl⟩ := hr.cells
   have Hr := Lib.hid hr; clear hr
   replace hown := hown.ext hx2
   replace hx := hx.trans hx2
   have Hown := Lib.hid hown; clear hown
   have hsz := hx.size
   clear hx2 q0 q1 Hq
   go_wp2_with (at_builtin; refine wpList_append_run rfl _ _ 22 rfl u3 (.slice (some ⟨w2.heap.size, 0, none⟩) 1 1) rfl rfl (append_rz w2 w.heap.size _ _ _ _ _ Hown.out Hr.out (by first | (rw [lzf_len]; omega) | omega) hsz rfl) ?_)
   first | intro v' w5 hown U | rintro v' w5 ⟨hown, U⟩
   replace hx := (Hown.out.ext ((Ext.refl w2).alloc _)).from_ U (hx.alloc _) (Nat.le_refl _)
   have Hown' := Lib.hid hown; clear hown U
   go_wp2
   go_roundw
   case rel => exact ⟨k + 1, by omega, by go_num, by rw [lzf_succ, cz_lt hkl]; exact Hown'.out, hx⟩
   case measure => simp [intOf] <;> omega
  ·obtain rfl : k = l.length := by omega
   rw [lzf_cz] at hown
   obtain ⟨A2, c2, rfl, h2, h3, h4⟩ := OwnZ.row hown
   have Hrow : Hid (ZsAt w.heap.size wr A2 l) := Lib.hid h4; clear h4 hown
   have hx0 := hx
   go_wp2
   clear hx
   go_loopw [5] (fun nv wx => ∃ m : Nat, m ≤ l.length ∧ nv = .int .i64 m ∧ (∀ j, m ≤ j → (h : j < l.length) → l[j] = 0) ∧ Ext wr wx) (fun nv _ => (intOf nv).toNat)
   case atStart => exact ⟨l.length, Nat.le_refl _, rfl, fun j h1 h2 => by omega, Ext.refl _⟩
   case round =>
    obtain ⟨m, hm, rfl, hz, hx⟩ := hrel
    have Hz := Lib.hid hz; clear hz
    by_cases h0 : 0 < m
    ·obtain ⟨m, rfl⟩ : ∃ k, m = k + 1 := ⟨m - 1, by omega⟩
     have hml : m < l.length := by omega
     have Hrow' : Hid (ZsAt w.heap.size _ A2 l) := Lib.hid Hrow.out
     obtain ⟨g, o, b, A1, n, c1, rfl, hb, q0, q1, hq⟩ := Hrow'.out.at_ (j := m) hml
     replace q0 := hx.cell q0
     replace q1 := hx.cell q1
     have Hq := Lib.hid ((hq.has (HQ.out _ (List.getElem_mem hml))).kd hx.kd); clear hq
     go_wp2_with fail
     refine Calls.mono (sign_r _ l[m] _ Hq.out) ?_
     rintro e w2 ⟨r, rfl, rfl, hx2⟩
     by_cases hd0 : l[m]'(by omega) = 0
     ·have hb : (l[m].sign == 0) = true := by rw [hd0]; rfl
      have Hd := Lib.hid hd0; clear hd0
      go_wp2
      go_roundw
      case rel => exact ⟨m, by omega, by go_num, fun j h1 h2 => by
       rcases Nat.eq_or_lt_of_le h1 with e | e
       ·subst e; exact Hd.out
       ·exact Hz.out j (by omega) h2, hx.trans hx2⟩
      case measure => simp [intOf] <;> omega
     ·have hb : (l[m].sign == 0) = false := by
       have : l[m].sign ≠ 0 := fun e => hd0 (Int.sign_eq_zero_iff_zero.1 e)
       simpa using this
      have Hd := Lib.hid hd0; clear hd0
      go_wp2
      go_ret
      have hlen := trimZ_take hm Hz.out (fun h _ => by simpa using Hd.out)
      have hR := (ZsV.trim (Hrow.out.ext (hx.trans hx2)) h2 h3)
      rw [hlen] at hR
      exact Gives.mk (IsZP.of_trim hR rfl) ((hx0.trans hx).trans hx2)
    ·obtain rfl : m = 0 := by omega
     have hlen := trimZ_take hm Hz.out (fun h hh => by omega)
     have hR := (ZsV.trim (Hrow.out.ext hx) h2 h3)
     rw [hlen] at hR
     have HR := Lib.hid (And.intro hR hlen); clear hR hlen
     go_wp2
     go_ret
     exact Gives.mk (IsZP.of_trim HR.out.1 rfl) (hx0.trans hx)
theorem degree_rz (v : Value) (l : List Int) (w : World) (hv : HzV 0 w v l) (hn : l.length ≤ 1099511627776) : Calls Tryz.prog 25 #[v] w (Gives w fun r _ => r = .int .i64 ((pl (cz l) : Int) - 1)) := by
 have HV := Lib.hid hv
 obtain ⟨A, c, rfl⟩ := hv.len
 clear hv
 have hpl : pl (cz l) ≤ l.length := pl_le (cz_sup l)
 go_enter Tryz.func25, Tryz.ntmps25
 go_wp2_with fail
 refine Calls.mono (normal_rz _ l _ HV.out hn) ?_
 rintro e w1 ⟨r, rfl, hr, hx1⟩
 obtain ⟨A2, c2, rfl, -⟩ := hr.shape
 clear hr
 go_wp2
 go_ret
 exact Gives.mk rfl hx1
theorem at_rz (v : Value) (l : List Int) (k : Nat) (w : World) (hv : HzV 0 w v l) (hk : k ≤ 9223372036854775807) : Calls Tryz.prog 88 #[v, .int .i64 (k : Nat)] w (Gives w fun r w' => IsZ w' r (cz l k).num) := by
 obtain ⟨A, c, rfl, hl, hc, hA⟩ := hv
 by_cases hkl : k < l.length
 ·obtain ⟨g, o, b, A1, n, c1, rfl, _, q0, q1, hq⟩ := HzAt.at_ hA (j := k) hkl
  rw [cz_lt hkl]
  have Hq := Lib.hid hq; clear hq hA
  have hkc : (k : Int) < l.length := by omega
  replace q0 := ((Ext.refl w).alloc (.cells #[.bool false, .slice none 0 0] 28)).cell q0
  replace q1 := ((Ext.refl w).alloc (.cells #[.bool false, .slice none 0 0] 28)).cell q1
  go_enter Tryz.func88, Tryz.ntmps88
  go_wp2_with fail
  refine Calls.mono (norm_r _ _ _ (Hq.out.kd ((Ext.refl w).alloc _).kd)) ?_
  rintro e w1 ⟨r, rfl, hr, hx1⟩
  clear q0 q1
  obtain ⟨b5, A5, n5, c5, rfl⟩ := hr.cells
  have hc1 := hx1.cells
  have hf1 := hx1.frozens
  have Hfin := Lib.hid (fin_z hr hx1.a1 (NoDig.at_ hx1 (g := w.heap.size + 0) (by simp) (by simp [isDig])) (by omega))
  clear hr
  go_wp2
  refine bodyPost_ret (v := .agg #[.bool b5, .slice A5 n5 c5]) (by simp [results, Tryz.results88, go_sem, hc1]) rfl ?_
  exact Hfin.out
 ·have hz : (cz l k).num = 0 := by rw [cz_ge (by omega)]; rfl
  have hkc : ¬ (k : Int) < l.length := by omega
  have Hz := Lib.hid hz; clear hz hA
  rw [Hz.out]
  go_enter Tryz.func88, Tryz.ntmps88
  go_wp2_with fail
  refine Calls.mono (of_r 0 _ (by omega) (by omega)) ?_
  rintro e w1 ⟨r, rfl, hr, hx1⟩
  obtain ⟨b5, A5, n5, c5, rfl⟩ := hr.cells
  have hc1 := hx1.cells
  have hf1 := hx1.frozens
  have Hfin := Lib.hid (fin_z hr hx1.a1 (NoDig.at_ hx1 (g := w.heap.size + 0) (by simp) (by simp [isDig])) (by omega))
  clear hr
  go_wp2
  refine bodyPost_ret (v := .agg #[.bool b5, .slice A5 n5 c5]) (by simp [results, Tryz.results88, go_sem, hc1]) rfl ?_
  exact Hfin.out
theorem at_negz (v : Value) (l : List Int) (w : World) (hv : HzV 0 w v l) : Calls Tryz.prog 88 #[v, .int .i64 (-1)] w (Gives w fun r w' => IsZ w' r 0) := by
 obtain ⟨A, c, rfl, hl, hc, hA⟩ := hv
 clear hA
 go_enter Tryz.func88, Tryz.ntmps88
 go_wp2_with fail
 refine Calls.mono (of_r 0 _ (by omega) (by omega)) ?_
 rintro e w1 ⟨r, rfl, hr, hx1⟩
 obtain ⟨b5, A5, n5, c5, rfl⟩ := hr.cells
 have hc1 := hx1.cells
 have hf1 := hx1.frozens
 have Hfin := Lib.hid (fin_z hr hx1.a1 (NoDig.at_ hx1 (g := w.heap.size + 0) (by simp) (by simp [isDig])) (by omega))
 clear hr
 go_wp2
 refine bodyPost_ret (v := .agg #[.bool b5, .slice A5 n5 c5]) (by simp [results, Tryz.results88, go_sem, hc1]) rfl ?_
 exact Hfin.out
theorem lead_rz (v : Value) (l : List Int) (w : World) (hv : HzV 0 w v l) (hn : l.length ≤ 1099511627776) : Calls Tryz.prog 65 #[v] w (Gives w fun r w' => IsZ w' r (ld (cz l)).num) := by
 have HV := Lib.hid hv
 obtain ⟨A, c, rfl⟩ := hv.len
 clear hv
 have hpl : pl (cz l) ≤ l.length := pl_le (cz_sup l)
 obtain ⟨X, hX⟩ : ∃ X, X = (ld (cz l)).num := ⟨_, rfl⟩
 rw [← hX]
 have HX := Lib.hid hX; clear hX
 go_enter Tryz.func65, Tryz.ntmps65
 go_wp2_with fail
 refine Calls.mono (degree_rz _ l _ (HV.out.ext ((Ext.refl w).alloc _)) hn) ?_
 rintro e w1 ⟨r, rfl, rfl, hx⟩
 by_cases h0 : 0 < pl (cz l)
 ·obtain ⟨k, hk⟩ : ∃ k : Nat, k = pl (cz l) - 1 := ⟨_, rfl⟩
  have e1 : (pl (cz l) : Int) - 1 = (k : Nat) := by omega
  have hl : X = (cz l k).num := by rw [HX.out]; unfold ld; rw [hk]
  have HL := Lib.hid hl
  rw [e1]
  have hk9 : k ≤ 9223372036854775807 := by omega
  clear e1 hl hk
  go_wp2_with fail
  refine Calls.mono (at_rz _ l k _ (HV.out.ext hx.a1) hk9) ?_
  rintro e w2 ⟨r, rfl, hr, hx2⟩
  rw [← HL.out] at hr
  have hx1 := hx.trans hx2
  clear hx hx2
  obtain ⟨b5, A5, n5, c5, rfl⟩ := hr.cells
  have hc1 := hx1.cells
  have hf1 := hx1.frozens
  have Hfin := Lib.hid (fin_z hr hx1.a1 (NoDig.at_ hx1 (g := w.heap.size + 0) (by simp) (by simp [isDig])) (by omega))
  clear hr
  go_wp2
  refine bodyPost_ret (v := .agg #[.bool b5, .slice A5 n5 c5]) (by simp [results, Tryz.results65, go_sem, hc1]) rfl ?_
  exact Hfin.out
 ·have e1 : (pl (cz l) : Int) - 1 = -1 := by omega
  have hl : X = 0 := by rw [HX.out]; unfold ld; rw [show pl (cz l) - 1 = 0 from by omega, (pl_zero (Fin_.cz l)).1 (by omega)]; rfl
  have HL := Lib.hid hl
  rw [e1]
  clear e1 hl
  go_wp2_with fail
  refine Calls.mono (at_negz _ l _ (HV.out.ext hx.a1)) ?_
  rintro e w2 ⟨r, rfl, hr, hx2⟩
  rw [← HL.out] at hr
  have hx1 := hx.trans hx2
  clear hx hx2
  obtain ⟨b5, A5, n5, c5, rfl⟩ := hr.cells
  have hc1 := hx1.cells
  have hf1 := hx1.frozens
  have Hfin := Lib.hid (fin_z hr hx1.a1 (NoDig.at_ hx1 (g := w.heap.size + 0) (by simp) (by simp [isDig])) (by omega))
  clear hr
  go_wp2
  refine bodyPost_ret (v := .agg #[.bool b5, .slice A5 n5 c5]) (by simp [results, Tryz.results65, go_sem, hc1]) rfl ?_
  exact Hfin.out
end Go.Proofs.YtfacbpnegkjcgaaGreatDoor
namespace Go.Hp
open Go.RowKit
def ListsZ (w : World) (g : Nat) (vs : List (Value × List RawI)) : Prop := ∀ j (h : j < vs.length), w.cell? ⟨g, j, none⟩ = some vs[j].1 ∧ ZPolyV w vs[j].1 vs[j].2
def LongZ (most d : Nat) (vs : List (Value × List RawI)) (w : World) (e : Ending) (w' : World) : Prop := w = w' ∧ ∃ b : Bool, e = .returned (.bool b) ∧ (b = false → ∀ p ∈ vs, p.2.length ≤ most ∧ ∀ x ∈ p.2, x.2.length ≤ d)
def FineZ (most d : Nat) (l : List RawI) : Prop := l.length ≤ most ∧ ∀ x ∈ l, x.2.length ≤ d
theorem listsZ_one (w : World) (t : TypeId) {v : Value} {l : List RawI} (h : ZPolyV w v l) {g : Nat} (hg : g = w.heap.size) : ListsZ (w.alloc (.cells #[v] t)) g [(v, l)] := by
 subst hg
 intro j hj
 obtain rfl : j = 0 := by simpa using hj
 exact ⟨by rw [cell_of_row _ w.heap.size 0 _ t (0, 0) (heap_alloc_new w _)]; rfl, h.ext ((Ext.refl w).alloc _)⟩
end Go.Hp
namespace Go.Proofs.YtfacbpnegkjcgaaGreatDoor
open Go.RowKit Go.Hp
set_option maxRecDepth 20000 in
set_option maxHeartbeats 1000000 in
theorem zs_b (v : Value) (ns : List Int) (w : World) (hv : IntsV w v ns) (hn : ns.length ≤ 1000) (hs : ∀ n ∈ ns, -4294967296 < n ∧ n < 4294967296) : Calls Tryz.prog 59 #[v] w (Gives w fun r w' => ZsV w.heap.size w' r ns) := by
 obtain ⟨g, c, rfl, h1, h2, h3⟩ := hv
 have H3 := Lib.hid (And.intro h3 hs); clear h3 hs
 go_enter Tryz.func59, Tryz.ntmps59
 go_wp2
 go_loopw [3, 4] (fun ov iv wr => ∃ (k : Nat), k ≤ ns.length ∧ iv = .int .i64 k ∧ OwnZ w.heap.size 28 wr ov (ns.take k) ∧ Ext w wr) (fun _ iv _ => ns.length - (intOf iv).toNat)
 case atStart => exact ⟨0, Nat.zero_le _, rfl, OwnR.nil _ _ _ _ _, Ext.refl _⟩
 case round =>
  obtain ⟨k, hk, rfl, hown, hx⟩ := hrel
  have Hown0 := Lib.hid hown; clear hown
  by_cases hkl : k < ns.length
  ·have q0 := hx.cell (H3.out.1 k hkl)
   obtain ⟨m, hm⟩ : ∃ m, m = ns[k] := ⟨_, rfl⟩
   rw [← hm] at q0
   have hb := H3.out.2 ns[k] (List.getElem_mem hkl)
   rw [← hm] at hb
   have Hm := Lib.hid hm; clear hm
   go_wp2_with fail
   refine Calls.mono (z_b m _ hb.1 hb.2) ?_
   rintro e w2 ⟨r, rfl, hr, hx2⟩
   obtain ⟨b5, A5, n5, c5, rfl⟩ := hr.cells
   have Hr := Lib.hid hr; clear hr
   have hown := Hown0.out.ext hx2
   have Hown := Lib.hid hown; clear hown
   replace hx := hx.trans hx2
   have hsz := hx.size
   have hlk : (ns.take k).length ≤ 1000 := Nat.le_trans (List.length_take_le _ _) (by omega)
   clear hx2 q0 Hown0
   go_wp2_with (at_builtin; refine wpList_append_run rfl _ _ 22 rfl u3 (.slice (some ⟨w2.heap.size, 0, none⟩) 1 1) rfl rfl (append_rz w2 w.heap.size _ _ _ _ _ Hown.out Hr.out (by first | (rw [lzf_len]; omega) | omega) hsz rfl) ?_)
   first | intro v' w5 hown U | rintro v' w5 ⟨hown, U⟩
   replace hx := (Hown.out.ext ((Ext.refl w2).alloc _)).from_ U (hx.alloc _) (Nat.le_refl _)
   have Hown' := Lib.hid hown; clear hown U
   go_wp2
   go_roundw
   case rel => exact ⟨k + 1, by omega, by go_num, by
    rw [List.take_succ_eq_append_getElem hkl, ← Hm.out]; exact Hown'.out, hx⟩
   case measure => simp [intOf] <;> omega
  ·obtain rfl : k = ns.length := by omega
   have hq := OwnZ.row Hown0.out
   rw [List.take_of_length_le (Nat.le_refl _)] at hq
   have Hq := Lib.hid hq; clear hq Hown0
   go_wp2
   go_ret
   exact Gives.mk Hq.out hx
set_option maxHeartbeats 2000000 in
theorem zlong_b (most d : Nat) (g c : Nat) (vs : List (Value × List RawI)) (w : World) (hm : most ≤ 1000) (hd : d ≤ 1000) (hn : vs.length ≤ 1000) (hc : vs.length ≤ c) (hv : ListsZ w g vs) :
  Calls Tryz.prog 12 #[.int .i64 (most : Nat), .int .i64 (d : Nat), .slice (some ⟨g, 0, none⟩) vs.length c] w (LongZ most d vs w) := by
 have HV := Lib.hid hv; clear hv
 go_enter Tryz.func12, Tryz.ntmps12
 go_wp2
 go_loop [7] (fun iv => ∃ i : Nat, i ≤ vs.length ∧ iv = .int .i64 i ∧ ∀ j (h : j < vs.length), j < i → FineZ most d vs[j].2) (fun iv => vs.length - (intOf iv).toNat)
 case atStart => exact ⟨0, Nat.zero_le _, rfl, fun j h h' => by omega⟩
 case round =>
  obtain ⟨i, hi, rfl, hst⟩ := hrel
  have Hst := Lib.hid hst; clear hst
  by_cases hil : i < vs.length
  ·obtain ⟨q, hp⟩ := HV.out i hil
   obtain ⟨A1, c1, e1, hl1, hl2⟩ := hp.len
   rw [e1] at q hp
   obtain ⟨l, hl⟩ : ∃ l, l = vs[i].2 := ⟨_, rfl⟩
   rw [← hl] at q hp hl1
   have Hl := Lib.hid (And.intro hl hp); clear hl hp e1
   by_cases hlong : most < l.length
   ·skip
    go_wp2
    go_ret
    exact ⟨rfl, true, rfl, fun h => by cases h⟩
   ·go_wp2
    go_loop [8] (fun kv => ∃ k : Nat, k ≤ l.length ∧ kv = .int .i64 k ∧ ∀ j (h : j < l.length), j < k → l[j].2.length ≤ d) (fun kv => l.length - (intOf kv).toNat)
    case atStart => exact ⟨0, Nat.zero_le _, rfl, fun j h h' => by omega⟩
    case round =>
     obtain ⟨k, hk, rfl, hsm⟩ := hrel
     have Hsm := Lib.hid hsm; clear hsm
     by_cases hkl : k < l.length
     ·obtain ⟨g', o', B1, d1, rfl, r0, r1, -⟩ := Hl.out.2.at_ hkl
      obtain ⟨n, hn1⟩ : ∃ n, n = l[k].2.length := ⟨_, rfl⟩
      rw [← hn1] at r1
      have He := Lib.hid hn1; clear hn1
      by_cases hx1 : d < n
      ·skip
       go_wp2
       go_ret
       exact ⟨rfl, true, rfl, fun h => by cases h⟩
      ·go_wp2
       go_round
       case rel => exact ⟨k + 1, by omega, by go_num, fun j h1 h2 => by
        rcases Nat.lt_or_ge j k with h | h
        ·exact Hsm.out j h1 h
        ·obtain rfl : j = k := by omega
         have := He.out
         omega⟩
       case measure => simp [intOf] <;> omega
     ·obtain rfl : k = l.length := by omega
      go_wp2
      go_round
      case rel => exact ⟨i + 1, by omega, by go_num, fun j h1 h2 => by
       rcases Nat.lt_or_ge j i with h | h
       ·exact Hst.out j h1 h
       ·obtain rfl : j = i := by omega
        rw [← Hl.out.1]
        exact ⟨by omega, fun x hx => by
         obtain ⟨j, hj, rfl⟩ := List.getElem_of_mem hx
         exact Hsm.out j hj hj⟩⟩
      case measure => simp [intOf] <;> omega
  ·obtain rfl : i = vs.length := by omega
   go_wp2
   go_ret
   exact ⟨rfl, false, rfl, fun _ p hp => by
    obtain ⟨j, hj, rfl⟩ := List.getElem_of_mem hp
    exact Hst.out j hj hj⟩
end Go.Proofs.YtfacbpnegkjcgaaGreatDoor
namespace Go.Proofs.YtfacbpnegkjcgaaGreatDoor
open Go.RowKit Go.Hp
set_option maxHeartbeats 1000000 in
theorem sameints_d (v u : Value) (l m : List Int) (b1 b2 : Nat) (w : World) (hv : ZsV b1 w v l) (hu : ZsV b2 w u m) (hn : l.length ≤ 1099511627776) : Calls Tryz.prog 17 #[v, u] w (Gives w fun r _ => r = .bool (decide (l = m))) := by
 have HV := Lib.hid hv; have HU := Lib.hid hu
 obtain ⟨A, c, rfl⟩ := RowV.len hv
 obtain ⟨E, d, rfl⟩ := RowV.len hu
 clear hv hu
 obtain ⟨D, hD⟩ : ∃ D, D = decide (l = m) := ⟨_, rfl⟩
 rw [← hD]
 have HD := Lib.hid hD; clear hD
 by_cases hlen : l.length = m.length
 ·have hb : ((l.length : Int) != (m.length : Int)) = false := by simp [hlen]
  have Hlen := Lib.hid hlen; clear hlen
  go_enter Tryz.func17, Tryz.ntmps17
  go_wp2
  go_loopw [5] (fun iv wr => ∃ (k : Nat), k ≤ l.length ∧ iv = .int .i64 k ∧ (∀ j (h : j < l.length) (h' : j < m.length), j < k → l[j] = m[j]) ∧ Ext w wr) (fun iv _ => l.length - (intOf iv).toNat)
  case atStart => exact ⟨0, Nat.zero_le _, rfl, fun j h h' h0 => by omega, Ext.refl _⟩
  case round =>
   obtain ⟨k, hk, rfl, heq, hx⟩ := hrel
   have Heq := Lib.hid heq; clear heq
   by_cases hkl : k < l.length
   ·have hkm : k < m.length := by have := Hlen.out; omega
    obtain ⟨g, o, b, A1, n, c1, rfl, _, q0, q1, hq⟩ := HV.out.at_ (j := k) hkl
    obtain ⟨g', o', bb, B1, m1, d1, rfl, _, r0, r1, hq'⟩ := HU.out.at_ (j := k) hkm
    replace q0 := hx.cell q0
    replace q1 := hx.cell q1
    replace r0 := hx.cell r0
    replace r1 := hx.cell r1
    have Hq := Lib.hid (And.intro (hq.kd hx.kd) (hq'.kd hx.kd)); clear hq hq'
    go_wp2_with fail
    refine wp_region_par (k := 8) (D := [17, 18, 19, 20, 21, 22, 23, 24]) (T := [[], [], [0, 1], [0, 1, 2], [], [], [4, 5], [4, 5, 6], [0, 1, 2, 3, 4, 5, 6, 7], [0, 1, 2, 3, 4, 5, 6, 7, 8]]) (EK := [0, 5, 1]) (EV := [?e1x0, ?e1x1, ?e1x2]) (VL := [(kv ?v1x0), (kv ?v1x1), (kv ?v1x2), (kv ?v1x3), (kv ?v1x4), (kv ?v1x5), (kv ?v1x6), (kv ?v1x7)]) (FL := fun γ w' => [True, True, True, True, True, True, True, True]) ?hE1 (by kernel_rfl) (by kernel_rfl) (by rfl) (by kernel_rfl) ?hloc1 ?hmono1 ?hstep1 ?htail1
    case hE1 => refine ⟨?_, ?_, ?_, trivial⟩ <;> (simp only [List.getElem?_toArray, List.getElem?_cons_succ, List.getElem?_cons_zero]; rfl)
    case hstep1 =>
     refine ⟨⟨⟨⟨⟨⟨⟨⟨trivial, ?_⟩, ?_⟩, ?_⟩, ?_⟩, ?_⟩, ?_⟩, ?_⟩, ?_⟩
     iterate 8 focus
      intro γ w' he hf; clear hf; refine ⟨by trivial, ?_⟩; intro R hR; have hc := he.cells
      have cq0 := he.cell q0
      have cq1 := he.cell q1
      have cq2 := he.cell r0
      have cq3 := he.cell r1
      go_simp; (try go_ints); (try (rw [if_neg (by omega)])); (try (rw [if_pos (by omega)])); (try go_simp); (try go_ints)
      refine hR _ _ (Ext.refl _) ?_ trivial; rfl
    case hloc1 =>
     exact ⟨⟨⟨⟨⟨⟨⟨⟨trivial, (fun γ γ' h => ⟨rfl, fun _ => rfl⟩)⟩, (fun γ γ' h => ⟨rfl, fun _ => rfl⟩)⟩, (fun γ γ' h => ⟨rfl, fun _ => rfl⟩)⟩, (fun γ γ' h => ⟨rfl, fun _ => rfl⟩)⟩, (fun γ γ' h => ⟨rfl, fun _ => rfl⟩)⟩, (fun γ γ' h => ⟨rfl, fun _ => rfl⟩)⟩, (fun γ γ' h => ⟨rfl, fun _ => rfl⟩)⟩, (fun γ γ' h => ⟨rfl, fun _ => rfl⟩)⟩
    case hmono1 =>
     exact ⟨⟨⟨⟨⟨⟨⟨⟨trivial, (fun γ wA w' e h => h)⟩, (fun γ wA w' e h => h)⟩, (fun γ wA w' e h => h)⟩, (fun γ wA w' e h => h)⟩, (fun γ wA w' e h => h)⟩, (fun γ wA w' e h => h)⟩, (fun γ wA w' e h => h)⟩, (fun γ wA w' e h => h)⟩
    intro γ w1 hx1 hF
    clear hF
    simp only [fillAll, gV, kv, List.getD_cons_zero, List.getD_cons_succ, Act.put, List.setIfInBounds_toArray, List.set_cons_zero, List.set_cons_succ, List.toList_toArray, List.drop_succ_cons, List.drop_zero, List.drop_nil, Nat.zero_add, Nat.reduceAdd]
    clear γ
    go_wp2_with fail
    refine Calls.mono (sameint_b _ _ l[k] m[k] _ (Hq.out.1.kd hx1.kd) (Hq.out.2.kd hx1.kd)) ?_
    rintro e w2 ⟨r, rfl, rfl, hx2⟩
    replace hx := (hx.trans hx1).trans hx2
    clear q0 q1 r0 r1 hx1 hx2 Hq
    by_cases he : l[k] = m[k]
    ·have hb2 : decide (l[k] = m[k]) = true := decide_eq_true he
     have He := Lib.hid he; clear he
     go_wp2
     go_roundw
     case rel => exact ⟨k + 1, by omega, by go_num, fun j h h' h0 => by
      rcases Nat.lt_or_ge j k with h1 | h1
      ·exact Heq.out j h h' h1
      ·obtain rfl : j = k := by omega
       exact He.out, hx⟩
     case measure => simp [intOf] <;> omega
    ·have hb2 : decide (l[k] = m[k]) = false := decide_eq_false he
     have He := Lib.hid he; clear he
     have hd : D = false := by
      rw [HD.out]
      refine decide_eq_false fun e => He.out ?_
      subst e; rfl
     have HD' := Lib.hid hd; clear hd
     go_wp2
     go_ret
     rw [HD'.out]
     exact Gives.mk rfl hx
   ·obtain rfl : k = l.length := by omega
    have hd : D = true := by
     rw [HD.out]
     refine decide_eq_true (List.ext_getElem Hlen.out fun i h h' => Heq.out i h h' h)
    have HD' := Lib.hid hd; clear HV HU hd
    go_wp2
    go_ret
    rw [HD'.out]
    exact Gives.mk rfl hx
 ·have hb : ((l.length : Int) != (m.length : Int)) = true := by simp; omega
  have hd : D = false := by rw [HD.out]; exact decide_eq_false fun e => hlen (by rw [e])
  have HD' := Lib.hid hd; clear HV HU hd hlen
  go_enter Tryz.func17, Tryz.ntmps17
  go_wp2
  go_ret
  rw [HD'.out]
  exact Gives.mk rfl (Ext.refl _)
theorem sameints_p (v u : Value) (F G : Nat → Rat) (b1 b2 : Nat) (w : World) (hv : IsZP b1 w v F) (hu : IsZP b2 w u G) (hn : pl F ≤ 1099511627776) : Calls Tryz.prog 17 #[v, u] w (Gives w fun r _ => ∃ b : Bool, r = .bool b ∧ (b = true ↔ F = G)) := by
 obtain ⟨l, h1, h2, h3, rfl⟩ := hv.zs
 obtain ⟨m, k1, k2, k3, rfl⟩ := hu.zs
 refine Gives.imp (sameints_d v u l m b1 b2 w h1 k1 (by omega)) fun r _ h => ⟨_, h, ?_⟩
 rw [decide_eq_true_iff]
 exact ⟨fun e => by rw [e], fun e => zs_uniq h3 k3 e⟩
theorem sameints_t (v u : Value) (F : Nat → Rat) (b1 b2 : Nat) (w : World) (hv : IsZP b1 w v F) (hu : IsZP b2 w u F) (hn : pl F ≤ 1099511627776) : Calls Tryz.prog 17 #[v, u] w (Gives w fun r _ => r = .bool true) :=
 Gives.imp (sameints_p v u F F b1 b2 w hv hu hn) fun r _ ⟨b, h1, h2⟩ => by rw [h1, h2.2 rfl]
end Go.Proofs.YtfacbpnegkjcgaaGreatDoor
namespace Go.Hp
open Go.RowKit
theorem IntsV.ext {w w' : World} {v : Value} {ns : List Int} (h : IntsV w v ns) (e : Ext w w') : IntsV w' v ns := by
 obtain ⟨g, c, h1, h2, h3, h4⟩ := h
 exact ⟨g, c, h1, h2, h3, fun j hj => e.cell (h4 j hj)⟩
theorem aw_res : (res (cz [1, 0, 1]) (cz [-2, 1])).num = 5 := by
 have h1 : pl (cz [1, 0, 1]) = 3 := pl_eq (cz_sup [1, 0, 1]) (fun _ => by decide +kernel)
 have h2 : pl (cz [-2, 1]) = 2 := pl_eq (cz_sup [-2, 1]) (fun _ => by decide +kernel)
 unfold res
 rw [h1, h2]
 decide +kernel
theorem aw_mul : pl (cv (cz [1, 1]) (cz [1, 1])) = 3 := by
 have h : pl (cz [1, 1]) = 2 := pl_eq (cz_sup [1, 1]) (fun _ => by decide +kernel)
 have h0 : cz [1, 1] ≠ pz := fun e => by rw [e, pl_pz] at h; omega
 rw [pl_cv (Fin_.cz _) (Fin_.cz _) h0 h0, h]
def Sl3 (v : Value) : Prop := ∃ A c, v = .slice A 3 c
theorem small_cz {l : List Int} (h : ∀ x ∈ l, sz x.natAbs ≤ 1) (i : Nat) : qsz (cz l i) ≤ 1 := cz_qsz h (by omega) i
end Go.Hp
namespace Go.Proofs.YtfacbpnegkjcgaaGreatDoor
open Go.RowKit Go.Hp
theorem sameint_t (v u : Value) (x : Int) (w : World) (hv : IsZ w v x) (hu : IsZ w u x) : Calls Tryz.prog 15 #[v, u] w (Gives w fun r _ => r = .bool true) :=
 Gives.imp (sameint_b v u x x w hv hu) fun r _ h => by rw [h]; simp
set_option maxRecDepth 20000 in
set_option maxHeartbeats 4000000 in
theorem awake_z (w : World) : Calls Tryz.prog 11 #[] w (Gives w fun r _ => r = .bool true) := by
 have K1 := Lib.hid (show ∀ x ∈ ([1, 0, 1] : List Int), sz x.natAbs ≤ 1 by decide +kernel)
 have K2 := Lib.hid (show ∀ x ∈ ([-2, 1] : List Int), sz x.natAbs ≤ 1 by decide +kernel)
 have K3 := Lib.hid (show ∀ x ∈ ([1, 1] : List Int), sz x.natAbs ≤ 1 by decide +kernel)
 go_enter Tryz.func11, Tryz.ntmps11
 go_wp2_with fail
 refine Calls.mono (zs_b _ [1, 0, 1] _ (IntsV.new w _ [1, 0, 1] (by decide)) (by decide) (by decide)) ?_
 rintro e w1 ⟨r1, rfl, h1, hx⟩
 have H1 := Lib.hid (h1.has (fun x hx => by have := K1.out x hx; omega)); clear h1
 replace hx := hx.a1
 go_wp2_with fail
 refine Calls.mono (zs_b _ [-2, 1] _ (IntsV.new w1 _ [-2, 1] (by decide)) (by decide) (by decide)) ?_
 rintro e w2 ⟨r2, rfl, h2, hx2⟩
 have H2 := Lib.hid (h2.has (fun x hx => by have := K2.out x hx; omega)); clear h2
 have H1 := Lib.hid (H1.out.ext hx2.a1)
 replace hx := hx.trans hx2.a1
 clear hx2
 have hpl1 : pl (cz [1, 0, 1]) ≤ 3 := pl_le (cz_sup [1, 0, 1])
 have hpl2 : pl (cz [-2, 1]) ≤ 2 := pl_le (cz_sup [-2, 1])
 have HB := Lib.hid (show 8 + 8 * ((pl (cz [1, 0, 1]) + pl (cz [-2, 1]) + 1) * ((pl (cz [1, 0, 1]) + pl (cz [-2, 1]) + 1) * ((1 + 1) * 2 ^ (pl (cz [1, 0, 1]) + pl (cz [-2, 1]))))) ≤ 1099511627776 from by
  have a1 : 2 ^ (pl (cz [1, 0, 1]) + pl (cz [-2, 1])) ≤ 2 ^ 5 := Nat.pow_le_pow_right (by decide) (by omega)
  have a2 : (pl (cz [1, 0, 1]) + pl (cz [-2, 1]) + 1) * ((pl (cz [1, 0, 1]) + pl (cz [-2, 1]) + 1) * ((1 + 1) * 2 ^ (pl (cz [1, 0, 1]) + pl (cz [-2, 1])))) ≤ 6 * (6 * ((1 + 1) * 2 ^ 5)) := Nat.mul_le_mul (by omega) (Nat.mul_le_mul (by omega) (Nat.mul_le_mul_left _ a1))
  omega)
 clear hpl1 hpl2
 go_wp2_with fail
 refine Calls.mono (resultant_z _ _ [1, 0, 1] [-2, 1] 1 _ H1.out H2.out (small_cz K1.out) (small_cz K2.out) (by decide) (by decide) HB.out) ?_
 rintro e w3 ⟨r3, rfl, h3, hx3⟩
 rw [aw_res] at h3
 obtain ⟨b5, A5, n5, c5, rfl⟩ := h3.cells
 obtain ⟨W9, eW9, e9, x9⟩ := Box.made w3 28 #[.bool b5, .slice A5 n5 c5] (by simp [isDig])
 replace hx := (hx.trans hx3).trans x9
 have H3 := Lib.hid (h3.kd x9.kd)
 clear hx3 h3 H1 H2 HB
 go_upto_region 2 with (fail)
 rw [← eW9]
 clear eW9 x9
 generalize w3.heap.size = gb at *
 obtain ⟨q0, q1⟩ := e9.cells2
 go_wp2_with fail
 refine wp_region_par (k := 18) (D := [7, 8, 9, 10, 11, 12, 13, 14, 15, 16, 17, 18, 19, 20, 21, 22, 23, 24]) (T := [[], [], [0, 1], [0, 1, 2], [0, 1, 2, 3], [0, 1, 2, 3, 4], [0, 1, 2, 3, 4, 5], [0, 1, 2, 3, 4, 5, 6], [0, 1, 2, 3, 4, 5, 6, 7], [0, 1, 2, 3, 4, 5, 6, 7, 8], [0, 1, 2, 3, 4, 5, 6, 7, 8, 9], [0, 1, 2, 3, 4, 5, 6, 7, 8, 9, 10], [0, 1, 2, 3, 4, 5, 6, 7, 8, 9], [0, 1, 2, 3, 4, 5, 6, 7, 8, 9, 10, 11, 12], [0, 1, 2, 3, 4, 5, 6, 7, 8, 9, 10, 11, 12, 13], [0, 1, 2, 3, 4, 5, 6, 7, 8, 9, 10, 11, 12, 13, 14], [0, 1, 2, 3, 4, 5, 6, 7, 8, 9, 10, 11, 12, 13, 14, 15], [0, 1, 2, 3, 4, 5, 6, 7, 8, 9, 10, 11, 12, 13, 14, 15, 16], [0, 1, 2, 3, 4, 5, 6, 7, 8, 9, 10, 11, 12, 13, 14, 15, 16, 17]]) (EK := [1]) (EV := [?e1x0]) (VL := [(kv ?v1x0), (fun γ => γ 1), (kv (.bool true)), (kv ?v1x3), (fun γ => γ 4), (fun γ => γ 5), (kv (.string ⟨#[51, 42, 120, 94, 50, 32, 45, 32, 120, 32, 43, 32, 53]⟩)), (kv ?v1x7), (kv ?v1x8), (kv ?v1x9), (fun γ => γ 10), (fun γ => γ 11), (fun γ => γ 12), (fun γ => γ 13), (fun γ => γ 14), (kv (.int .i64 3)), (kv ?v1x16), (kv ?v1x17)]) (FL := fun γ w' => [True, IsZ w' (γ 1) 5, True, True, IntsV w' (γ 4) [5, -1, 3], ZsV 0 w' (γ 5) [5, -1, 3], True, True, True, True, IntsV w' (γ 10) [1, 1], ZsV 0 w' (γ 11) [1, 1], IntsV w' (γ 12) [1, 1], ZsV 0 w' (γ 13) [1, 1], Sl3 (γ 14), True, True, True]) ?hE1 (by kernel_rfl) (by kernel_rfl) (by rfl) (by kernel_rfl) ?hloc1 ?hmono1 ?hstep1 ?htail1
 case hE1 => refine ⟨?_, trivial⟩ <;> (simp only [List.getElem?_toArray, List.getElem?_cons_succ, List.getElem?_cons_zero]; rfl)
 case hstep1 =>
  refine ⟨⟨⟨⟨⟨⟨⟨⟨⟨⟨⟨⟨⟨⟨⟨⟨⟨⟨trivial, ?_⟩, ?_⟩, ?_⟩, ?_⟩, ?_⟩, ?_⟩, ?_⟩, ?_⟩, ?_⟩, ?_⟩, ?_⟩, ?_⟩, ?_⟩, ?_⟩, ?_⟩, ?_⟩, ?_⟩, ?_⟩
  iterate 1 focus
   intro γ w' he hf; clear hf; refine ⟨by trivial, ?_⟩; intro R hR; have hc := he.cells
   have cq0 := he.cell q0
   have cq1 := he.cell q1
   go_simp; (try go_ints); (try (rw [if_neg (by omega)])); (try (rw [if_pos (by omega)])); (try go_simp); (try go_ints)
   refine hR _ _ (Ext.refl _) ?_ trivial; rfl
  ·intro γ w' he hf; clear hf; refine ⟨trivial, ?_⟩; intro R hR
   go_simp
   refine Calls.mono (show Calls _ _ _ w' (Gives w' fun r w'' => IsZ w'' (r) 5) from z_b 5 w' (by omega) (by omega)) ?_
   rintro e w2 ⟨v, rfl, hv, hx⟩
   exact ⟨v, rfl, hR v w2 hx rfl hv⟩
  ·intro γ w' he hf; have f1 : IsZ w' (γ 1) 5 := hf 1 (by decide); clear hf; refine ⟨trivial, ?_⟩; intro R hR
   go_simp
   refine Calls.mono (show Calls _ _ _ w' (Gives w' fun r _ => r = .bool true) from sameint_t _ _ 5 w' (H3.out.kd he.kd) f1) ?_
   rintro e w2 ⟨v, rfl, rfl, hx⟩
   exact ⟨_, rfl, hR _ w2 hx rfl trivial⟩
  ·intro γ w' he hf; have f1 : IsZ w' (γ 1) 5 := hf 1 (by decide); clear hf; refine ⟨trivial, ?_⟩; intro R hR
   have hc := he.cells
   go_simp
   (try go_ints); (try (rw [if_neg (by omega)])); (try (rw [if_pos (by omega)])); (try go_simp); (try go_ints)
   refine hR _ _ (Ext.refl _) ?_ trivial
   rfl
  ·intro γ w' he hf; have f1 : IsZ w' (γ 1) 5 := hf 1 (by decide); clear hf; refine ⟨rfl, ?_⟩; intro R hR
   go_simp
   exact hR _ _ ((Ext.refl _).alloc _) rfl (IntsV.new w' _ [5, -1, 3] (by decide))
  ·intro γ w' he hf; have f1 : IsZ w' (γ 1) 5 := hf 1 (by decide); have f4 : IntsV w' (γ 4) [5, -1, 3] := hf 4 (by decide); clear hf; refine ⟨rfl, ?_⟩; intro R hR
   go_simp
   refine Calls.mono (show Calls _ _ _ w' (Gives w' fun r w'' => ZsV 0 w'' (r) [5, -1, 3]) from Gives.imp (zs_b _ [5, -1, 3] w' f4 (by decide) (by decide)) fun _ _ h => RowV.base_le h (Nat.zero_le _)) ?_
   rintro e w2 ⟨v, rfl, hv, hx⟩
   exact ⟨v, rfl, hR v w2 hx rfl hv⟩
  ·intro γ w' he hf; have f1 : IsZ w' (γ 1) 5 := hf 1 (by decide); have f4 : IntsV w' (γ 4) [5, -1, 3] := hf 4 (by decide); have f5 : ZsV 0 w' (γ 5) [5, -1, 3] := hf 5 (by decide); clear hf; refine ⟨rfl, ?_⟩; intro R hR
   go_simp
   refine Calls.mono (show Calls _ _ _ w' (Gives w' fun r _ => r = .string ⟨#[51, 42, 120, 94, 50, 32, 45, 32, 120, 32, 43, 32, 53]⟩) from format_aw _ 0 w' f5) ?_
   rintro e w2 ⟨v, rfl, rfl, hx⟩
   exact ⟨_, rfl, hR _ w2 hx rfl trivial⟩
  ·intro γ w' he hf; have f1 : IsZ w' (γ 1) 5 := hf 1 (by decide); have f4 : IntsV w' (γ 4) [5, -1, 3] := hf 4 (by decide); have f5 : ZsV 0 w' (γ 5) [5, -1, 3] := hf 5 (by decide); clear hf; refine ⟨rfl, ?_⟩; intro R hR
   have hc := he.cells
   go_simp
   (try go_ints); (try (rw [if_neg (by omega)])); (try (rw [if_pos (by omega)])); (try go_simp); (try go_ints)
   refine hR _ _ (Ext.refl _) ?_ trivial
   rfl
  ·intro γ w' he hf; have f1 : IsZ w' (γ 1) 5 := hf 1 (by decide); have f4 : IntsV w' (γ 4) [5, -1, 3] := hf 4 (by decide); have f5 : ZsV 0 w' (γ 5) [5, -1, 3] := hf 5 (by decide); clear hf; refine ⟨trivial, ?_⟩; intro R hR
   have hc := he.cells
   go_simp
   (try go_ints); (try (rw [if_neg (by omega)])); (try (rw [if_pos (by omega)])); (try go_simp); (try go_ints)
   refine hR _ _ (Ext.refl _) ?_ trivial
   rfl
  ·intro γ w' he hf; have f1 : IsZ w' (γ 1) 5 := hf 1 (by decide); have f4 : IntsV w' (γ 4) [5, -1, 3] := hf 4 (by decide); have f5 : ZsV 0 w' (γ 5) [5, -1, 3] := hf 5 (by decide); clear hf; refine ⟨trivial, ?_⟩; intro R hR
   have hc := he.cells
   go_simp
   (try go_ints); (try (rw [if_neg (by omega)])); (try (rw [if_pos (by omega)])); (try go_simp); (try go_ints)
   refine hR _ _ (Ext.refl _) ?_ trivial
   rfl
  ·intro γ w' he hf; have f1 : IsZ w' (γ 1) 5 := hf 1 (by decide); have f4 : IntsV w' (γ 4) [5, -1, 3] := hf 4 (by decide); have f5 : ZsV 0 w' (γ 5) [5, -1, 3] := hf 5 (by decide); clear hf; refine ⟨rfl, ?_⟩; intro R hR
   go_simp
   exact hR _ _ ((Ext.refl _).alloc _) rfl (IntsV.new w' _ [1, 1] (by decide))
  ·intro γ w' he hf; have f1 : IsZ w' (γ 1) 5 := hf 1 (by decide); have f4 : IntsV w' (γ 4) [5, -1, 3] := hf 4 (by decide); have f5 : ZsV 0 w' (γ 5) [5, -1, 3] := hf 5 (by decide); have f10 : IntsV w' (γ 10) [1, 1] := hf 10 (by decide); clear hf; refine ⟨rfl, ?_⟩; intro R hR
   go_simp
   refine Calls.mono (show Calls _ _ _ w' (Gives w' fun r w'' => ZsV 0 w'' (r) [1, 1]) from Gives.imp (zs_b _ [1, 1] w' f10 (by decide) (by decide)) fun _ _ h => RowV.base_le h (Nat.zero_le _)) ?_
   rintro e w2 ⟨v, rfl, hv, hx⟩
   exact ⟨v, rfl, hR v w2 hx rfl hv⟩
  ·intro γ w' he hf; have f1 : IsZ w' (γ 1) 5 := hf 1 (by decide); have f4 : IntsV w' (γ 4) [5, -1, 3] := hf 4 (by decide); have f5 : ZsV 0 w' (γ 5) [5, -1, 3] := hf 5 (by decide); clear hf; refine ⟨rfl, ?_⟩; intro R hR
   go_simp
   exact hR _ _ ((Ext.refl _).alloc _) rfl (IntsV.new w' _ [1, 1] (by decide))
  ·intro γ w' he hf; have f1 : IsZ w' (γ 1) 5 := hf 1 (by decide); have f4 : IntsV w' (γ 4) [5, -1, 3] := hf 4 (by decide); have f5 : ZsV 0 w' (γ 5) [5, -1, 3] := hf 5 (by decide); have f10 : IntsV w' (γ 10) [1, 1] := hf 10 (by decide); have f11 : ZsV 0 w' (γ 11) [1, 1] := hf 11 (by decide); have f12 : IntsV w' (γ 12) [1, 1] := hf 12 (by decide); clear hf; refine ⟨rfl, ?_⟩; intro R hR
   go_simp
   refine Calls.mono (show Calls _ _ _ w' (Gives w' fun r w'' => ZsV 0 w'' (r) [1, 1]) from Gives.imp (zs_b _ [1, 1] w' f12 (by decide) (by decide)) fun _ _ h => RowV.base_le h (Nat.zero_le _)) ?_
   rintro e w2 ⟨v, rfl, hv, hx⟩
   exact ⟨v, rfl, hR v w2 hx rfl hv⟩
  ·intro γ w' he hf; have f1 : IsZ w' (γ 1) 5 := hf 1 (by decide); have f4 : IntsV w' (γ 4) [5, -1, 3] := hf 4 (by decide); have f5 : ZsV 0 w' (γ 5) [5, -1, 3] := hf 5 (by decide); have f10 : IntsV w' (γ 10) [1, 1] := hf 10 (by decide); have f11 : ZsV 0 w' (γ 11) [1, 1] := hf 11 (by decide); have f12 : IntsV w' (γ 12) [1, 1] := hf 12 (by decide); have f13 : ZsV 0 w' (γ 13) [1, 1] := hf 13 (by decide); clear hf; refine ⟨rfl, ?_⟩; intro R hR
   go_simp
   refine Calls.mono (zmul_p _ _ [1, 1] [1, 1] 1 1 w' (f11.has (fun x hx => by have := K3.out x hx; omega)) (f13.has (fun x hx => by have := K3.out x hx; omega)) (small_cz K3.out) (small_cz K3.out) (by decide) (by decide) (by decide)) ?_
   rintro e w2 ⟨v, rfl, hv, hx⟩
   obtain ⟨A, c, e1, -⟩ := hv.shape
   rw [aw_mul] at e1
   exact ⟨v, rfl, hR v w2 hx rfl ⟨A, c, e1⟩⟩
  ·intro γ w' he hf; have f1 : IsZ w' (γ 1) 5 := hf 1 (by decide); have f4 : IntsV w' (γ 4) [5, -1, 3] := hf 4 (by decide); have f5 : ZsV 0 w' (γ 5) [5, -1, 3] := hf 5 (by decide); have f10 : IntsV w' (γ 10) [1, 1] := hf 10 (by decide); have f11 : ZsV 0 w' (γ 11) [1, 1] := hf 11 (by decide); have f12 : IntsV w' (γ 12) [1, 1] := hf 12 (by decide); have f13 : ZsV 0 w' (γ 13) [1, 1] := hf 13 (by decide); have f14 : Sl3 (γ 14) := hf 14 (by decide); clear hf; refine ⟨rfl, ?_⟩; intro R hR
   obtain ⟨A14, c14, e14⟩ := f14
   have hc := he.cells
   go_simp
   (try go_ints); (try (rw [if_neg (by omega)])); (try (rw [if_pos (by omega)])); (try go_simp); (try go_ints)
   refine hR _ _ (Ext.refl _) ?_ trivial
   rfl
  ·intro γ w' he hf; have f1 : IsZ w' (γ 1) 5 := hf 1 (by decide); have f4 : IntsV w' (γ 4) [5, -1, 3] := hf 4 (by decide); have f5 : ZsV 0 w' (γ 5) [5, -1, 3] := hf 5 (by decide); have f10 : IntsV w' (γ 10) [1, 1] := hf 10 (by decide); have f11 : ZsV 0 w' (γ 11) [1, 1] := hf 11 (by decide); have f12 : IntsV w' (γ 12) [1, 1] := hf 12 (by decide); have f13 : ZsV 0 w' (γ 13) [1, 1] := hf 13 (by decide); have f14 : Sl3 (γ 14) := hf 14 (by decide); clear hf; refine ⟨rfl, ?_⟩; intro R hR
   have hc := he.cells
   go_simp
   (try go_ints); (try (rw [if_neg (by omega)])); (try (rw [if_pos (by omega)])); (try go_simp); (try go_ints)
   refine hR _ _ (Ext.refl _) ?_ trivial
   rfl
  ·intro γ w' he hf; have f1 : IsZ w' (γ 1) 5 := hf 1 (by decide); have f4 : IntsV w' (γ 4) [5, -1, 3] := hf 4 (by decide); have f5 : ZsV 0 w' (γ 5) [5, -1, 3] := hf 5 (by decide); have f10 : IntsV w' (γ 10) [1, 1] := hf 10 (by decide); have f11 : ZsV 0 w' (γ 11) [1, 1] := hf 11 (by decide); have f12 : IntsV w' (γ 12) [1, 1] := hf 12 (by decide); have f13 : ZsV 0 w' (γ 13) [1, 1] := hf 13 (by decide); have f14 : Sl3 (γ 14) := hf 14 (by decide); clear hf; refine ⟨trivial, ?_⟩; intro R hR
   have hc := he.cells
   go_simp
   (try go_ints); (try (rw [if_neg (by omega)])); (try (rw [if_pos (by omega)])); (try go_simp); (try go_ints)
   refine hR _ _ (Ext.refl _) ?_ trivial
   rfl
 case hloc1 =>
  exact ⟨⟨⟨⟨⟨⟨⟨⟨⟨⟨⟨⟨⟨⟨⟨⟨⟨⟨trivial, (fun γ γ' h => ⟨rfl, fun _ => rfl⟩)⟩, (fun γ γ' h => ⟨h 1 rfl, fun w' => (congrArg (fun a => IsZ w' (a) 5) (h 1 rfl))⟩)⟩, (fun γ γ' h => ⟨rfl, fun _ => rfl⟩)⟩, (fun γ γ' h => ⟨rfl, fun _ => rfl⟩)⟩, (fun γ γ' h => ⟨h 4 rfl, fun w' => (congrArg (fun a => IntsV w' (a) [5, -1, 3]) (h 4 rfl))⟩)⟩, (fun γ γ' h => ⟨h 5 rfl, fun w' => (congrArg (fun a => ZsV 0 w' (a) [5, -1, 3]) (h 5 rfl))⟩)⟩, (fun γ γ' h => ⟨rfl, fun _ => rfl⟩)⟩, (fun γ γ' h => ⟨rfl, fun _ => rfl⟩)⟩, (fun γ γ' h => ⟨rfl, fun _ => rfl⟩)⟩, (fun γ γ' h => ⟨rfl, fun _ => rfl⟩)⟩, (fun γ γ' h => ⟨h 10 rfl, fun w' => (congrArg (fun a => IntsV w' (a) [1, 1]) (h 10 rfl))⟩)⟩, (fun γ γ' h => ⟨h 11 rfl, fun w' => (congrArg (fun a => ZsV 0 w' (a) [1, 1]) (h 11 rfl))⟩)⟩, (fun γ γ' h => ⟨h 12 rfl, fun w' => (congrArg (fun a => IntsV w' (a) [1, 1]) (h 12 rfl))⟩)⟩, (fun γ γ' h => ⟨h 13 rfl, fun w' => (congrArg (fun a => ZsV 0 w' (a) [1, 1]) (h 13 rfl))⟩)⟩, (fun γ γ' h => ⟨h 14 rfl, fun w' => (congrArg (fun a => Sl3 (a)) (h 14 rfl))⟩)⟩, (fun γ γ' h => ⟨rfl, fun _ => rfl⟩)⟩, (fun γ γ' h => ⟨rfl, fun _ => rfl⟩)⟩, (fun γ γ' h => ⟨rfl, fun _ => rfl⟩)⟩
 case hmono1 =>
  exact ⟨⟨⟨⟨⟨⟨⟨⟨⟨⟨⟨⟨⟨⟨⟨⟨⟨⟨trivial, (fun γ wA w' e h => h)⟩, (fun γ wA w' e h => (show IsZ wA (γ 1) 5 from h).ext e)⟩, (fun γ wA w' e h => h)⟩, (fun γ wA w' e h => h)⟩, (fun γ w w' e h => IntsV.ext h e)⟩, (fun γ wA w' e h => (show ZsV 0 wA (γ 5) [5, -1, 3] from h).ext e)⟩, (fun γ wA w' e h => h)⟩, (fun γ wA w' e h => h)⟩, (fun γ wA w' e h => h)⟩, (fun γ wA w' e h => h)⟩, (fun γ w w' e h => IntsV.ext h e)⟩, (fun γ wA w' e h => (show ZsV 0 wA (γ 11) [1, 1] from h).ext e)⟩, (fun γ w w' e h => IntsV.ext h e)⟩, (fun γ wA w' e h => (show ZsV 0 wA (γ 13) [1, 1] from h).ext e)⟩, (fun γ w w' e h => h)⟩, (fun γ wA w' e h => h)⟩, (fun γ wA w' e h => h)⟩, (fun γ wA w' e h => h)⟩
 intro γ w4 hx4 hF
 have p1 : IsZ w4 (γ 1) 5 := Each.get hF 1 (by decide)
 have p4 : IntsV w4 (γ 4) [5, -1, 3] := Each.get hF 4 (by decide)
 have p5 : ZsV 0 w4 (γ 5) [5, -1, 3] := Each.get hF 5 (by decide)
 have p10 : IntsV w4 (γ 10) [1, 1] := Each.get hF 10 (by decide)
 have p11 : ZsV 0 w4 (γ 11) [1, 1] := Each.get hF 11 (by decide)
 have p12 : IntsV w4 (γ 12) [1, 1] := Each.get hF 12 (by decide)
 have p13 : ZsV 0 w4 (γ 13) [1, 1] := Each.get hF 13 (by decide)
 have p14 : Sl3 (γ 14) := Each.get hF 14 (by decide)
 clear hF
 simp only [fillAll, gV, kv, List.getD_cons_zero, List.getD_cons_succ, Act.put, List.setIfInBounds_toArray, List.set_cons_zero, List.set_cons_succ, List.toList_toArray, List.drop_succ_cons, List.drop_zero, List.drop_nil, Nat.zero_add, Nat.reduceAdd]
 generalize γ 1 = g1 at *
 generalize γ 4 = g4 at *
 generalize γ 5 = g5 at *
 generalize γ 10 = g10 at *
 generalize γ 11 = g11 at *
 generalize γ 12 = g12 at *
 generalize γ 13 = g13 at *
 generalize γ 14 = g14 at *
 clear γ
 clear p4 p5 p10 p11 p12 p13
 go_wp2
 go_ret
 exact Gives.mk rfl (hx.trans hx4)
end Go.Proofs.YtfacbpnegkjcgaaGreatDoor
namespace Go.Hp
open Go.RowKit
theorem div_at {F : Nat → Rat} {a : Int} (hz : ZI F) (ha : a ≠ 0) (i : Nat) (hd : a ∣ (F i).num) : psc (1 / (a : Rat)) F i = (((F i).num / a : Int) : Rat) := by
 obtain ⟨k, hk⟩ := hd
 have ha' : (a : Rat) ≠ 0 := fun e => ha (by exact_mod_cast e)
 rw [hk, Int.mul_ediv_cancel_left _ ha]
 show 1 / (a : Rat) * F i = _
 rw [hz.num i, hk, Rat.intCast_mul]
 grind
theorem lzf_hz {base : Nat} {w : World} {v : Value} {n : Nat} {F : Nat → Rat} {e : TypeId} (h : OwnZ base e w v (lzf n F)) (hs : ∀ i, qsz (F i) ≤ 1099511627776) : HzV 0 w v (lzf n F) :=
 ZsV.has h.row fun x hx => by
  obtain ⟨i, hi, rfl⟩ := List.getElem_of_mem hx
  rw [lzf_get]
  have := hs i
  unfold qsz at this; omega
end Go.Hp
namespace Go.Proofs.YtfacbpnegkjcgaaGreatDoor
open Go.RowKit Go.Hp
theorem append_nz (W : World) (v x : Value) (base b ty : Nat) (l : List Int) (q : Int) (h : OwnZ base 28 W v l) (hx : NewZ W x b q 28) (hn : l.length ≤ 1099511627776) (hb : base ≤ W.heap.size) :
  ∃ v' w', (Builtin.append_ #[22, 22] ty #[v, x]).run Tryz.prog W = .ok v' w' ∧ (OwnZ base 28 w' v' (l ++ [q]) ∧ Upd (blk v) W w') := by
 obtain ⟨g, cs, rfl, h1, h2, h3, h4⟩ := hx
 obtain ⟨i0, hi, hz0, hz1, hz2⟩ := info_parts info_int
 have ho := IsZ.one h4
 obtain ⟨v', w', a, b, c⟩ := OwnR.append (P := Tryz.prog) h 22 ty i0 _ 32 Tryz.underlying22 hi hz0 hz1 hz2 rfl (by simp [nodig, isDig, Value.cells]) (by decide) ⟨g, 0, none⟩ 1 cs h3 h4 h2.news ho.1 ho.2.1 (small_lenz hn) (by omega) hb (fun _ _ _ k hq => IsZ.kd hq k)
 exact ⟨v', w', a, b, c⟩
set_option maxHeartbeats 1000000 in
theorem content_rz (v : Value) (l : List Int) (w : World) (hv : HzV 0 w v l) (hs : ∀ i, qsz (cz l i) ≤ 549755813888) (hn : l.length ≤ 1099511627776) : Calls Tryz.prog 16 #[v] w (Gives w fun r w' => IsZ w' r (cn (cz l) : Nat)) := by
 obtain ⟨A, c, rfl, hl, hc, hA⟩ := hv
 have HA : Hid (HzAt 0 w A l) := Lib.hid hA; clear hA
 have HS := Lib.hid hs; clear hs
 rw [cn_eq (cz_sup l)]
 go_enter Tryz.func16, Tryz.ntmps16
 go_wp2_with fail
 refine Calls.mono (of_r 0 _ (by omega) (by omega)) ?_
 rintro e w1 ⟨r, rfl, hr, hx1⟩
 obtain ⟨b5, A5, n5, c5, rfl⟩ := hr.cells
 have ea := (Box.new w 28 #[.bool false, .slice none 0 0] (by simp [isDig])).ext hx1
 obtain ⟨W0, eW, eb, x0⟩ := Box.made w1 28 #[.bool b5, .slice A5 n5 c5] (by simp [isDig])
 replace hr := hr.kd x0.kd
 replace ea := ea.ext x0
 have hs1 := hx1.size
 have hx := hx1.a1.trans x0
 have hgb : w.heap.size < w1.heap.size := by simp at hs1; omega
 go_wp2
 rw [← eW]
 clear eW x0 hx1 hs1
 generalize w1.heap.size = gb at *
 go_loopw [4] (fun iv wr => ∃ k : Nat, k ≤ l.length ∧ iv = .int .i64 k ∧ Box wr w.heap.size 28 #[.bool false, .slice none 0 0] ∧ BoxZ wr gb 28 (ct k (cz l) : Nat) ∧ Ext w wr) (fun iv _ => l.length - (intOf iv).toNat)
 case atStart => exact ⟨0, Nat.zero_le _, rfl, ea, BoxZ.mk eb hr, hx⟩
 case round =>
  clear hx ea eb hr
  obtain ⟨k, hk, rfl, ea, ⟨b, B, bn, bc, eb, hb⟩, hx⟩ := hrel
  have Hb := Lib.hid hb; clear hb
  by_cases hkl : k < l.length
  ·obtain ⟨g, o, b1, A1, n, c1, rfl, _, q0, q1, hq⟩ := HA.out.at_ (j := k) hkl
   replace q0 := hx.cell q0
   replace q1 := hx.cell q1
   have Hq := Lib.hid (hq.kd hx.kd); clear hq
   have hsk := cn_sz HS.out k
   have hqk := HS.out k
   rw [cz_lt hkl, qsz_cast] at hqk
   have HK := Lib.hid (And.intro hsk hqk); clear hsk hqk
   obtain ⟨r0, r1⟩ := eb.cells2
   have e1 : Int.gcd (ct k (cz l) : Nat) l[k] = ct (k + 1) (cz l) := by rw [ct_succ, cz_lt hkl]; rfl
   have He := Lib.hid e1; clear e1
   go_wp2_with fail
   refine wp_region_par (k := 6) (D := [12, 13, 14, 15, 16, 17]) (T := [[], [], [], [1, 2], [1, 2, 3], [0, 1, 2, 3, 4], [0, 1, 2, 3, 4, 5]]) (EK := [3, 0, 4]) (EV := [?e1x0, ?e1x1, ?e1x2]) (VL := [(kv ?v1x0), (kv ?v1x1), (kv ?v1x2), (kv ?v1x3), (kv ?v1x4), (fun γ => γ 5)]) (FL := fun γ w' => [True, True, True, True, True, IsZ w' (γ 5) (ct (k + 1) (cz l) : Nat)]) ?hE1 (by kernel_rfl) (by kernel_rfl) (by rfl) (by kernel_rfl) ?hloc1 ?hmono1 ?hstep1 ?htail1
   case hE1 => refine ⟨?_, ?_, ?_, trivial⟩ <;> (simp only [List.getElem?_toArray, List.getElem?_cons_succ, List.getElem?_cons_zero]; rfl)
   case hstep1 =>
    refine ⟨⟨⟨⟨⟨⟨trivial, ?_⟩, ?_⟩, ?_⟩, ?_⟩, ?_⟩, ?_⟩
    iterate 5 focus
     intro γ w' he hf; clear hf; refine ⟨by trivial, ?_⟩; intro R hR; have hc := he.cells
     have cq0 := he.cell q0
     have cq1 := he.cell q1
     have cq2 := he.cell r0
     have cq3 := he.cell r1
     go_simp; (try go_ints); (try (rw [if_neg (by omega)])); (try (rw [if_pos (by omega)])); (try go_simp); (try go_ints)
     refine hR _ _ (Ext.refl _) ?_ trivial; rfl
    ·intro γ w' he hf; clear hf; refine ⟨trivial, ?_⟩; intro R hR
     go_simp
     refine Calls.mono (show Calls _ _ _ w' (Gives w' fun r w'' => IsZ w'' (r) (ct (k + 1) (cz l) : Nat)) from He.out ▸ gcd_r _ _ (ct k (cz l) : Nat) l[k] w' ((Hb.out.kd he.kd).has (by have := HK.out.1; simp; omega)) (Hq.out.kd he.kd) (by have := HK.out.1; simp; omega) (by have := HK.out.2; omega)) ?_
     rintro e w2 ⟨v, rfl, hv, hx⟩
     exact ⟨v, rfl, hR v w2 hx rfl hv⟩
   case hloc1 =>
    exact ⟨⟨⟨⟨⟨⟨trivial, (fun γ γ' h => ⟨rfl, fun _ => rfl⟩)⟩, (fun γ γ' h => ⟨rfl, fun _ => rfl⟩)⟩, (fun γ γ' h => ⟨rfl, fun _ => rfl⟩)⟩, (fun γ γ' h => ⟨rfl, fun _ => rfl⟩)⟩, (fun γ γ' h => ⟨rfl, fun _ => rfl⟩)⟩, (fun γ γ' h => ⟨h 5 rfl, fun w' => (congrArg (fun a => IsZ w' (a) (ct (k + 1) (cz l) : Nat)) (h 5 rfl))⟩)⟩
   case hmono1 =>
    exact ⟨⟨⟨⟨⟨⟨trivial, (fun γ wA w' e h => h)⟩, (fun γ wA w' e h => h)⟩, (fun γ wA w' e h => h)⟩, (fun γ wA w' e h => h)⟩, (fun γ wA w' e h => h)⟩, (fun γ wA w' e h => (show IsZ wA (γ 5) (ct (k + 1) (cz l) : Nat) from h).ext e)⟩
   intro γ w2 hx2 hF
   have p5 : IsZ w2 (γ 5) (ct (k + 1) (cz l) : Nat) := Each.get hF 5 (by decide)
   clear hF
   simp only [fillAll, gV, kv, List.getD_cons_zero, List.getD_cons_succ, Act.put, List.setIfInBounds_toArray, List.set_cons_zero, List.set_cons_succ, List.toList_toArray, List.drop_succ_cons, List.drop_zero, List.drop_nil, Nat.zero_add, Nat.reduceAdd]
   generalize γ 5 = g5 at *
   clear γ
   obtain ⟨b6, A6, n6, c6, rfl⟩ := p5.cells
   replace ea := ea.ext hx2
   replace eb := eb.ext hx2
   replace hx := hx.trans hx2
   clear hx2 q0 q1 r0 r1 He HK Hb Hq
   obtain ⟨ceb0, ceb1⟩ := eb.cells2
   have feb := eb.frozen
   go_wp2
   obtain ⟨W3, eW, eb', U⟩ := eb.put2 (.bool b6) (.slice A6 n6 c6) rfl rfl
   rw [← eW]
   clear eW eb
   replace p5 := p5.kd U.kd
   replace ea := ea.upd U (by simp <;> omega)
   replace hx := U.from_ hx (by simp <;> omega)
   have eb := eb'
   clear U eb'
   go_roundw
   case rel => exact ⟨k + 1, by omega, by go_num, ea, BoxZ.mk eb p5, hx⟩
   case measure => simp [intOf]; omega
  ·obtain rfl : k = l.length := by omega
   obtain ⟨cea0, cea1⟩ := ea.cells2
   have fea := ea.frozen
   obtain ⟨ceb0, ceb1⟩ := eb.cells2
   have feb := eb.frozen
   go_wp2
   have hr := Hb.out
   obtain ⟨W3, eW, ea', U⟩ := ea.put2 (.bool b) (.slice B bn bc) rfl rfl
   rw [← eW]
   clear eW ea
   replace hr := hr.kd U.kd
   replace hx := U.from_ hx (by simp <;> omega)
   have ea := ea'
   clear U ea'
   clear cea0 cea1
   obtain ⟨cea0, cea1⟩ := ea.cells2
   have fea := ea.frozen
   refine bodyPost_ret (v := .agg #[.bool b, .slice B bn bc]) (by simp [results, Tryz.results16, go_sem, cea0, cea1]) rfl ?_
   exact Gives.mk hr hx
set_option maxRecDepth 20000 in
set_option maxHeartbeats 2000000 in
theorem over_rz (v u : Value) (l : List Int) (a : Int) (w : World) (hv : HzV 0 w v l) (hu : HasZ w u a) (hs : ∀ i, qsz (cz l i) ≤ 549755813888) (sa : sz a.natAbs ≤ 549755813888) (ha : a ≠ 0) (hd : ∀ i, a ∣ (cz l i).num) (hn : l.length ≤ 549755813888) :
  Calls Tryz.prog 67 #[v, u] w (Gives w fun r w' => IsZP w.heap.size w' r (psc (1 / (a : Rat)) (cz l))) := by
 have HU := Lib.hid hu
 obtain ⟨b1, A1, n1, c1, rfl⟩ := hu.cells
 obtain ⟨A, c, rfl, hl, hc, hA⟩ := hv
 clear hu
 have HA : Hid (HzAt 0 w A l) := Lib.hid hA; clear hA
 obtain ⟨G, hG⟩ : ∃ G, G = psc (1 / (a : Rat)) (cz l) := ⟨_, rfl⟩
 have hGi : ∀ i, G i = (((cz l i).num / a : Int) : Rat) := fun i => by rw [hG]; exact div_at (ZI.cz l) ha i (hd i)
 have hGs : Sup l.length G := by rw [hG]; exact (cz_sup l).psc _
 have hGq : ∀ i, qsz (G i) ≤ 549755813888 := fun i => by
  rw [hGi, qsz_cast]
  have h1 := sz_ediv (hd i); have h2 := hs i
  unfold qsz at h2; omega
 rw [← hG]
 have HG := Lib.hid (And.intro hGi (And.intro hGs (And.intro hGq (show ZI G from fun i => ⟨_, hGi i⟩)))); clear hG hGi hGs hGq
 have HS := Lib.hid (And.intro hs (And.intro ha hd)); clear hs ha hd
 go_enter Tryz.func67, Tryz.ntmps67
 go_wp2
 go_loopw [5, 6] (fun ov iv wr => ∃ (k : Nat), k ≤ l.length ∧ iv = .int .i64 k ∧ OwnZ (w.heap.size + 1) 28 wr ov (lzf k G) ∧ Ext (w.alloc (.cells #[.bool b1, .slice A1 n1 c1] 28)) wr) (fun _ iv _ => l.length - (intOf iv).toNat)
 case atStart => exact ⟨0, Nat.zero_le _, rfl, OwnR.nil _ _ _ _ _, Ext.refl _⟩
 case round =>
  obtain ⟨k, hk, rfl, hown, hx⟩ := hrel
  by_cases hkl : k < l.length
  ·obtain ⟨g, o, b, A2, n, c2, rfl, _, q0, q1, hq⟩ := HA.out.at_ (j := k) hkl
   replace q0 := hx.a1.cell q0
   replace q1 := hx.a1.cell q1
   have ca0 := hx.box (g := w.heap.size) (i := 0) rfl rfl
   have ca1 := hx.box (g := w.heap.size) (i := 1) rfl rfl
   have hqk := HS.out.1 k
   rw [cz_lt hkl, qsz_cast] at hqk
   have hGk : l[k] / a = (G k).num := by rw [HG.out.1, cz_lt hkl]; rfl
   have Hq := Lib.hid (And.intro hq (And.intro hqk hGk)); clear hq hqk hGk
   have Hown := Lib.hid hown; clear hown
   go_wp2_with fail
   refine wp_region_par (k := 8) (D := [13, 14, 15, 16, 17, 18, 19, 20]) (T := [[], [], [], [1, 2], [1, 2, 3], [], [1, 2, 3, 4, 5], [1, 2, 3, 4, 5, 6], [0, 1, 2, 3, 4, 5, 6, 7], [0, 1, 2, 3, 4, 5, 6, 7, 8]]) (EK := [5, 0, 6, 3]) (EV := [?e2x0, ?e2x1, ?e2x2, ?e2x3]) (VL := [(kv ?v2x0), (kv ?v2x1), (kv ?v2x2), (kv ?v2x3), (kv ?v2x4), (kv ?v2x5), (fun γ => γ 6), (fun γ => γ 7)]) (FL := fun γ w' => [True, True, True, True, True, True, IsZ w' (γ 6) (G k).num, NewZ w' (γ 7) (wr.heap.size) ((G k).num) 28]) ?hE2 (by kernel_rfl) (by kernel_rfl) (by rfl) (by kernel_rfl) ?hloc2 ?hmono2 ?hstep2 ?htail2
   case hE2 => refine ⟨?_, ?_, ?_, ?_, trivial⟩ <;> (simp only [List.getElem?_toArray, List.getElem?_cons_succ, List.getElem?_cons_zero]; rfl)
   case hstep2 =>
    refine ⟨⟨⟨⟨⟨⟨⟨⟨trivial, ?_⟩, ?_⟩, ?_⟩, ?_⟩, ?_⟩, ?_⟩, ?_⟩, ?_⟩
    iterate 6 focus
     intro γ w' he hf; clear hf; refine ⟨by trivial, ?_⟩; intro R hR; have hc := he.cells
     have cq0 := he.cell q0
     have cq1 := he.cell q1
     have cq2 := he.cell ca0
     have cq3 := he.cell ca1
     go_simp; (try go_ints); (try (rw [if_neg (by omega)])); (try (rw [if_pos (by omega)])); (try go_simp); (try go_ints)
     refine hR _ _ (Ext.refl _) ?_ trivial; rfl
    ·intro γ w' he hf; clear hf; refine ⟨trivial, ?_⟩; intro R hR
     go_simp
     refine Calls.mono (show Calls _ _ _ w' (Gives w' fun r w'' => IsZ w'' (r) (G k).num) from Hq.out.2.2 ▸ exact_r _ _ _ _ w' (Hq.out.1.kd (hx.a1.trans he).kd) (HU.out.kd (hx.a1.trans he).kd) HS.out.2.1 (by have := Hq.out.2.1; omega) sa) ?_
     rintro e w2 ⟨v, rfl, hv, hx⟩
     exact ⟨v, rfl, hR v w2 hx rfl hv⟩
    ·intro γ w' he hf; have f6 : IsZ w' (γ 6) (G k).num := hf 6 (by decide); clear hf; refine ⟨trivial, ?_⟩; intro R hR
     refine IsZ.el f6 fun b5 A5 n5 c5 e6 f6' => ?_
     clear f6
     go_simp
     exact hR _ _ ((Ext.refl _).alloc _) rfl (NewZ.mk f6' (Nat.le_trans (by simp) he.size) _)
   case hloc2 =>
    exact ⟨⟨⟨⟨⟨⟨⟨⟨trivial, (fun γ γ' h => ⟨rfl, fun _ => rfl⟩)⟩, (fun γ γ' h => ⟨rfl, fun _ => rfl⟩)⟩, (fun γ γ' h => ⟨rfl, fun _ => rfl⟩)⟩, (fun γ γ' h => ⟨rfl, fun _ => rfl⟩)⟩, (fun γ γ' h => ⟨rfl, fun _ => rfl⟩)⟩, (fun γ γ' h => ⟨rfl, fun _ => rfl⟩)⟩, (fun γ γ' h => ⟨h 6 rfl, fun w' => (congrArg (fun a => IsZ w' (a) (G k).num) (h 6 rfl))⟩)⟩, (fun γ γ' h => ⟨h 7 rfl, fun w' => (congrArg (fun a => NewZ w' (a) (wr.heap.size) ((G k).num) 28) (h 7 rfl))⟩)⟩
   case hmono2 =>
    exact ⟨⟨⟨⟨⟨⟨⟨⟨trivial, (fun γ wA w' e h => h)⟩, (fun γ wA w' e h => h)⟩, (fun γ wA w' e h => h)⟩, (fun γ wA w' e h => h)⟩, (fun γ wA w' e h => h)⟩, (fun γ wA w' e h => h)⟩, (fun γ wA w' e h => (show IsZ wA (γ 6) (G k).num from h).ext e)⟩, (fun γ wA w' e h => (show NewZ wA (γ 7) (wr.heap.size) ((G k).num) 28 from h).ext e)⟩
   intro γ w1 hx1 hF
   have p6 : IsZ w1 (γ 6) (G k).num := Each.get hF 6 (by decide)
   have p7 : NewZ w1 (γ 7) (wr.heap.size) ((G k).num) 28 := Each.get hF 7 (by decide)
   clear hF
   simp only [fillAll, gV, kv, List.getD_cons_zero, List.getD_cons_succ, Act.put, List.setIfInBounds_toArray, List.set_cons_zero, List.set_cons_succ, List.toList_toArray, List.drop_succ_cons, List.drop_zero, List.drop_nil, Nat.zero_add, Nat.reduceAdd]
   generalize γ 6 = g6 at *
   generalize γ 7 = g7 at *
   clear γ
   have hs : w.heap.size + 1 ≤ wr.heap.size := by have := hx.size; simpa using this
   have hs1 := hx1.size
   refine wpList_append_run rfl _ _ 22 rfl u5 g7 rfl rfl (append_nz w1 _ _ (w.heap.size + 1) _ _ _ _ (Hown.out.ext hx1) p7 (by rw [lzf_len]; omega) (by omega)) ?_
   rintro v' w2 ⟨hown, U⟩
   replace hx := (Hown.out.ext hx1).from_ U (hx.trans hx1) (by simp)
   have Hown' := Lib.hid hown; clear hown U p7 p6 q0 q1 ca0 ca1
   go_wp2
   go_roundw
   case rel => exact ⟨k + 1, by omega, by go_num, by rw [lzf_succ]; exact Hown'.out, hx⟩
   case measure => simp [intOf] <;> omega
  ·obtain rfl : k = l.length := by omega
   have hh := lzf_hz hown (fun i => by have := HG.out.2.2.1 i; omega)
   obtain ⟨A2, c2, e2⟩ := hh.len
   rw [lzf_len] at e2
   rw [e2] at hh
   clear hown
   subst e2
   have hczl := cz_lzf HG.out.2.2.2 HG.out.2.1
   have HH := Lib.hid (And.intro hh hczl); clear hh hczl
   go_wp2_with fail
   refine Calls.mono (normal_rz _ _ _ HH.out.1 (by rw [lzf_len]; omega)) ?_
   rintro e w9 ⟨r, rfl, hr, hx9⟩
   rw [HH.out.2] at hr
   have hsz := hx.a1.size
   have Hr := Lib.hid hr; clear hr
   go_wp2
   go_ret
   exact Gives.mk (Hr.out.base_le hsz) (hx.a1.trans hx9)
set_option maxHeartbeats 1000000 in
theorem primitive_rz (v : Value) (l : List Int) (w : World) (hv : HzV 0 w v l) (hs : ∀ i, qsz (cz l i) ≤ 549755813888) (hn : l.length ≤ 549755813888) :
  Calls Tryz.prog 18 #[v] w (Gives w fun r w' => IsZP w.heap.size w' r (pp (cz l))) := by
 have HV := Lib.hid hv
 obtain ⟨A, c, rfl⟩ := hv.len
 clear hv
 have hfin := Fin_.cz l; have hzi := ZI.cz l
 have HX := Lib.hid (And.intro hs (And.intro hfin hzi)); clear hs hfin hzi
 go_enter Tryz.func18, Tryz.ntmps18
 go_wp2_with fail
 refine Calls.mono (content_rz _ l _ HV.out HX.out.1 (by omega)) ?_
 rintro e w1 ⟨r1, rfl, hr1, hx1⟩
 obtain ⟨b5, A5, n5, c5, rfl⟩ := hr1.cells
 obtain ⟨W0, eW, eb, x0⟩ := Box.made w1 28 #[.bool b5, .slice A5 n5 c5] (by simp [isDig])
 replace hr1 := hr1.kd x0.kd
 have hs1 := hx1.size
 replace hx1 := hx1.trans x0
 have hcz : sz ((cn (cz l) : Nat) : Int).natAbs ≤ 549755813888 := by have := cn_sz HX.out.1 (pl (cz l)); simpa [cn] using this
 have Hr1 := Lib.hid (And.intro hr1 hcz); clear hr1 hcz
 subst eW
 clear x0
 obtain ⟨C, hC⟩ : ∃ C, C = cn (cz l) := ⟨_, rfl⟩
 rw [← hC] at Hr1
 have HC := Lib.hid hC; clear hC
 go_upto_region 2 with (fail)
 generalize w1.alloc (.cells #[.bool b5, .slice A5 n5 c5] 28) = W0 at *
 generalize w1.heap.size = gb at *
 obtain ⟨ceb0, ceb1⟩ := eb.cells2
 have feb := eb.frozen
 go_wp2_with fail
 refine Calls.mono (sign_r _ (C : Int) _ (Hr1.out.1.has (by have := Hr1.out.2; omega))) ?_
 rintro e w2 ⟨r2, rfl, rfl, hx2⟩
 by_cases h0 : C = 0
 ·have hb : ((C : Int).sign == 0) = true := by rw [h0]; rfl
  have hF : cz l = pz := Classical.byContradiction fun h => cn_ne HX.out.2.2 HX.out.2.1 h (by rw [← HC.out, h0])
  have HF := Lib.hid hF; clear hF h0
  go_wp2
  go_ret
  rw [HF.out, pp_pz]
  exact Gives.mk (IsZP.nil _ _) (hx1.trans hx2)
 ·have hb : ((C : Int).sign == 0) = false := by
   have : (C : Int).sign ≠ 0 := fun e => h0 (by have := Int.sign_eq_zero_iff_zero.1 e; omega)
   simpa using this
  have hF : cz l ≠ pz := fun h => h0 (by rw [HC.out, h, cn_pz])
  have HF := Lib.hid hF; clear hF h0
  replace eb := eb.ext hx2
  have Hr2 := Lib.hid (Hr1.out.1.kd hx2.kd)
  replace hx1 := hx1.trans hx2
  have hHC := Hr1.out.2
  clear hx2 ceb0 ceb1 feb
  go_wp2_with fail
  refine Calls.mono (lead_rz _ l _ (HV.out.ext hx1) (by omega)) ?_
  rintro e w3 ⟨r3, rfl, hr3, hx3⟩
  have hlz : sz (ld (cz l)).num.natAbs ≤ 1099511627776 := by have := HX.out.1 (pl (cz l) - 1); unfold qsz at this; show sz (cz l (pl (cz l) - 1)).num.natAbs ≤ _; omega
  have Hr3 := Lib.hid (hr3.has hlz); clear hr3 hlz
  replace eb := eb.ext hx3
  have Hr4 := Lib.hid (Hr2.out.kd hx3.kd)
  replace hx1 := hx1.trans hx3
  clear hx3 Hr2
  go_wp2_with fail
  refine Calls.mono (sign_r _ (ld (cz l)).num _ Hr3.out) ?_
  rintro e w4 ⟨r4, rfl, rfl, hx4⟩
  replace eb := eb.ext hx4
  have Hr2 := Lib.hid (Hr4.out.kd hx4.kd)
  replace hx1 := hx1.trans hx4
  clear hx4 Hr3 Hr4
  have hldz : ld (cz l) = ((ld (cz l)).num : Rat) := HX.out.2.2.num _
  have hpd := fun i => pcn_dvd HX.out.2.1 i
  have hpn := pcn_ne HX.out.2.2 HX.out.2.1 HF.out
  have hpa : sz (pcn (cz l)).natAbs ≤ 549755813888 := by rw [pcn_abs]; simpa [HC.out] using hHC
  by_cases hneg : (ld (cz l)).num < 0
  ·have hb2 : decide ((ld (cz l)).num < 0) = true := by simpa using hneg
   have hpc : pcn (cz l) = -(C : Int) := by
    unfold pcn; rw [hldz, if_pos (by exact_mod_cast hneg), HC.out]
   have Hpc := Lib.hid (And.intro hpc (And.intro hpd (And.intro hpn hpa))); clear hpc hldz hpd hpn hpa hneg
   obtain ⟨ceb0, ceb1⟩ := eb.cells2
   have feb := eb.frozen
   go_wp2_with fail
   refine Calls.mono (neg_r _ (C : Int) _ (Hr2.out.has (by omega))) ?_
   rintro e w5 ⟨r5, rfl, hr5, hx5⟩
   obtain ⟨b6, A6, n6, c6, rfl⟩ := hr5.cells
   replace eb := eb.ext hx5
   replace hx1 := hx1.trans hx5
   clear hx5 ceb0 ceb1 feb Hr2
   obtain ⟨ceb0, ceb1⟩ := eb.cells2
   have feb := eb.frozen
   go_upto_region 6 with (fail)
   obtain ⟨W3, eW, eb', U⟩ := eb.put2 (.bool b6) (.slice A6 n6 c6) rfl rfl
   rw [← eW]
   clear eW eb
   replace hr5 := hr5.kd U.kd
   replace hx1 := U.from_ hx1 (by simp <;> omega)
   have eb := eb'
   clear U eb'
   clear ceb0 ceb1 feb
   obtain ⟨ceb0, ceb1⟩ := eb.cells2
   have feb := eb.frozen
   rw [← Hpc.out.1] at hr5
   have Hr5 := Lib.hid (hr5.has (by have := Hpc.out.2.2.2; omega)); clear hr5
   go_wp2_with fail
   refine Calls.mono (over_rz _ _ l (pcn (cz l)) _ (HV.out.ext hx1) Hr5.out HX.out.1 Hpc.out.2.2.2 Hpc.out.2.2.1 Hpc.out.2.1 hn) ?_
   rintro e w6 ⟨r6, rfl, hr6, hx6⟩
   have hsz := hx1.size
   have Hr6 := Lib.hid hr6; clear hr6
   go_wp2
   go_ret
   exact Gives.mk (Hr6.out.base_le hsz) (hx1.trans hx6)
  ·have hb2 : decide ((ld (cz l)).num < 0) = false := by simpa using hneg
   have hpc : pcn (cz l) = (C : Int) := by
    unfold pcn; rw [hldz, if_neg (by intro h; exact hneg (by exact_mod_cast h)), HC.out]
   have Hpc := Lib.hid (And.intro hpc (And.intro hpd (And.intro hpn hpa))); clear hpc hldz hpd hpn hpa hneg
   obtain ⟨ceb0, ceb1⟩ := eb.cells2
   have feb := eb.frozen
   have hr5 := Hr2.out
   rw [← Hpc.out.1] at hr5
   have Hr5 := Lib.hid (hr5.has (by have := Hpc.out.2.2.2; omega)); clear hr5
   go_wp2_with fail
   refine Calls.mono (over_rz _ _ l (pcn (cz l)) _ (HV.out.ext hx1) Hr5.out HX.out.1 Hpc.out.2.2.2 Hpc.out.2.2.1 Hpc.out.2.1 hn) ?_
   rintro e w6 ⟨r6, rfl, hr6, hx6⟩
   have hsz := hx1.size
   have Hr6 := Lib.hid hr6; clear hr6
   go_wp2
   go_ret
   exact Gives.mk (Hr6.out.base_le hsz) (hx1.trans hx6)
end Go.Proofs.YtfacbpnegkjcgaaGreatDoor
namespace Go.Proofs.YtfacbpnegkjcgaaGreatDoor
open Go.RowKit Go.Hp
theorem zscale_pp (v u : Value) (F : Nat → Rat) (a : Int) (w : World) (hv : IsZP 0 w v F) (hs : ∀ i, qsz (F i) ≤ 1099511627776) (hu : HasZ w u a) (hn : pl F ≤ 1099511627776) :
  Calls Tryz.prog 19 #[v, u] w (Gives w fun r w' => IsZP 0 w' r (psc (a : Rat) F)) := by
 obtain ⟨l, h1, h2, -, rfl⟩ := hv.hz hs
 exact Gives.imp (zscale_p v u l a w h1 hu (by omega)) fun _ _ h => h.base_le (Nat.zero_le _)
end Go.Proofs.YtfacbpnegkjcgaaGreatDoor
namespace Go.Hp
end Go.Hp
namespace Go.Proofs.YtfacbpnegkjcgaaGreatDoor
open Go.RowKit Go.Hp
end Go.Proofs.YtfacbpnegkjcgaaGreatDoor
namespace Go.Hp
structure AltZ (n : Nat) (E : (Nat → Nat → Rat) → Rat) : Prop where
 lin : ∀ (A : Nat → Nat → Rat) (i : Nat), i < n → ∀ (a b : Rat) (u v : Nat → Rat), E (rw_ A i fun c => a * u c + b * v c) = a * E (rw_ A i u) + b * E (rw_ A i v)
 alt : ∀ (A : Nat → Nat → Rat) (i j : Nat), i < n → j < n → i ≠ j → A i = A j → E A = 0
 cong : ∀ (A B : Nat → Nat → Rat), (∀ i j, i < n → j < n → A i j = B i j) → E A = E B
 one : E (fun i j => if i = j then 1 else 0) = 0
theorem php : ∀ (n : Nat) (s : Nat → Nat), (∀ i, i < n + 1 → s i < n) → ∃ i j, i < j ∧ j < n + 1 ∧ s i = s j
 | 0, s, h => absurd (h 0 (by omega)) (by omega)
 | n + 1, s, h => by
  by_cases e : ∃ i, i < n + 1 ∧ s i = s (n + 1)
  ·obtain ⟨i, hi, e⟩ := e
   exact ⟨i, n + 1, hi, by omega, e⟩
  ·have e' : ∀ i, i < n + 1 → s i ≠ s (n + 1) := fun i hi q => e ⟨i, hi, q⟩
   obtain ⟨i, j, hij, hj, q⟩ := php n (fun i => if s i < s (n + 1) then s i else s i - 1) (fun i hi => by
    have h1 := h i (by omega)
    have h2 := h (n + 1) (by omega)
    have h3 := e' i hi
    show (if s i < s (n + 1) then s i else s i - 1) < n
    split <;> omega)
   refine ⟨i, j, hij, by omega, ?_⟩
   have h1 := e' i (by omega)
   have h2 := e' j hj
   have q' : (if s i < s (n + 1) then s i else s i - 1) = (if s j < s (n + 1) then s j else s j - 1) := q
   split at q' <;> split at q' <;> omega
theorem AltZ.swap {n : Nat} {E : (Nat → Nat → Rat) → Rat} (h : AltZ n E) (A : Nat → Nat → Rat) {i j : Nat} (hi : i < n) (hj : j < n) (hne : i ≠ j) : E (rw_ (rw_ A i (A j)) j (A i)) = - E A := by
 obtain ⟨u, hu⟩ : ∃ u, u = A i := ⟨_, rfl⟩
 obtain ⟨v, hv⟩ : ∃ v, v = A j := ⟨_, rfl⟩
 have comm : ∀ x y : Nat → Rat, rw_ (rw_ A i x) j y = rw_ (rw_ A j y) i x := fun x y => by
  funext r c; unfold rw_
  by_cases a : r = j
  ·subst a; rw [if_pos rfl, if_neg (Ne.symm hne), if_pos rfl]
  ·rw [if_neg a]
   by_cases b : r = i
   ·rw [if_pos b, if_pos b]
   ·rw [if_neg b, if_neg b, if_neg a]
 have z : ∀ x : Nat → Rat, E (rw_ (rw_ A i x) j x) = 0 := fun x => h.alt _ i j hi hj hne (by
  funext c
  show (if i = j then x c else if i = i then x c else A i c) = (if j = j then x c else _)
  rw [if_neg hne, if_pos rfl, if_pos rfl])
 have l2 : ∀ x a b (y1 y2 : Nat → Rat), E (rw_ (rw_ A i x) j fun c => a * y1 c + b * y2 c) = a * E (rw_ (rw_ A i x) j y1) + b * E (rw_ (rw_ A i x) j y2) := fun x a b y1 y2 => h.lin _ j hj a b y1 y2
 have l1 : ∀ y a b (x1 x2 : Nat → Rat), E (rw_ (rw_ A i fun c => a * x1 c + b * x2 c) j y) = a * E (rw_ (rw_ A i x1) j y) + b * E (rw_ (rw_ A i x2) j y) := fun y a b x1 x2 => by
  rw [comm, comm, comm]; exact h.lin _ i hi a b x1 x2
 have key := z (fun c => 1 * u c + 1 * v c)
 rw [l1, l2, l2, z u, z v] at key
 have hA : rw_ (rw_ A i u) j v = A := by rw [hu, rw_self, hv, rw_self]
 rw [hA] at key
 rw [← hu, ← hv]
 grind
theorem AltZ.sum {n : Nat} {E : (Nat → Nat → Rat) → Rat} (h : AltZ n E) (A : Nat → Nat → Rat) {i : Nat} (hi : i < n) (t : Nat → Rat) (f : Nat → Nat → Rat) : ∀ N, E (rw_ A i fun c => sm N fun k => t k * f k c) = sm N fun k => t k * E (rw_ A i (f k))
 | 0 => by
  have := h.lin A i hi 0 0 (fun _ => 0) (fun _ => 0)
  have e : (fun c => sm 0 fun k => t k * f k c) = fun c : Nat => (0 : Rat) * (0 : Rat) + 0 * 0 := by funext c; rw [sm_zero]; grind
  rw [e, this, sm_zero]; grind
 | N + 1 => by
  have e : (fun c => sm (N + 1) fun k => t k * f k c) = fun c => 1 * (sm N fun k => t k * f k c) + t N * f N c := by funext c; rw [sm_succ]; grind
  rw [e, h.lin A i hi, AltZ.sum h A hi t f N, sm_succ]; grind
def er (c : Nat) : Nat → Rat := fun k => if k = c then 1 else 0
theorem AltZ.perm {n : Nat} {E : (Nat → Nat → Rat) → Rat} (h : AltZ n E) : ∀ (d : Nat) (A : Nat → Nat → Rat) (s : Nat → Nat) (m : Nat), n = m + d → (∀ i, i < n → s i < n ∧ A i = er (s i)) → (∀ i, i < m → s i = i) → E A = 0
 | 0, A, s, m, hd, hA, hs => by
  rw [← h.one]
  refine h.cong _ _ fun i j hi hj => ?_
  rw [(hA i hi).2, hs i (by omega)]
  show (if j = i then (1 : Rat) else 0) = if i = j then 1 else 0
  by_cases e : i = j
  ·rw [if_pos e, if_pos e.symm]
  ·rw [if_neg e, if_neg (Ne.symm e)]
 | d + 1, A, s, m, hd, hA, hs => by
  by_cases hinj : ∃ i j, i < n ∧ j < n ∧ i ≠ j ∧ s i = s j
  ·obtain ⟨i, j, hi, hj, hne, e⟩ := hinj
   exact h.alt A i j hi hj hne (by rw [(hA i hi).2, (hA j hj).2, e])
  ·have hinj' : ∀ i j, i < n → j < n → s i = s j → i = j := fun i j hi hj e => Classical.byContradiction fun hne => hinj ⟨i, j, hi, hj, hne, e⟩
   have hex : ∃ j, j < n ∧ s j = m := by
    refine Classical.byContradiction fun hno => ?_
    have hno' : ∀ j, j < n → s j ≠ m := fun j hj e => hno ⟨j, hj, e⟩
    obtain ⟨n', rfl⟩ : ∃ n', n = n' + 1 := ⟨n - 1, by omega⟩
    obtain ⟨i, j, hij, hj, q⟩ := php n' (fun i => if s i < m then s i else s i - 1) (fun i hi => by
     have h1 := (hA i hi).1
     have h2 := hno' i hi
     show (if s i < m then s i else s i - 1) < n'
     split <;> omega)
    have h1 := hno' i (by omega)
    have h2 := hno' j hj
    have : s i = s j := by
     have q' : (if s i < m then s i else s i - 1) = (if s j < m then s j else s j - 1) := q
     split at q' <;> split at q' <;> omega
    have := hinj' i j (by omega) hj this
    omega
   obtain ⟨j, hj, e⟩ := hex
   have hjm : m ≤ j := by
    rcases Nat.lt_or_ge j m with a | a
    ·have := hs j a; omega
    ·exact a
   by_cases hjm' : j = m
   ·subst hjm'
    refine AltZ.perm h d A s (j + 1) (by omega) hA fun i hi => ?_
    rcases Nat.lt_or_ge i j with a | a
    ·exact hs i a
    ·obtain rfl : i = j := by omega
     exact e
   ·have h2 := AltZ.perm h d (rw_ (rw_ A m (A j)) j (A m)) (fun i => if i = m then s j else if i = j then s m else s i) (m + 1) (by omega) (fun i hi => by
     by_cases a : i = m
     ·subst a
      simp only [if_pos]
      refine ⟨by rw [e]; exact hi, ?_⟩
      funext c
      show (if i = j then A i c else if i = i then A j c else A i c) = _
      rw [if_neg (Ne.symm hjm'), if_pos rfl, (hA j hj).2]
     ·by_cases b : i = j
      ·subst b
       rw [if_neg a, if_pos rfl]
       refine ⟨(hA m (by omega)).1, ?_⟩
       funext c
       show (if i = i then A m c else _) = _
       rw [if_pos rfl, (hA m (by omega)).2]
      ·rw [if_neg a, if_neg b]
       refine ⟨(hA i hi).1, ?_⟩
       funext c
       show (if i = j then A m c else if i = m then A j c else A i c) = _
       rw [if_neg b, if_neg a, (hA i hi).2]) (fun i hi => by
     by_cases a : i = m
     ·simp only [if_pos a]; rw [e, a]
     ·simp only [if_neg a]
      rw [if_neg (by omega)]; exact hs i (by omega))
    have h3 := h.swap A (i := m) (j := j) (by omega) hj (Ne.symm hjm')
    rw [h2] at h3
    grind
theorem row_er (v : Nat → Rat) (n c : Nat) (h : c < n) : v c = sm n fun k => v k * er k c := by
 rw [sm_one (f := fun k => v k * er k c) h (fun i _ hne => by show v i * (if c = i then 1 else 0) = 0; rw [if_neg (Ne.symm hne)]; grind)]
 show v c = v c * (if c = c then 1 else 0)
 rw [if_pos rfl]; grind
theorem AltZ.all {n : Nat} {E : (Nat → Nat → Rat) → Rat} (h : AltZ n E) : ∀ (m : Nat), m ≤ n → ∀ (A : Nat → Nat → Rat), (∀ i, m ≤ i → i < n → ∃ c, c < n ∧ A i = er c) → E A = 0
 | 0, _, A, hA => by
  have hA' : ∀ i, ∃ c, i < n → c < n ∧ A i = er c := fun i => by
   by_cases hi : i < n
   ·obtain ⟨c, hc⟩ := hA i (Nat.zero_le _) hi; exact ⟨c, fun _ => hc⟩
   ·exact ⟨0, fun h => absurd h hi⟩
  exact h.perm n A (fun i => Classical.choose (hA' i)) 0 (by omega) (fun i hi => Classical.choose_spec (hA' i) hi) (fun i hi => by omega)
 | m + 1, hm, A, hA => by
  have e : E A = E (rw_ A m fun c => sm n fun k => A m k * er k c) := by
   refine h.cong _ _ fun i j hi hj => ?_
   unfold rw_
   split
   ·rename_i e; rw [e]; exact row_er _ _ _ hj
   ·rfl
  rw [e, h.sum A (by omega)]
  rw [show sm n (fun k => A m k * E (rw_ A m (er k))) = sm n fun _ => 0 from sm_congr fun k hk => by
   rw [AltZ.all h m (by omega) (rw_ A m (er k)) fun i hi hin => ?_]
   ·grind
   ·by_cases a : i = m
    ·exact ⟨k, hk, by subst a; funext c; show (if i = i then er k c else _) = _; rw [if_pos rfl]⟩
    ·obtain ⟨c, hc1, hc2⟩ := hA i (by omega) hin
     exact ⟨c, hc1, by rw [← hc2]; funext x; show (if i = m then er k x else A i x) = _; rw [if_neg a]⟩]
  exact sm_nil n
def mm (n : Nat) (A B : Nat → Nat → Rat) : Nat → Nat → Rat := fun i j => sm n fun k => A i k * B k j
theorem det_id (n : Nat) : det n (fun i j => if i = j then 1 else 0) = 1 := by
 induction n with
 | zero => rfl
 | succ n ih =>
  rw [det_col (k := 0) (by omega) (fun i hi hne => by rw [if_neg (by omega)])]
  have e : minor 0 (fun i j => if i = j then (1 : Rat) else 0) = fun i j => if i = j then 1 else 0 := by
   funext r c
   show (if sk 0 r = c + 1 then (1 : Rat) else 0) = _
   rw [sk_0]
   by_cases a : r = c
   ·rw [if_pos (by omega), if_pos a]
   ·rw [if_neg (by omega), if_neg a]
  rw [e, ih]; rw [sg_zero]; grind
theorem mm_rw (n : Nat) (A B : Nat → Nat → Rat) (i : Nat) (v : Nat → Rat) : mm n (rw_ A i v) B = rw_ (mm n A B) i (fun j => sm n fun k => v k * B k j) := by
 funext r c
 unfold mm rw_
 by_cases e : r = i
 ·simp only [if_pos e]
 ·simp only [if_neg e]
theorem det_mul (n : Nat) (A B : Nat → Nat → Rat) : det n (mm n A B) = det n A * det n B := by
 have hE : AltZ n (fun A => det n (mm n A B) - det n A * det n B) := by
  refine ⟨fun A i hi a b u v => ?_, fun A i j hi hj hne e => ?_, fun A A' e => ?_, ?_⟩
  ·show det n (mm n (rw_ A i _) B) - _ = _
   rw [mm_rw, mm_rw, mm_rw, det_lin A hi]
   have e : (fun j => sm n fun k => (a * u k + b * v k) * B k j) = fun j => a * (sm n fun k => u k * B k j) + b * (sm n fun k => v k * B k j) := by
    funext j
    rw [← sm_mul, ← sm_mul, ← sm_add]
    exact sm_congr fun k _ => by grind
   rw [e, det_lin _ hi]; grind
  ·show det n (mm n A B) - det n A * det n B = 0
   rw [det_equal hi hj hne e, det_equal (A := mm n A B) hi hj hne (by funext c; show sm n (fun k => A i k * B k c) = sm n (fun k => A j k * B k c); rw [e])]
   grind
  ·show det n (mm n A B) - det n A * det n B = det n (mm n A' B) - det n A' * det n B
   rw [det_congr (B := A') e, det_congr (A := mm n A B) (B := mm n A' B) fun i j hi hj => sm_congr fun k hk => by rw [e i k hi hk]]
  ·show det n (mm n _ B) - _ = 0
   rw [det_id, det_congr (A := mm n (fun i j => if i = j then 1 else 0) B) (B := B) fun i j hi hj => by
    show sm n (fun k => (if i = k then 1 else 0) * B k j) = B i j
    rw [sm_one (f := fun k => (if i = k then (1 : Rat) else 0) * B k j) hi (fun k _ hne => by show (if i = k then (1 : Rat) else 0) * B k j = 0; rw [if_neg (Ne.symm hne)]; grind)]
    show (if i = i then (1 : Rat) else 0) * B i j = _
    rw [if_pos rfl]; grind]
   grind
 have := hE.all n (Nat.le_refl _) A (fun i h1 h2 => by omega)
 grind
end Go.Hp
namespace Go.Hp
def Zdv (F G : Nat → Rat) : Prop := ∃ Q, ZI Q ∧ Fin_ Q ∧ F = cv Q G
theorem zdv_top {R G : Nat → Rat} {k : Nat} (hR : Fin_ R) (hG : Fin_ G) (h0 : G ≠ pz) (hs : Sup (k + pl G) R) (h : Zdv R G) : ∃ z : Int, R (k + pl G - 1) = (z : Rat) * ld G := by
 obtain ⟨Q, hz, hf, e⟩ := h
 have hp := pl_pos hG h0
 by_cases hQ : Q = pz
 ·refine ⟨0, ?_⟩
  rw [e, hQ, pz_cv]
  show (0 : Rat) = ((0 : Int) : Rat) * _
  simp
 ·have h1 := pl_cv hf hG hQ h0
  rw [← e] at h1
  have h2 := pl_le hs
  have h3 := pl_pos hf hQ
  have h4 : Sup (k + 1) Q := (pl_sup hf).mono (by omega)
  have h5 : Sup (pl G - 1 + 1) G := (pl_sup hG).mono (by omega)
  have h6 := cv_top h4 h5
  rw [← e, show k + (pl G - 1) = k + pl G - 1 from by omega] at h6
  rw [h6, hz.num k]
  exact ⟨_, rfl⟩
theorem zdv_rest {F G Q R : Nat → Rat} (hz : ZI Q) (hf : Fin_ Q) (e : F = pad (cv Q G) R) : Zdv F G ↔ Zdv R G := by
 constructor
 ·rintro ⟨P, h1, h2, h3⟩
  refine ⟨psb P Q, h1.psb hz, h2.psb hf, ?_⟩
  rw [psb_cv, ← h3, e]
  funext n; simp only [psb, pad]; grind
 ·rintro ⟨P, h1, h2, h3⟩
  refine ⟨pad Q P, hz.pad h1, hf.pad h2, ?_⟩
  rw [pad_cv, ← h3, e]
theorem zdv_pz (G : Nat → Rat) : Zdv pz G := ⟨pz, ZI.pz, Fin_.pz, (pz_cv G).symm⟩
theorem zdv_low {R G : Nat → Rat} (hR : Fin_ R) (hG : Fin_ G) (hs : pl R < pl G) : Zdv R G ↔ R = pz := by
 constructor
 ·rintro ⟨Q, h1, h2, h3⟩
  have h0 : G ≠ pz := fun e => by rw [e, pl_pz] at hs; omega
  refine Classical.byContradiction fun hn => ?_
  have hQ : Q ≠ pz := fun e => hn (by rw [h3, e, pz_cv])
  have := pl_cv h2 hG hQ h0
  rw [← h3] at this
  have := pl_pos h2 hQ
  omega
 ·rintro rfl; exact zdv_pz G
def ZdSt (F G : Nat → Rat) (n s t i : Nat) (Q R : Nat → Rat) : Prop :=
 (∀ j, j < i → Q j = 0) ∧ Sup n Q ∧ Sup (i + pl G - 1) R ∧ F = pad (cv Q G) R ∧ ZI Q ∧ ZI R ∧ ∀ m, qsz (R m) ≤ s + (n - i) * (t + 1)
theorem ZdSt.start {F G : Nat → Rat} {n s t : Nat} (hF : Sup (n + pl G - 1) F) (hz : ZI F) (hs : ∀ m, qsz (F m) ≤ s) : ZdSt F G n s t n pz F :=
 ⟨fun _ _ => rfl, Sup.pz _, hF, by rw [pz_cv]; funext m; simp only [pad, pz]; grind, ZI.pz, hz, fun m => by have := hs m; omega⟩
theorem qsz_quot {z : Int} {a b : Rat} (hb : b ≠ 0) (hbz : ∃ y : Int, b = (y : Rat)) (e : a = (z : Rat) * b) : qsz (z : Rat) ≤ qsz a := by
 obtain ⟨y, rfl⟩ := hbz
 rw [e, ← Rat.intCast_mul, qsz_cast, qsz_cast]
 have hy : y ≠ 0 := fun h => hb (by rw [h]; rfl)
 have : sz z.natAbs ≤ sz (z * y).natAbs := by
  refine sz_mono ?_
  rw [Int.natAbs_mul]
  exact Nat.le_mul_of_pos_right _ (by omega)
 omega
theorem ZdSt.step {F G : Nat → Rat} {n s t k : Nat} {Q R : Nat → Rat} (hG : Fin_ G) (h0 : G ≠ pz) (zG : ZI G) (hcG : ∀ m, qsz (G m) ≤ t) (h : ZdSt F G n s t (k + 1) Q R) (hk : k < n) {z : Int} (hc : R (k + pl G - 1) = (z : Rat) * ld G) :
  ZdSt F G n s t k (pad Q (mono k (z : Rat))) (psb R (cv (mono k (z : Rat)) G)) := by
 obtain ⟨h3, h4, h5, h6, h7, h8, h9⟩ := h
 have hp := pl_pos hG h0
 have hl := ld_ne hG h0
 have hz : (z : Rat) = R (k + pl G - 1) / ld G := by rw [hc]; grind
 refine ⟨fun j hj => ?_, h4.pad ((mono_sup k _).mono (by omega)), ?_, ?_, h7.pad (ZI.mono k z), h8.psb ((ZI.mono k z).cv zG), fun m => ?_⟩
 ·show Q j + mono k (z : Rat) j = 0
  rw [h3 j (by omega), mono_off (by omega)]; grind
 ·rw [hz]; exact div_step hG h0 (h5.mono (by omega))
 ·rw [pad_cv]
  funext m
  have := congrFun h6 m
  simp only [pad, psb] at this ⊢
  grind
 ·have q1 : qsz (z : Rat) ≤ qsz (R (k + pl G - 1)) := qsz_quot hl (zG _) hc
  have q2 := h9 (k + pl G - 1)
  have e : n - k = (n - (k + 1)) + 1 := by omega
  have q3 : (n - k) * (t + 1) = (n - (k + 1)) * (t + 1) + (t + 1) := by rw [e, Nat.succ_mul]
  have q4 : qsz (cv (mono k (z : Rat)) G m) ≤ qsz (z : Rat) + t := by
   rw [mono_cv]
   show qsz ((z : Rat) * sh k G m) ≤ _
   have a1 := qsz_mul (z : Rat) (sh k G m)
   have a2 : qsz (sh k G m) ≤ max t 1 := by
    unfold sh
    split
    ·have : qsz (0 : Rat) = 1 := by decide
     omega
    ·have := hcG (m - k); omega
   have a3 : 1 ≤ t := by have := hcG 0; have : 1 ≤ qsz (G 0) := by { unfold qsz; have := sz_pos (n := (G 0).den) (by have := (G 0).den_pos; omega); omega }; omega
   omega
  have q5 := qsz_subz h8 ((ZI.mono k z).cv zG) m m
  have q6 := h9 m
  show qsz (R m - cv (mono k (z : Rat)) G m) ≤ _
  omega
theorem ZdSt.end_ {F G : Nat → Rat} {n s t : Nat} {Q R : Nat → Rat} (hF : Fin_ F) (hG : Fin_ G) (h0 : G ≠ pz) (h : ZdSt F G n s t 0 Q R) : Q = pq F G ∧ R = pr F G ∧ Sup n Q ∧ ZI Q := by
 obtain ⟨h3, h4, h5, h6, h7, h8, h9⟩ := h
 have := div_eq hF hG h0 ⟨n, h4⟩ h6 (by rwa [Nat.zero_add] at h5)
 exact ⟨this.1, this.2, h4, h7⟩
theorem ZdSt.zdv {F G : Nat → Rat} {n s t i : Nat} {Q R : Nat → Rat} (h : ZdSt F G n s t i Q R) : Zdv F G ↔ Zdv R G :=
 zdv_rest h.2.2.2.2.1 ⟨n, h.2.1⟩ h.2.2.2.1
theorem ZdSt.fin {F G : Nat → Rat} {n s t i : Nat} {Q R : Nat → Rat} (h : ZdSt F G n s t i Q R) : Fin_ R := ⟨_, h.2.2.1⟩
theorem ZdSt.no {F G : Nat → Rat} {n s t k : Nat} {Q R : Nat → Rat} (hG : Fin_ G) (h0 : G ≠ pz) (zG : ZI G) (h : ZdSt F G n s t (k + 1) Q R) (hd : ¬ (ld G).num ∣ (R (k + pl G - 1)).num) : ¬ Zdv F G := by
 intro hz
 have hp := pl_pos hG h0
 obtain ⟨z, e⟩ := zdv_top (k := k) h.fin hG h0 (h.2.2.1.mono (by omega)) (h.zdv.1 hz)
 apply hd
 rw [e, show ld G = ((ld G).num : Rat) from zG.num _, num_mul]
 exact ⟨z, by rw [Int.mul_comm]; rfl⟩
theorem ZdSt.yes {F G : Nat → Rat} {n s t i m : Nat} {Q R : Nat → Rat} (zG : ZI G) (h : ZdSt F G n s t i Q R) (hd : (ld G).num ∣ (R m).num) : R m = (((R m).num / (ld G).num : Int) : Rat) * ld G := by
 have e1 : ld G = ((ld G).num : Rat) := zG.num _
 have e2 := h.2.2.2.2.2.1.num m
 have e3 := Int.ediv_mul_cancel hd
 have e4 : (((R m).num / (ld G).num : Int) : Rat) * (((ld G).num : Int) : Rat) = (((R m).num : Int) : Rat) := by rw [← Rat.intCast_mul, e3]
 rw [e2, e1]
 exact e4.symm
theorem ZdSt.out {F G : Nat → Rat} {n s t : Nat} {Q R : Nat → Rat} (hF : Fin_ F) (hG : Fin_ G) (h0 : G ≠ pz) (h : ZdSt F G n s t 0 Q R) : Zdv F G ↔ R = pz := by
 rw [h.zdv, zdv_low h.fin hG]
 have hp := pl_pos hG h0
 have := pl_le h.2.2.1
 omega
theorem subG_at (k j : Nat) (c : Rat) (R G : Nat → Rat) : subG k j c R G (k + j) = R (k + j) := by
 unfold subG; rw [if_neg (by omega)]; grind
theorem subG_num {k j : Nat} {z : Int} {R G : Nat → Rat} (hR : ZI R) (hG : ZI G) (n : Nat) : (subG k (j + 1) (z : Rat) R G n).num = if n = k + j then (R (k + j)).num - z * (G j).num else (subG k j (z : Rat) R G n).num := by
 rw [subG_succ]
 split
 ·rename_i h; subst h
  rw [subG_at, hR.num, hG.num j, ← Rat.intCast_mul, num_sub]; rfl
 ·rfl
theorem padm_num {Q : Nat → Rat} {k : Nat} {z : Int} (hQ : ZI Q) (h : Q k = 0) (n : Nat) : (pad Q (mono k (z : Rat)) n).num = if n = k then z else (Q n).num := by
 show (Q n + mono k (z : Rat) n).num = _
 by_cases e : n = k
 ·subst e; rw [if_pos rfl, h, mono_at, Rat.zero_add]; rfl
 ·rw [if_neg e, mono_off e, Rat.add_zero]
end Go.Hp
namespace Go.Hp
def IsZG (F G D : Nat → Rat) : Prop := Fin_ D ∧ ZI D ∧ (D ≠ pz → 0 < ld D) ∧ cn D = Nat.gcd (cn F) (cn G) ∧ IsG F G (mn D)
structure GzSt (F0 G0 : Nat → Rat) (D S : Nat) (A B : Nat → Rat) : Prop where
 fA : Fin_ A
 fB : Fin_ B
 zA : ZI A
 zB : ZI B
 pA : pp A = A
 pB : pp B = B
 dv : ∀ E, Fin_ E → (Dv E A ∧ Dv E B ↔ Dv E F0 ∧ Dv E G0)
 deg : pl A + pl B ≤ D
 qA : ∀ i, qsz (A i) + 1 ≤ (S + 1) * 2 ^ (D - (pl A + pl B))
 qB : ∀ i, qsz (B i) + 1 ≤ (S + 1) * 2 ^ (D - (pl A + pl B))
theorem dv_psc_iff {a : Rat} (ha : a ≠ 0) {E F : Nat → Rat} : Dv E (psc a F) ↔ Dv E F :=
 ⟨fun h => by have := h.psc (1 / a); rwa [psc_inv ha] at this, fun h => h.psc a⟩
theorem dv_pp_iff {E F : Nat → Rat} (z : ZI F) (f : Fin_ F) : Dv E (pp F) ↔ Dv E F := by
 by_cases h0 : F = pz
 ·rw [h0, pp_pz]
 ·have hn : (1 : Rat) / (pcn F : Rat) ≠ 0 := inv_ne (by have := pcn_ne z f h0; exact_mod_cast this)
  exact dv_psc_iff hn
theorem GzSt.start {F G : Nat → Rat} {S : Nat} (fF : Fin_ F) (fG : Fin_ G) (zF : ZI F) (zG : ZI G) (qF : ∀ i, qsz (F i) ≤ S) (qG : ∀ i, qsz (G i) ≤ S) : GzSt F G (pl F + pl G) S (pp F) (pp G) where
 fA := pp_fin fF
 fB := pp_fin fG
 zA := pp_zi zF fF
 zB := pp_zi zG fG
 pA := pp_pp zF fF
 pB := pp_pp zG fG
 dv := fun E _ => by rw [dv_pp_iff zF fF, dv_pp_iff zG fG]
 deg := by rw [pp_pl zF fF, pp_pl zG fG]; exact Nat.le_refl _
 qA := fun i => by have := pp_qsz zF fF qF i; have h : 0 < 2 ^ (pl F + pl G - (pl (pp F) + pl (pp G))) := Nat.pow_pos (by decide); have := Nat.le_mul_of_pos_right (S + 1) h; omega
 qB := fun i => by have := pp_qsz zG fG qG i; have h : 0 < 2 ^ (pl F + pl G - (pl (pp F) + pl (pp G))) := Nat.pow_pos (by decide); have := Nat.le_mul_of_pos_right (S + 1) h; omega
theorem GzSt.room {F0 G0 A B : Nat → Rat} {D S : Nat} (h : GzSt F0 G0 D S A B) {R : Nat → Rat} (hR : R = psR A B (pl A + 1 - pl B)) :
  (∀ i, qsz (A i) ≤ (S + 1) * 2 ^ D) ∧ (∀ i, qsz (B i) ≤ (S + 1) * 2 ^ D) ∧ (∀ i, qsz (R i) + 1 ≤ (S + 1) * 2 ^ (D - (pl A + pl B) + (pl A + 1 - pl B))) := by
 have up : ∀ a : Nat, a ≤ D → (S + 1) * 2 ^ a ≤ (S + 1) * 2 ^ D := fun a ha => Nat.mul_le_mul_left _ (Nat.pow_le_pow_right (by decide) ha)
 have h1 := up (D - (pl A + pl B)) (by omega)
 refine ⟨fun i => by have := h.qA i; omega, fun i => by have := h.qB i; omega, fun i => ?_⟩
 obtain ⟨M, hM⟩ : ∃ M, M = (S + 1) * 2 ^ (D - (pl A + pl B)) := ⟨_, rfl⟩
 have hp : 0 < M := by rw [hM]; exact Nat.mul_pos (by omega) (Nat.pow_pos (by decide))
 have h2 := psR_qsz (s := M - 1) (t := M - 1) h.zA h.zB (fun i => by have := h.qA i; omega) (fun i => by have := h.qB i; omega) (pl A + 1 - pl B) i
 rw [← hR] at h2
 rw [Nat.pow_add, ← Nat.mul_assoc, ← hM]
 have h3 := two_le_pow (pl A + 1 - pl B)
 have h4 : M * (pl A + 1 - pl B + 1) ≤ M * 2 ^ (pl A + 1 - pl B) := Nat.mul_le_mul_left _ h3
 rw [Nat.mul_succ, Nat.mul_comm M] at h4
 rw [show M - 1 + 1 = M from by omega] at h2
 omega
theorem psR_fin {F G : Nat → Rat} (hF : Fin_ F) (hG : Fin_ G) (h0 : G ≠ pz) : Fin_ (psR F G (pl F + 1 - pl G)) := by
 rw [(psR_end hF hG h0).2]; exact (pr_fin hF hG).psc _
theorem psR_top {F G : Nat → Rat} (hF : Fin_ F) (hG : Fin_ G) (h0 : G ≠ pz) : pl (psR F G (pl F + 1 - pl G)) < pl G := by
 have hp := pl_pos hG h0
 have := pl_le (((pr_sup hF hG h0).psc (ld G ^ (pl F + 1 - pl G))))
 rw [← (psR_end hF hG h0).2] at this
 omega
theorem GzSt.step {F0 G0 A B : Nat → Rat} {D S : Nat} (h : GzSt F0 G0 D S A B) (h0 : B ≠ pz) {R : Nat → Rat} (hR : R = psR A B (pl A + 1 - pl B)) :
  GzSt F0 G0 D S B (pp R) ∧ pl (pp R) < pl B := by
 have hfR : Fin_ R := by rw [hR]; exact psR_fin h.fA h.fB h0
 have hzR : ZI R := by rw [hR]; exact psR_zi h.zA h.zB _
 have htop : pl R < pl B := by rw [hR]; exact psR_top h.fA h.fB h0
 have hplR := pp_pl hzR hfR
 have hq : ∀ i, qsz (R i) + 1 ≤ (S + 1) * 2 ^ (D - (pl B + pl (pp R))) ∧ pl B + pl (pp R) ≤ D := fun i => by
  rw [hplR]
  have hd := h.deg
  rcases Nat.lt_or_ge (pl A) (pl B) with a | a
  ·have e : R = A := by rw [hR, show pl A + 1 - pl B = 0 from by omega]; rfl
   rw [e]
   have := h.qA i
   rw [Nat.add_comm (pl B)]
   exact ⟨this, hd⟩
  ·have h2 := (h.room hR).2.2 i
   exact ⟨Nat.le_trans h2 (Nat.mul_le_mul_left _ (Nat.pow_le_pow_right (by decide) (by omega))), by omega⟩
 refine ⟨⟨h.fB, pp_fin hfR, h.zB, pp_zi hzR hfR, h.pB, pp_pp hzR hfR, fun E hE => ?_, (hq 0).2, fun i => ?_, fun i => ?_⟩, by omega⟩
 ·rw [dv_pp_iff hzR hfR, ← h.dv E hE]
  have hl := pow_ne (ld_ne h.fB h0) (pl A + 1 - pl B)
  rw [hR, (psR_end h.fA h.fB h0).2, dv_psc_iff hl, dv_step]
 ·have h1 := h.qB i
  have := h.deg
  have h2 := (hq 0).2
  refine Nat.le_trans h1 (Nat.mul_le_mul_left _ (Nat.pow_le_pow_right (by decide) ?_))
  rcases Nat.lt_or_ge (pl A) (pl B) with a | a
  ·have e : R = A := by rw [hR, show pl A + 1 - pl B = 0 from by omega]; rfl
   rw [hplR, e]; omega
  ·omega
 ·have h1 := pp_qsz hzR hfR (s := (S + 1) * 2 ^ (D - (pl B + pl (pp R))) - 1) (fun i => by have := (hq i).1; omega) i
  have := (hq i).1
  omega
theorem mn_psc {a : Rat} (ha : a ≠ 0) {F : Nat → Rat} (h : Fin_ F) : mn (psc a F) = mn F := by
 by_cases h0 : F = pz
 ·rw [h0, psc_pz]
 ·have hl := ld_ne h h0
  unfold mn
  rw [ld_psc ha h, psc_psc]
  congr 1
  grind
theorem psc_zero (F : Nat → Rat) : psc 0 F = pz := by funext n; simp only [psc, pz]; grind
theorem mn_eq_pz {F : Nat → Rat} (h : Fin_ F) (e : mn F = pz) : F = pz := (pl_zero h).1 (by rw [← mn_pl h, e, pl_pz])
theorem GzSt.end_ {F0 G0 A B : Nat → Rat} {D S : Nat} (h : GzSt F0 G0 D S A B) (fF : Fin_ F0) (fG : Fin_ G0) (zF : ZI F0) (zG : ZI G0) (h0 : B = pz) :
  IsZG F0 G0 (psc ((Nat.gcd (cn F0) (cn G0) : Nat) : Rat) A) := by
 have hg : IsG F0 G0 (mn A) := by
  subst h0
  exact (IsG.zero h.fA).of h.dv
 obtain ⟨c, hc⟩ : ∃ c, c = Nat.gcd (cn F0) (cn G0) := ⟨_, rfl⟩
 rw [← hc]
 by_cases hc0 : c = 0
 ·have e1 : cn F0 = 0 := Nat.eq_zero_of_gcd_eq_zero_left (hc.symm.trans hc0)
  have e2 : cn G0 = 0 := Nat.eq_zero_of_gcd_eq_zero_right (hc.symm.trans hc0)
  have z1 : F0 = pz := Classical.byContradiction fun hn => cn_ne zF fF hn e1
  have z2 : G0 = pz := Classical.byContradiction fun hn => cn_ne zG fG hn e2
  rw [hc0]
  show IsZG F0 G0 (psc ((0 : Nat) : Rat) A)
  rw [show ((0 : Nat) : Rat) = 0 from rfl, psc_zero, z1, z2]
  refine ⟨Fin_.pz, ZI.pz, fun hn => absurd rfl hn, by rw [cn_pz]; rfl, ?_⟩
  exact IsG.zero Fin_.pz
 ·have hcr : ((c : Nat) : Rat) ≠ 0 := by exact_mod_cast hc0
  have hA : A ≠ pz := fun e => by
   rw [e, mn_pz] at hg
   have z1 := dv_pz hg.2.2.1
   have z2 := dv_pz hg.2.2.2.1
   rw [z1, z2, cn_pz] at hc
   exact hc0 hc
  have e1 : cn A = 1 := by rw [← h.pA]; exact cn_pp h.zA h.fA hA
  have e2 : 0 < ld A := by rw [← h.pA]; exact pp_lead h.zA h.fA hA
  have ci : ((c : Nat) : Rat) = (((c : Nat) : Int) : Rat) := rfl
  refine ⟨h.fA.psc _, by rw [ci]; exact h.zA.psc _, fun _ => ?_, ?_, by rw [mn_psc hcr h.fA]; exact hg⟩
  ·rw [ld_psc hcr h.fA]
   refine Rat.mul_pos ?_ e2
   exact_mod_cast Nat.pos_of_ne_zero hc0
  ·rw [ci, cn_psc (by exact_mod_cast hc0) h.zA h.fA, e1, ← hc]; simp
theorem IsZG.uniq {F G D E : Nat → Rat} (h : IsZG F G D) (k : IsZG F G E) : D = E := by
 obtain ⟨f1, z1, l1, c1, g1⟩ := h
 obtain ⟨f2, z2, l2, c2, g2⟩ := k
 have e := g1.uniq g2
 by_cases hD : D = pz
 ·have : E = pz := mn_eq_pz f2 (by rw [← e, hD, mn_pz])
  rw [hD, this]
 have hE : E ≠ pz := fun hE => hD (mn_eq_pz f1 (by rw [e, hE, mn_pz]))
 have hcD := cn_ne z1 f1 hD
 -- E = a D with a positive; the contents agree
 have lD := l1 hD; have lE := l2 hE
 have hDl := ld_ne f1 hD; have hEl := ld_ne f2 hE
 have e1 : psc (ld E) D = psc (ld D) E := by
  funext n
  have := congrFun e n
  show ld E * D n = ld D * E n
  simp only [mn, psc] at this
  have h1 : ld D * ld E * (1 / ld D * D n) = ld D * ld E * (1 / ld E * E n) := by rw [this]
  grind
 obtain ⟨x, hx⟩ : ∃ x : Int, ld D = (x : Rat) := z1 _
 obtain ⟨y, hy⟩ : ∃ y : Int, ld E = (y : Rat) := z2 _
 have hx0 : 0 < x := by rw [hx] at lD; exact_mod_cast lD
 have hy0 : 0 < y := by rw [hy] at lE; exact_mod_cast lE
 have e2 : cn (psc (ld E) D) = cn (psc (ld D) E) := by rw [e1]
 rw [hx, hy, cn_psc (by omega) z1 f1, cn_psc (by omega) z2 f2, c1, c2, ← c1] at e2
 have e3 : y.natAbs = x.natAbs := Nat.eq_of_mul_eq_mul_right (Nat.pos_of_ne_zero hcD) e2
 have e4 : x = y := by omega
 have : ld D = ld E := by rw [hx, hy, e4]
 rw [this] at e1
 funext n
 have := congrFun e1 n
 simp only [psc] at this
 grind
theorem zi_quot {F Q D : Nat → Rat} (zF : ZI F) (fF : Fin_ F) (zD : ZI D) (fD : Fin_ D) (hD : D ≠ pz) (fQ : Fin_ Q) (e : F = cv Q D) (hc : cn D ∣ cn F) : ZI Q := by
 obtain ⟨n, hs⟩ := fQ
 have fQ : Fin_ Q := ⟨n, hs⟩
 have zC := clr_zi hs
 have fC := clr_fin (n := n) fQ
 have e1 : psc (((dl n Q : Nat) : Int) : Rat) F = cv (clr n Q) D := by
  rw [e]; unfold clr; rw [psc_cv]; rfl
 have hdl := dl_pos Q n
 have e2 : cn (psc (((dl n Q : Nat) : Int) : Rat) F) = cn (cv (clr n Q) D) := by rw [e1]
 rw [cn_psc (by omega) zF fF, gauss zC zD fC fD, Int.natAbs_natCast] at e2
 obtain ⟨m, hm⟩ := hc
 have hcD := Nat.pos_of_ne_zero (cn_ne zD fD hD)
 have e3 : dl n Q * m = cn (clr n Q) := by
  refine Nat.eq_of_mul_eq_mul_right hcD ?_
  rw [← e2, hm, Nat.mul_assoc, Nat.mul_comm m]
 intro i
 have h1 := cn_dvd fC i
 have h2 : ((dl n Q : Nat) : Int) ∣ (clr n Q i).num := Int.dvd_trans ⟨(m : Int), by rw [← e3]; simp⟩ h1
 obtain ⟨k, hk⟩ := h2
 refine ⟨k, ?_⟩
 have h3 := zC.num i
 rw [hk, Rat.intCast_mul] at h3
 have h4 : clr n Q i = ((dl n Q : Nat) : Rat) * Q i := rfl
 rw [h4] at h3
 have h5 := dl_ne n Q
 have h6 : (((dl n Q : Nat) : Int) : Rat) = ((dl n Q : Nat) : Rat) := rfl
 rw [h6] at h3
 grind
theorem IsZG.zdv {F G D : Nat → Rat} (h : IsZG F G D) (zF : ZI F) (fF : Fin_ F) (hD : D ≠ pz) : Zdv F D := by
 obtain ⟨f1, z1, l1, c1, g1⟩ := h
 obtain ⟨Q, fQ, e⟩ := g1.2.2.1
 have e1 : F = cv (psc (1 / ld D) Q) D := by rw [e]; unfold mn; rw [cv_psc, psc_cv]
 exact ⟨_, zi_quot zF fF z1 f1 hD (fQ.psc _) e1 (by rw [c1]; exact Nat.gcd_dvd_left _ _), fQ.psc _, e1⟩
theorem IsG.symm_ {F G D : Nat → Rat} (h : IsG F G D) : IsG G F D := ⟨h.1, h.2.1, h.2.2.2.1, h.2.2.1, fun E hE a b => h.2.2.2.2 E hE b a⟩
theorem IsZG.symm_ {F G D : Nat → Rat} (h : IsZG F G D) : IsZG G F D := ⟨h.1, h.2.1, h.2.2.1, by rw [Nat.gcd_comm]; exact h.2.2.2.1, h.2.2.2.2.symm_⟩
theorem bez_ex : ∀ (n : Nat) {F G : Nat → Rat}, Fin_ F → Fin_ G → pl G ≤ n → ∃ U V D, Fin_ U ∧ Fin_ V ∧ IsG F G D ∧ pad (cv U F) (cv V G) = D := by
 intro n
 induction n with
 | zero =>
  intro F G fF fG hn
  have : G = pz := (pl_zero fG).1 (by omega)
  subst this
  refine ⟨psc (1 / ld F) pone, pz, mn F, Fin_.psc _ ⟨1, (Sup.pz 0).cs 1⟩, Fin_.pz, IsG.zero fF, ?_⟩
  rw [psc_cv, pone_cv, pz_cv]
  funext m; simp only [pad, pz, mn]; grind
 | succ n ih =>
  intro F G fF fG hn
  by_cases h0 : G = pz
  ·exact ih fF fG (by rw [h0, pl_pz]; omega)
  ·have hp := pl_pos fG h0
   have hr := pl_le (pr_sup fF fG h0)
   obtain ⟨U, V, D, fU, fV, hg, e⟩ := ih fG (pr_fin fF fG) (by omega)
   refine ⟨V, psb U (cv V (pq F G)), D, fV, fU.psb (fV.cv (pq_fin F G)), hg.of fun E hE => dv_step, ?_⟩
   rw [← e]
   have e1 : cv V F = pad (cv V (cv (pq F G) G)) (cv V (pr F G)) := by
    have h2 : cv V F = cv V (pad (cv (pq F G) G) (pr F G)) := by rw [← pq_pr F G]
    rw [h2, cv_pad]
   rw [e1, psb_cv, cv_assoc]
   funext m; simp only [pad, psb]; grind
theorem IsG.bez {F G D : Nat → Rat} (fF : Fin_ F) (fG : Fin_ G) (h : IsG F G D) : ∃ U V, Fin_ U ∧ Fin_ V ∧ pad (cv U F) (cv V G) = D := by
 obtain ⟨U, V, D', fU, fV, hg, e⟩ := bez_ex (pl G) fF fG (Nat.le_refl _)
 exact ⟨U, V, fU, fV, by rw [h.uniq hg]; exact e⟩
theorem Dv.cvr {D F : Nat → Rat} (h : Dv D F) (H : Nat → Rat) : Dv (Hp.cv D H) (Hp.cv F H) := by
 obtain ⟨Q, fQ, e⟩ := h
 exact ⟨Q, fQ, by rw [e, cv_assoc]⟩
theorem isG_common {F G D H P : Nat → Rat} (fF : Fin_ F) (fG : Fin_ G) (fH : Fin_ H) (h : IsG F G (mn D)) (fD : Fin_ D) {a : Rat} (ha : a ≠ 0) (hP : P = psc a (cv D H)) : IsG (cv F H) (cv G H) (mn P) := by
 have fP : Fin_ P := by rw [hP]; exact (fD.cv fH).psc a
 refine ⟨mn_fin fP, fun hn => mn_ld fP (fun e => hn (by rw [e, mn_pz])), ?_, ?_, fun E hE k1 k2 => ?_⟩
 ·have h1 : Dv (cv D H) (cv F H) := ((dv_mn D).trans h.2.2.1).cvr H
  have h2 : Dv (mn P) (cv D H) := by
   rw [hP, mn_psc ha (fD.cv fH)]; exact mn_dv (fD.cv fH)
  exact h2.trans h1
 ·have h1 : Dv (cv D H) (cv G H) := ((dv_mn D).trans h.2.2.2.1).cvr H
  have h2 : Dv (mn P) (cv D H) := by
   rw [hP, mn_psc ha (fD.cv fH)]; exact mn_dv (fD.cv fH)
  exact h2.trans h1
 ·obtain ⟨U, V, fU, fV, e⟩ := h.bez fF fG
  have h1 : Dv E (cv (mn D) H) := by
   rw [← e, pad_cv, cv_assoc, cv_assoc]
   exact (k1.mul fU).pad (k2.mul fV)
  have h2 : Dv E (cv D H) := by
   obtain ⟨Q, fQ, e2⟩ := mn_dv fD
   rw [e2, cv_assoc]; exact h1.mul fQ
  rw [dv_mn_iff fP, hP, dv_psc_iff ha]; exact h2
theorem IsZG.common {F G D H E : Nat → Rat} (fF : Fin_ F) (fG : Fin_ G) (zF : ZI F) (zG : ZI G) (fH : Fin_ H) (zH : ZI H) (h : IsZG F G D) (k : IsZG (cv F H) (cv G H) E) : E = cv D H ∨ E = psc ((-1 : Int) : Rat) (cv D H) := by
 obtain ⟨f1, z1, l1, c1, g1⟩ := h
 have hcn : ∀ a : Int, a.natAbs = 1 → cn (psc (a : Rat) (cv D H)) = Nat.gcd (cn (cv F H)) (cn (cv G H)) := fun a ha => by
  rw [cn_psc (by omega) (z1.cv zH) (f1.cv fH), ha, Nat.one_mul, gauss z1 zH f1 fH, gauss zF zH fF fH, gauss zG zH fG fH, c1, Nat.gcd_mul_right]
 have key : ∀ a : Int, a.natAbs = 1 → (cv D H ≠ pz → 0 < (a : Rat) * ld (cv D H)) → E = psc (a : Rat) (cv D H) := fun a ha hl => by
  have ha0 : (a : Rat) ≠ 0 := by
   have : a ≠ 0 := by omega
   exact_mod_cast this
  refine k.uniq ⟨(f1.cv fH).psc _, (z1.cv zH).psc a, fun hn => ?_, hcn a ha, isG_common fF fG fH g1 f1 ha0 rfl⟩
  rw [ld_psc ha0 (f1.cv fH)]
  exact hl fun e => hn (by rw [e, psc_pz])
 by_cases hp : 0 < ld (cv D H)
 ·refine .inl ?_
  have := key 1 rfl (fun _ => by simpa using hp)
  rwa [show (((1 : Int)) : Rat) = 1 from rfl, psc_one] at this
 ·refine .inr (key (-1) rfl (fun hn => ?_))
  have := ld_ne (f1.cv fH) hn
  have e : (((-1 : Int)) : Rat) = -1 := rfl
  rw [e]
  have h2 : ld (cv D H) < 0 := Rat.lt_of_le_of_ne (Rat.not_lt.1 hp) this
  grind
theorem GzSt.run {F0 G0 : Nat → Rat} {D S : Nat} : ∀ (n : Nat) {A B : Nat → Rat}, GzSt F0 G0 D S A B → pl B ≤ n → ∃ A', GzSt F0 G0 D S A' pz := by
 intro n
 induction n with
 | zero =>
  intro A B h hn
  have : B = pz := (pl_zero h.fB).1 (by omega)
  subst this
  exact ⟨A, h⟩
 | succ n ih =>
  intro A B h hn
  by_cases h0 : B = pz
  ·subst h0; exact ⟨A, h⟩
  ·obtain ⟨h1, h2⟩ := h.step h0 rfl
   exact ih h1 (by omega)
open Classical in
/-- The greatest common divisor over the integers. -/
noncomputable def zgc (F G : Nat → Rat) : Nat → Rat := if h : ∃ D, IsZG F G D then h.choose else pz
theorem zgc_eq {F G D : Nat → Rat} (h : IsZG F G D) : zgc F G = D := by
 have hx : ∃ D, IsZG F G D := ⟨D, h⟩
 unfold zgc
 rw [dif_pos hx]
 exact hx.choose_spec.uniq h
theorem one_le_qsz (q : Rat) : 1 ≤ qsz q := by
 unfold qsz
 have := sz_pos (n := q.den) (by have := q.den_pos; omega)
 omega
theorem zgc_all {F G : Nat → Rat} {S : Nat} (fF : Fin_ F) (fG : Fin_ G) (zF : ZI F) (zG : ZI G) (qF : ∀ i, qsz (F i) ≤ S) (qG : ∀ i, qsz (G i) ≤ S) : IsZG F G (zgc F G) ∧ ∀ i, qsz (zgc F G i) ≤ S + (S + 1) * 2 ^ (pl F + pl G) := by
 obtain ⟨A, h⟩ := (GzSt.start fF fG zF zG qF qG).run (pl (pp G)) (Nat.le_refl _)
 have h1 := h.end_ fF fG zF zG rfl
 have h2 := zgc_eq h1
 rw [h2]
 refine ⟨h1, fun i => ?_⟩
 have h3 := qsz_mul (((Nat.gcd (cn F) (cn G) : Nat)) : Rat) (A i)
 have h4 := (h.room rfl).1 i
 have h5 : qsz (((Nat.gcd (cn F) (cn G) : Nat)) : Rat) ≤ S := by
  show qsz ((((Nat.gcd (cn F) (cn G) : Nat) : Int)) : Rat) ≤ S
  rw [qsz_cast]
  have a1 := one_le_qsz (F 0)
  have a2 := qF 0
  have b1 := cn_sz qF (pl F)
  have b2 : sz (Nat.gcd (cn F) (cn G)) ≤ S := by
   by_cases e : cn F = 0
   ·have b3 := cn_sz qG (pl G)
    rw [e, Nat.gcd_zero_left]; exact b3
   ·exact Nat.le_trans (sz_mono (Nat.gcd_le_left _ (Nat.pos_of_ne_zero e))) b1
  simp only [Int.natAbs_natCast]
  omega
 show qsz ((((Nat.gcd (cn F) (cn G) : Nat)) : Rat) * A i) ≤ _
 omega
end Go.Hp
namespace Go.Hp
theorem sm_rev (f : Nat → Rat) : ∀ n, sm (n + 1) f = sm (n + 1) fun i => f (n - i)
 | 0 => by rw [sm_succ, sm_succ, sm_zero, sm_zero]
 | n + 1 => by
  rw [sm_succ, sm_rev f n, sm_front (n + 1)]
  rw [show sm (n + 1) (fun i => f (n + 1 - (i + 1))) = sm (n + 1) (fun i => f (n - i)) from sm_congr fun i _ => by congr 1; omega]
  rw [Nat.sub_zero]; grind
theorem conv {N p q j : Nat} {X Y : Nat → Rat} (hp : p < N) (hX : Sup (p + 1) X) :
  sm N (fun c => (if c ≤ p then X (p - c) else 0) * (if j ≤ q + c then Y (q + c - j) else 0)) = if j ≤ p + q then cv X Y (p + q - j) else 0 := by
 have h1 : sm N (fun c => (if c ≤ p then X (p - c) else 0) * (if j ≤ q + c then Y (q + c - j) else 0)) = sm (p + 1) (fun c => (if c ≤ p then X (p - c) else 0) * (if j ≤ q + c then Y (q + c - j) else 0)) :=
  sm_tail (fun i hi => by rw [if_neg (by omega)]; grind) (by omega)
 rw [h1, sm_rev]
 by_cases hj : j ≤ p + q
 ·rw [if_pos hj, cv_at hX]
  refine sm_congr fun i hi => ?_
  rw [if_pos (by omega), show p - (p - i) = i from by omega]
  by_cases a : i ≤ p + q - j
  ·rw [if_pos (by omega), if_pos a]; congr 2; omega
  ·rw [if_neg (by omega), if_neg a]
 ·rw [if_neg hj]
  rw [show sm (p + 1) (fun i => (if p - i ≤ p then X (p - (p - i)) else 0) * (if j ≤ q + (p - i) then Y (q + (p - i) - j) else 0)) = sm (p + 1) fun _ => 0 from sm_congr fun i hi => by
   rw [if_neg (show ¬ j ≤ q + (p - i) by omega)]; grind]
  exact sm_nil _
def bd (n : Nat) (S : Nat → Nat → Rat) : Nat → Nat → Rat := fun i c => if i < n then (if c < n then S i c else 0) else if i = c then 1 else 0
theorem det_bd : ∀ (n k : Nat) (S : Nat → Nat → Rat), det (n + k) (bd n S) = det n S
 | 0, k, S => by
  rw [Nat.zero_add, det_zero, ← det_id k]
  exact det_congr fun i j _ _ => by unfold bd; rw [if_neg (by omega)]
 | n + 1, k, S => by
  rw [show n + 1 + k = (n + k) + 1 from by omega, det_succ, det_succ]
  have h1 : sm (n + k + 1) (fun i => sg i * bd (n + 1) S i 0 * det (n + k) (minor i (bd (n + 1) S))) = sm (n + 1) (fun i => sg i * bd (n + 1) S i 0 * det (n + k) (minor i (bd (n + 1) S))) := by
   have key : ∀ b, n + 1 ≤ b → sm b (fun i => sg i * bd (n + 1) S i 0 * det (n + k) (minor i (bd (n + 1) S))) = sm (n + 1) (fun i => sg i * bd (n + 1) S i 0 * det (n + k) (minor i (bd (n + 1) S))) := fun b hb =>
    sm_tail (fun i hi => by unfold bd; rw [if_neg (by omega), if_neg (by omega)]; grind) hb
   exact key _ (by omega)
  rw [h1]
  refine sm_congr fun i hi => ?_
  have e1 : bd (n + 1) S i 0 = S i 0 := by unfold bd; rw [if_pos hi, if_pos (by omega)]
  have e2 : det (n + k) (minor i (bd (n + 1) S)) = det (n + k) (bd n (minor i S)) := by
   refine det_congr fun r c _ _ => ?_
   unfold minor bd sk
   by_cases a : r < i
   ·simp only [if_pos a]
    rw [if_pos (show r < n + 1 by omega), if_pos (show r < n by omega)]
    by_cases b : c < n
    ·rw [if_pos (show c + 1 < n + 1 by omega), if_pos b]
    ·rw [if_neg (show ¬ c + 1 < n + 1 by omega), if_neg b]
   ·simp only [if_neg a]
    by_cases d : r < n
    ·rw [if_pos (show r + 1 < n + 1 by omega), if_pos d]
     by_cases b : c < n
     ·rw [if_pos (show c + 1 < n + 1 by omega), if_pos b]
     ·rw [if_neg (show ¬ c + 1 < n + 1 by omega), if_neg b]
    ·rw [if_neg (show ¬ r + 1 < n + 1 by omega), if_neg d]
     by_cases b : r = c
     ·rw [if_pos (by omega), if_pos b]
     ·rw [if_neg (by omega), if_neg b]
  rw [e1, e2, det_bd n k (minor i S)]
def gx (n k m : Nat) (G : Nat → Rat) : Nat → Nat → Rat := fun i c =>
 if i < k then (if c < n + k then (if c ≤ n + i then G (n + i - c) else 0) else 0)
 else if i < k + m then (if c = n + i then 1 else 0) else (if c + m = i then 1 else 0)
theorem det_gx {n m : Nat} {G : Nat → Rat} (hG : Sup (n + 1) G) : ∀ k, det (k + m + n) (gx n k m G) = sg (m * n) * G n ^ k
 | 0 => by
  have h1 : det (m + n) (syl n pone m (mono m 1)) = sg (m * n) * rsf m (mono m 1) n pone := by
   rw [show m + n = n + m from by omega]
   exact rsf_sym (m := m) (n := n) (F := mono m 1) (G := pone) (mono_sup m 1) (((Sup.pz 0).cs 1).mono (by omega))
  have h2 : rsf m (mono m 1) n pone = 1 := by
   refine (det_congr (B := fun i j => if i = j then 1 else 0) fun i j _ _ => ?_).trans (det_id (m + n))
   unfold syl
   by_cases a : i < n
   ·rw [if_pos a]
    by_cases b : j ≤ m + i
    ·rw [if_pos b]; unfold mono
     by_cases c : i = j
     ·rw [if_pos (by omega), if_pos c]
     ·rw [if_neg (by omega), if_neg c]
    ·rw [if_neg b, if_neg (by omega)]
   ·rw [if_neg a]
    by_cases b : j ≤ i
    ·rw [if_pos b]
     by_cases c : i = j
     ·subst c; rw [Nat.sub_self, if_pos rfl]; rfl
     ·rw [if_neg c]
      obtain ⟨d, hd⟩ : ∃ d, i - j = d + 1 := ⟨i - j - 1, by omega⟩
      rw [hd]; rfl
    ·rw [if_neg b, if_neg (by omega)]
  rw [h2, Rat.mul_one] at h1
  rw [Nat.zero_add, Rat.pow_zero, Rat.mul_one, ← h1]
  refine det_congr fun i j _ _ => ?_
  unfold gx syl
  rw [if_neg (by omega)]
  by_cases a : i < m
  ·rw [if_pos (by omega), if_pos a]
   by_cases b : j = n + i
   ·rw [if_pos b, if_pos (by omega), show n + i - j = 0 from by omega]; rfl
   ·rw [if_neg b]
    by_cases c : j ≤ n + i
    ·rw [if_pos c]
     obtain ⟨d, hd⟩ : ∃ d, n + i - j = d + 1 := ⟨n + i - j - 1, by omega⟩
     rw [hd]; rfl
    ·rw [if_neg c]
  ·rw [if_neg (by omega), if_neg a]
   by_cases b : j + m = i
   ·rw [if_pos b, if_pos (by omega)]; unfold mono; rw [if_pos (by omega)]
   ·rw [if_neg b]
    by_cases c : j ≤ i
    ·rw [if_pos c]; unfold mono; rw [if_neg (by omega)]
    ·rw [if_neg c]
 | k + 1 => by
  rw [show k + 1 + m + n = (k + m + n) + 1 from by omega, det_col (k := 0) (by omega) (fun i hi hne => by
   unfold gx
   by_cases a : i < k + 1
   ·rw [if_pos a, if_pos (by omega), if_pos (by omega)]; exact hG _ (by omega)
   ·rw [if_neg a]
    by_cases b : i < k + 1 + m
    ·rw [if_pos b, if_neg (by omega)]
    ·rw [if_neg b, if_neg (by omega)])]
  have e1 : gx n (k + 1) m G 0 0 = G n := by unfold gx; rw [if_pos (by omega), if_pos (by omega), if_pos (by omega)]; rfl
  have e2 : det (k + m + n) (minor 0 (gx n (k + 1) m G)) = det (k + m + n) (gx n k m G) := by
   refine det_congr fun r c _ _ => ?_
   show gx n (k + 1) m G (sk 0 r) (c + 1) = _
   rw [sk_0]
   unfold gx
   by_cases a : r < k
   ·rw [if_pos (by omega), if_pos a]
    by_cases b : c < n + k
    ·rw [if_pos (by omega), if_pos b]
     by_cases d : c ≤ n + r
     ·rw [if_pos (by omega), if_pos d]; congr 1; omega
     ·rw [if_neg (by omega), if_neg d]
    ·rw [if_neg (by omega), if_neg b]
   ·rw [if_neg (by omega), if_neg a]
    by_cases b : r < k + m
    ·rw [if_pos (by omega), if_pos b]
     by_cases d : c = n + r
     ·rw [if_pos (by omega), if_pos d]
     ·rw [if_neg (by omega), if_neg d]
    ·rw [if_neg (by omega), if_neg b]
     by_cases d : c + m = r
     ·rw [if_pos (by omega), if_pos d]
     ·rw [if_neg (by omega), if_neg d]
  rw [e1, e2, det_gx hG k, sg_zero, Rat.pow_succ]; grind
theorem sm_cut {N : Nat} {f : Nat → Rat} {a : Nat} (ha : a ≤ N) (h : ∀ i, a ≤ i → i < N → f i = 0) : sm N f = sm a f := by
 obtain ⟨d, rfl⟩ : ∃ d, N = a + d := ⟨N - a, by omega⟩
 induction d with
 | zero => rfl
 | succ d ih => rw [← Nat.add_assoc, sm_succ, h (a + d) (by omega) (by omega), ih (by omega) (fun i h1 h2 => h i h1 (by omega))]; grind
theorem mm_eq {m n k : Nat} {F G H : Nat → Rat} (hF : Sup (m + 1) F) (hG : Sup (n + 1) G) (hH : Sup (k + 1) H) (i j : Nat) (hi : i < k + m + n) (hj : j < k + m + n) :
  mm (k + m + n) (bd (m + k) (syl m F k H)) (syl n G (m + k) F) i j = mm (k + m + n) (gx n k m G) (syl m F (n + k) (cv G H)) i j := by
 unfold mm
 by_cases a : i < k
 ·-- u' F G
  have l1 : sm (k + m + n) (fun c => bd (m + k) (syl m F k H) i c * syl n G (m + k) F c j) = sm (m + k) (fun c => (if c ≤ m + i then F (m + i - c) else 0) * (if j ≤ n + c then G (n + c - j) else 0)) := by
   rw [sm_cut (a := m + k) (by omega) (fun c h1 h2 => by unfold bd; rw [if_pos (show i < m + k by omega), if_neg (show ¬ c < m + k by omega)]; grind)]
   refine sm_congr fun c hc => ?_
   unfold bd syl
   rw [if_pos (show i < m + k by omega), if_pos hc, if_pos a, if_pos hc]
  have l2 : sm (k + m + n) (fun c => gx n k m G i c * syl m F (n + k) (cv G H) c j) = sm (n + k) (fun c => (if c ≤ n + i then G (n + i - c) else 0) * (if j ≤ m + c then F (m + c - j) else 0)) := by
   rw [sm_cut (a := n + k) (by omega) (fun c h1 h2 => by unfold gx; rw [if_pos a, if_neg (show ¬ c < n + k by omega)]; grind)]
   refine sm_congr fun c hc => ?_
   unfold gx syl
   rw [if_pos a, if_pos hc, if_pos hc]
  rw [l1, l2, conv (by omega) (hF.mono (by omega)), conv (by omega) (hG.mono (by omega)), cv_comm G F]
  by_cases b : j ≤ m + i + n
  ·rw [if_pos b, if_pos (by omega)]; congr 1; omega
  ·rw [if_neg b, if_neg (by omega)]
 ·by_cases b : i < k + m
  ·have l1 : sm (k + m + n) (fun c => bd (m + k) (syl m F k H) i c * syl n G (m + k) F c j) = sm (m + k) (fun c => (if c ≤ i then H (i - c) else 0) * (if j ≤ n + c then G (n + c - j) else 0)) := by
    rw [sm_cut (a := m + k) (by omega) (fun c h1 h2 => by unfold bd; rw [if_pos (show i < m + k by omega), if_neg (show ¬ c < m + k by omega)]; grind)]
    refine sm_congr fun c hc => ?_
    unfold bd syl
    rw [if_pos (show i < m + k by omega), if_pos hc, if_neg a, if_pos hc]
   have l2 : sm (k + m + n) (fun c => gx n k m G i c * syl m F (n + k) (cv G H) c j) = if j ≤ n + i then cv G H (n + i - j) else 0 := by
    rw [sm_one (k := n + i) (by omega) (fun c hc hne => by unfold gx; rw [if_neg a, if_pos b, if_neg hne]; grind)]
    unfold gx syl
    rw [if_neg a, if_pos b, if_pos rfl, if_neg (show ¬ n + i < n + k by omega)]; grind
   rw [l1, l2, conv (by omega) (hH.mono (by omega)), cv_comm H G]
   by_cases d : j ≤ i + n
   ·rw [if_pos d, if_pos (by omega)]; congr 1; omega
   ·rw [if_neg d, if_neg (by omega)]
  ·have l1 : sm (k + m + n) (fun c => bd (m + k) (syl m F k H) i c * syl n G (m + k) F c j) = if j ≤ i then F (i - j) else 0 := by
    rw [sm_one (k := i) hi (fun c hc hne => by unfold bd; rw [if_neg (show ¬ i < m + k by omega), if_neg (Ne.symm hne)]; grind)]
    unfold bd syl
    rw [if_neg (show ¬ i < m + k by omega), if_pos rfl, if_neg (show ¬ i < m + k by omega)]; grind
   have l2 : sm (k + m + n) (fun c => gx n k m G i c * syl m F (n + k) (cv G H) c j) = if j ≤ i then F (i - j) else 0 := by
    rw [sm_one (k := i - m) (by omega) (fun c hc hne => by unfold gx; rw [if_neg a, if_neg b, if_neg (by omega)]; grind)]
    unfold gx syl
    rw [if_neg a, if_neg b, if_pos (by omega), if_pos (show i - m < n + k by omega)]
    by_cases d : j ≤ i
    ·rw [if_pos (by omega), if_pos d, show m + (i - m) - j = i - j from by omega]; grind
    ·rw [if_neg (by omega), if_neg d]; grind
   rw [l1, l2]
theorem rsf_mul {m n k : Nat} {F G H : Nat → Rat} (hF : Sup (m + 1) F) (hG : Sup (n + 1) G) (hH : Sup (k + 1) H) (h0 : G n ≠ 0) : rsf m F (n + k) (cv G H) = rsf m F n G * rsf m F k H := by
 have e : det (k + m + n) (mm (k + m + n) (bd (m + k) (syl m F k H)) (syl n G (m + k) F)) = det (k + m + n) (mm (k + m + n) (gx n k m G) (syl m F (n + k) (cv G H))) :=
  det_congr fun i j hi hj => mm_eq hF hG hH i j hi hj
 rw [det_mul, det_mul, det_gx hG] at e
 have e1 : det (k + m + n) (bd (m + k) (syl m F k H)) = rsf m F k H := by
  rw [show k + m + n = (m + k) + n from by omega]; exact det_bd _ _ _
 have e2 : det (k + m + n) (syl n G (m + k) F) = sg (m * n) * G n ^ k * rsf m F n G := by
  have h1 : rsf n G (m + k) F = sg ((m + k) * n) * rsf (m + k) F n G := rsf_sym (hF.mono (by omega)) hG
  have h2 := rsf_down (r := m) (n := n) (R := F) (G := G) hF hG k
  have h3 : det (k + m + n) (syl n G (m + k) F) = rsf n G (m + k) F := by unfold rsf; rw [show n + (m + k) = k + m + n from by omega]
  rw [h3, h1, h2]
  have h4 : sg ((m + k) * n) * sg (n * k) = sg (m * n) := by
   rw [Nat.add_mul, sg_add, Nat.mul_comm k n]
   have := sg_sq (n * k)
   rw [Rat.mul_assoc, this, Rat.mul_one]
  rw [← h4]; grind
 have e3 : det (k + m + n) (syl m F (n + k) (cv G H)) = rsf m F (n + k) (cv G H) := by unfold rsf; rw [show m + (n + k) = k + m + n from by omega]
 rw [e1, e2, e3] at e
 have n1 : sg (m * n) ≠ 0 := fun h => by have := sg_sq (m * n); rw [h] at this; grind
 have n2 : G n ^ k ≠ 0 := pow_ne h0 k
 have n3 : sg (m * n) * G n ^ k ≠ 0 := fun h => by
  rcases Rat.mul_eq_zero.1 h with h | h
  ·exact n1 h
  ·exact n2 h
 have e4 : sg (m * n) * G n ^ k * (rsf m F (n + k) (cv G H)) = sg (m * n) * G n ^ k * (rsf m F n G * rsf m F k H) := by rw [← e]; grind
 have e5 : sg (m * n) * G n ^ k * (rsf m F (n + k) (cv G H) - rsf m F n G * rsf m F k H) = 0 := by grind
 rcases Rat.mul_eq_zero.1 e5 with h | h
 ·exact absurd h n3
 ·grind
theorem res_mul {F G H : Nat → Rat} (fF : Fin_ F) (fG : Fin_ G) (fH : Fin_ H) : res F (cv G H) = res F G * res F H := by
 by_cases hF : F = pz
 ·rw [hF]; unfold res; rw [if_pos (.inl pl_pz), if_pos (.inl pl_pz)]; grind
 by_cases hG : G = pz
 ·rw [hG, pz_cv]; unfold res; rw [if_pos (.inr pl_pz)]; grind
 by_cases hH : H = pz
 ·rw [hH, cv_pz]; unfold res; rw [if_pos (.inr pl_pz)]; grind
 have hc : cv G H ≠ pz := fun e => (cv_eq_zero fG fH e).elim hG hH
 rw [res_eq fF (fG.cv fH) hF hc, res_eq fF fG hF hG, res_eq fF fH hF hH, pl_cv fG fH hG hH]
 have p1 := pl_pos fG hG
 have p2 := pl_pos fH hH
 rw [show pl G + pl H - 1 - 1 = (pl G - 1) + (pl H - 1) from by omega]
 exact rsf_mul (sup_top fF) (sup_top fG) (sup_top fH) (pl_top fG p1)
theorem pone_ne : pone ≠ pz := fun e => by have := congrFun e 0; exact absurd this (by decide)
theorem res_zero_iff {F G D : Nat → Rat} (fF : Fin_ F) (fG : Fin_ G) (hF : F ≠ pz) (hG : G ≠ pz) (hD : IsG F G D) : res F G = 0 ↔ 1 < pl D := by
 have fD := hD.1
 have hDn : D ≠ pz := fun e => by
  have := hD.2.2.1
  rw [e] at this
  exact hF (dv_pz this)
 have pD := pl_pos fD hDn
 constructor
 ·intro h
  refine Classical.byContradiction fun hn => ?_
  have hp1 : pl D = 1 := by omega
  obtain ⟨U, V, fU, fV, e⟩ := hD.bez fF fG
  -- U F + V G = D, a constant
  have h1 : res F (cv V G) = 0 := by rw [res_mul fF fV fG, h]; grind
  have hsD : Sup 1 D := by rw [← hp1]; exact pl_sup fD
  have hd0 : D 0 ≠ 0 := by have := pl_top fD pD; rwa [hp1] at this
  -- V G = D - U F
  have e2 : cv V G = pad D (cv (psc (-1) U) F) := by
   rw [psc_cv, ← e]; funext n; simp only [pad, psc]; grind
  obtain ⟨N, hN1, hN2⟩ : ∃ N, Sup (N + 1) (cv V G) ∧ Sup (N - (pl F - 1) + 1) (psc (-1) U) ∧ pl F - 1 ≤ N := by
   obtain ⟨a, ha⟩ := fV.cv fG
   obtain ⟨b, hb⟩ := fU.psc (-1)
   exact ⟨a + b + pl F, ha.mono (by omega), hb.mono (by omega), by omega⟩
  have h2 : rsf (pl F - 1) F N (cv V G) = F (pl F - 1) ^ N * D 0 ^ 0 * 1 ∨ True := .inr trivial
  have hlF : F (pl F - 1) ≠ 0 := pl_top fF (pl_pos fF hF)
  have h3 : rsf (pl F - 1) F N (cv V G) = rsf (pl F - 1) F N D := by
   rw [e2]; exact rsf_red' hN2.2 hN2.1
  have up : ∀ (N r : Nat) (R : Nat → Rat), Sup (r + 1) R → r ≤ N → rsf (pl F - 1) F N R = F (pl F - 1) ^ (N - r) * rsf (pl F - 1) F r R := by
   intro N r R hR hr
   obtain ⟨d, rfl⟩ : ∃ d, N = r + d := ⟨N - r, by omega⟩
   clear hr
   induction d with
   | zero => rw [Nat.add_zero, Nat.sub_self, Rat.pow_zero, Rat.one_mul]
   | succ d ih =>
    rw [← Nat.add_assoc]
    have hs : rsf (pl F - 1) F (r + d + 1) R = F (pl F - 1) * rsf (pl F - 1) F (r + d) R := by
     obtain ⟨q, hq⟩ : ∃ q, q = pl F - 1 := ⟨_, rfl⟩
     rw [← hq]
     exact rsf_g0 (m := q) (n := r + d) (by rw [hq]; exact sup_top fF) (.inr (hR.mono (by omega)))
    rw [hs, ih, show r + d + 1 - r = (r + d - r) + 1 from by omega, Rat.pow_succ]; grind
  have h4 : rsf (pl F - 1) F N D = F (pl F - 1) ^ N * D 0 ^ (pl F - 1) := by
   rw [up N 0 D hsD (Nat.zero_le _), Nat.sub_zero, rsf_gc F hsD]
  have h5 : rsf (pl F - 1) F N (cv V G) ≠ 0 := by
   rw [h3, h4]
   intro h
   rcases Rat.mul_eq_zero.1 h with h | h
   ·exact pow_ne hlF _ h
   ·exact pow_ne hd0 _ h
  by_cases hV : cv V G = pz
  ·rw [hV] at h5
   have : rsf (pl F - 1) F N pz = F (pl F - 1) ^ N * rsf (pl F - 1) F 0 pz := by rw [up N 0 pz (Sup.pz _) (Nat.zero_le _), Nat.sub_zero]
   by_cases hpF : pl F = 1
   ·-- then D divides, and V G = D - U F with everything constant: V = 0 means G = 0 or V = 0
    have hVz : V = pz := (cv_eq_zero fV fG hV).resolve_right hG
    have e3 : cv U F = D := by rw [← e, hV]; funext n; simp only [pad, pz]; grind
    -- the resultant of a constant with G is a power of the constant
    rw [res_eq fF fG hF hG, hpF, Nat.sub_self, rsf_fc (by rw [← hpF]; exact pl_sup fF)] at h
    rw [hpF] at hlF
    exact pow_ne hlF _ h
   ·rw [this, rsf_gc F (Sup.pz 1)] at h5
    have : (pz 0 : Rat) ^ (pl F - 1) = 0 := by
     obtain ⟨q, hq⟩ : ∃ q, pl F - 1 = q + 1 := ⟨pl F - 2, by have := pl_pos fF hF; omega⟩
     rw [hq, Rat.pow_succ]; show _ * (0 : Rat) = 0; grind
    rw [this] at h5
    exact h5 (by grind)
  ·have h6 := h1
   rw [res_eq fF (fV.cv fG) hF hV] at h6
   have hle : pl (cv V G) - 1 ≤ N := by have := pl_le hN1; omega
   rw [up N (pl (cv V G) - 1) (cv V G) (sup_top (fV.cv fG)) hle, h6] at h5
   exact h5 (by grind)
 ·intro hp
  obtain ⟨Q, fQ, e⟩ := hD.2.2.1
  obtain ⟨P, fP, e2⟩ := hD.2.2.2.1
  have hQ : Q ≠ pz := fun h => hF (by rw [e, h, pz_cv])
  have h1 : res F D = 0 := by
   rw [res_swap fF fD hF hDn]
   have : res D F = 0 := by
    rw [res_eq fD fF hDn hF]
    have hpl := pl_cv fQ fD hQ hDn
    rw [← e] at hpl
    have pQ := pl_pos fQ hQ
    have e3 : F = pad pz (cv Q D) := by rw [e]; funext n; simp only [pad, pz]; grind
    have h2 : rsf (pl D - 1) D (pl F - 1) (pad pz (cv Q D)) = rsf (pl D - 1) D (pl F - 1) pz := rsf_red' (by omega) ((pl_sup fQ).mono (by omega))
    have h3 : rsf (pl D - 1) D (pl F - 1) pz = 0 := by
     have h4 : rsf (pl F - 1) pz (pl D - 1) D = sg ((pl D - 1) * (pl F - 1)) * rsf (pl D - 1) D (pl F - 1) pz := rsf_sym (sup_top fD) (Sup.pz _)
     rw [rsf_pz D (by omega)] at h4
     have n1 : sg ((pl D - 1) * (pl F - 1)) ≠ 0 := fun h => by have := sg_sq ((pl D - 1) * (pl F - 1)); rw [h] at this; grind
     rcases Rat.mul_eq_zero.1 h4.symm with h | h
     ·exact absurd h n1
     ·exact h
    rw [← e3] at h2
    rw [h2, h3]
   rw [this]; grind
  rw [e2, res_mul fF fP fD, h1]; grind
end Go.Hp
namespace Go.Hp
def Zs_ (s : Nat) (q : Rat) : Prop := ∃ z : Int, q = (z : Rat) ∧ z.natAbs < bp s
theorem Zs_.mul {s t : Nat} {p q : Rat} (h : Zs_ s p) (k : Zs_ t q) : Zs_ (s + t) (p * q) := by
 obtain ⟨x, rfl, hx⟩ := h
 obtain ⟨y, rfl, hy⟩ := k
 refine ⟨x * y, (Rat.intCast_mul x y).symm, ?_⟩
 rw [Int.natAbs_mul, bp_add]
 exact Nat.mul_lt_mul'' hx hy
theorem Zs_.sg {s : Nat} {q : Rat} (h : Zs_ s q) (i : Nat) : Zs_ s (Hp.sg i * q) := by
 obtain ⟨x, rfl, hx⟩ := h
 unfold Hp.sg
 split
 ·exact ⟨x, by grind, hx⟩
 ·exact ⟨-x, by rw [Rat.intCast_neg]; grind, by rw [Int.natAbs_neg]; exact hx⟩
theorem sm_zs {s : Nat} {f : Nat → Rat} : ∀ {k : Nat}, (∀ i, i < k → Zs_ s (f i)) → ∃ z : Int, sm k f = (z : Rat) ∧ z.natAbs ≤ k * bp s
 | 0, _ => ⟨0, rfl, by simp⟩
 | k + 1, h => by
  obtain ⟨z, e, hz⟩ := sm_zs (k := k) fun i hi => h i (by omega)
  obtain ⟨y, e2, hy⟩ := h k (by omega)
  refine ⟨z + y, by rw [sm_succ, e, e2, Rat.intCast_add], ?_⟩
  have := Int.natAbs_add_le z y
  rw [Nat.succ_mul]; omega
theorem Zs_.up {s t : Nat} {q : Rat} (h : Zs_ s q) (k : s ≤ t) : Zs_ t q := by
 obtain ⟨x, rfl, hx⟩ := h
 exact ⟨x, rfl, Nat.lt_of_lt_of_le hx (bp_le k)⟩
theorem det_zs {s : Nat} : ∀ {n : Nat} {A : Nat → Nat → Rat}, n < 4294967295 → (∀ i j, Zs_ s (A i j)) → Zs_ (n * (s + 1) + 1) (det n A)
 | 0, A, _, _ => ⟨1, rfl, by show 1 < bp (0 * (s + 1) + 1); rw [Nat.zero_mul, Nat.zero_add]; decide⟩
 | n + 1, A, hn, h => by
  rw [det_succ]
  have h1 : ∀ i, i < n + 1 → Zs_ (s + (n * (s + 1) + 1)) (sg i * A i 0 * det n (minor i A)) := fun i _ => by
   have h2 : Zs_ (n * (s + 1) + 1) (det n (minor i A)) := det_zs (n := n) (by omega) fun r c => h _ _
   have h3 := ((h i 0).sg i).mul h2
   exact h3
  obtain ⟨z, e, hz⟩ := sm_zs h1
  refine ⟨z, e, Nat.lt_of_le_of_lt hz ?_⟩
  rw [show (n + 1) * (s + 1) + 1 = s + (n * (s + 1) + 1) + 1 from by rw [Nat.succ_mul]; omega, bp_succ]
  have hp : 0 < bp (s + (n * (s + 1) + 1)) := bp_pos _
  calc (n + 1) * bp (s + (n * (s + 1) + 1)) < 4294967296 * bp (s + (n * (s + 1) + 1)) := Nat.mul_lt_mul_of_pos_right (by omega) hp
   _ = _ := by rw [Nat.mul_comm]
theorem zs_of {q : Rat} {s : Nat} (h : ∃ z : Int, q = (z : Rat)) (k : qsz q ≤ s) : Zs_ s q := by
 obtain ⟨z, rfl⟩ := h
 rw [qsz_cast] at k
 exact ⟨z, rfl, sz_le_iff.1 (by omega)⟩
theorem Zs_.zero (s : Nat) : Zs_ s 0 := ⟨0, rfl, bp_pos s⟩
theorem res_sz {F G : Nat → Rat} {S : Nat} (zF : ZI F) (zG : ZI G) (qF : ∀ i, qsz (F i) ≤ S) (qG : ∀ i, qsz (G i) ≤ S) (hn : pl F + pl G < 4294967295) : sz (res F G).num.natAbs ≤ (pl F + pl G) * (S + 1) + 1 := by
 have key : Zs_ ((pl F + pl G) * (S + 1) + 1) (res F G) := by
  unfold res
  split
  ·exact Zs_.zero _
  ·unfold rsf
   refine (det_zs (s := S) (by omega) fun i j => ?_).up (by
    have : (pl F - 1 + (pl G - 1)) * (S + 1) ≤ (pl F + pl G) * (S + 1) := Nat.mul_le_mul_right _ (by omega)
    omega)
   unfold syl
   split
   ·split
    ·exact zs_of (zF _) (qF _)
    ·exact Zs_.zero _
   ·split
    ·exact zs_of (zG _) (qG _)
    ·exact Zs_.zero _
 obtain ⟨z, e, hz⟩ := key
 rw [e]
 exact sz_le_iff.2 hz
end Go.Hp
namespace Go.Hp
def swr (M : Nat → Nat → Rat) (c p : Nat) : Nat → Nat → Rat := fun i => M (if i = c then p else if i = p then c else i)
/-! ### the resultant with the derivative -/
theorem det_dvd {n : Nat} {A : Nat → Nat → Rat} {a : Rat} (h : ∀ i j, ∃ z : Int, A i j = (z : Rat)) (h0 : ∀ i, i < n + 1 → ∃ z : Int, A i 0 = a * (z : Rat)) : ∃ z : Int, det (n + 1) A = a * (z : Rat) := by
 rw [det_succ]
 have key : ∀ m, m ≤ n + 1 → ∃ z : Int, sm m (fun i => sg i * A i 0 * det n (minor i A)) = a * (z : Rat) := by
  intro m
  induction m with
  | zero => intro _; exact ⟨0, by rw [sm_zero]; exact (Rat.mul_zero _).symm⟩
  | succ m ih =>
   intro hm
   obtain ⟨z, hz⟩ := ih (by omega)
   obtain ⟨x, hx⟩ := h0 m (by omega)
   obtain ⟨y, hy⟩ := det_int (n := n) (A := minor m A) fun i j => h _ _
   have hs : ∃ t : Int, sg m = (t : Rat) := by
    unfold sg
    split
    ·exact ⟨1, rfl⟩
    ·exact ⟨-1, rfl⟩
   obtain ⟨t, ht⟩ := hs
   exact ⟨z + t * x * y, by rw [sm_succ, hz, hx, hy, ht, Rat.intCast_add, Rat.intCast_mul, Rat.intCast_mul]; grind⟩
 exact key (n + 1) (Nat.le_refl _)
theorem zi_pd {F : Nat → Rat} (h : ZI F) : ZI (pd F) := fun i => by
 obtain ⟨n, e⟩ := h (i + 1)
 exact ⟨((i + 1 : Nat) : Int) * n, by unfold pd; rw [e, Rat.intCast_mul]; rfl⟩
theorem sup_pd {F : Nat → Rat} {n : Nat} (h : Sup (n + 1) F) : Sup n (pd F) := fun i hi => by unfold pd; rw [h (i + 1) (by omega)]; exact Rat.mul_zero _
theorem pl_pd {F : Nat → Rat} (fF : Fin_ F) : pl (pd F) = pl F - 1 := by
 by_cases h : pl F = 0
 ·rw [(pl_zero fF).1 h]
  have : pd pz = pz := by funext i; exact Rat.mul_zero _
  rw [this, pl_pz]
 ·obtain ⟨m, hm⟩ : ∃ m, pl F = m + 1 := ⟨pl F - 1, by omega⟩
  have hs : Sup (m + 1) F := hm ▸ pl_sup fF
  have ht := pl_top fF (by omega)
  rw [hm] at ht ⊢
  refine pl_eq (sup_pd hs) fun h0 => ?_
  obtain ⟨k, rfl⟩ : ∃ k, m = k + 1 := ⟨m - 1, by omega⟩
  show ((k + 1 : Nat) : Rat) * F (k + 1) ≠ 0
  intro e
  rcases Rat.mul_eq_zero.1 e with e | e
  ·have : ((k + 1 : Nat) : Rat) = ((0 : Nat) : Rat) := e
   have := Rat.natCast_inj.1 this
   omega
  ·exact ht e
theorem res_pd {F : Nat → Rat} (fF : Fin_ F) (zF : ZI F) (h : 1 < pl F) : (F (pl F - 1)).num ∣ (res F (pd F)).num ∧ F (pl F - 1) ≠ 0 := by
 have h0 : F (pl F - 1) ≠ 0 := pl_top fF (by omega)
 have hp : pl (pd F) = pl F - 1 := pl_pd fF
 have zd : ZI (pd F) := zi_pd zF
 obtain ⟨m, hm⟩ : ∃ m, pl F = m + 2 := ⟨pl F - 2, by omega⟩
 have e1 : res F (pd F) = det (m + 1 + m) (syl (m + 1) F m (pd F)) := by
  unfold res rsf
  rw [if_neg (by omega), hp, hm]
  rfl
 rw [hm] at h0 ⊢
 have e2 : m + 2 - 1 = m + 1 := by omega
 rw [e2] at h0 ⊢
 obtain ⟨a, ha⟩ := zF (m + 1)
 have hs : Sup (m + 2) F := hm ▸ pl_sup fF
 have hsd : Sup (m + 1) (pd F) := by exact sup_pd hs
 have e3 : m + 1 + m = (m + m) + 1 := by omega
 obtain ⟨z, hz⟩ := det_dvd (n := m + m) (A := syl (m + 1) F m (pd F)) (a := F (m + 1)) (fun i j => by
  unfold syl
  split
  ·split
   ·exact zF _
   ·exact ⟨0, rfl⟩
  ·split
   ·exact zd _
   ·exact ⟨0, rfl⟩) fun i hi => by
  unfold syl
  by_cases hi' : i < m
  ·rw [if_pos hi', if_pos (by omega)]
   by_cases hi0 : i = 0
   ·subst hi0; exact ⟨1, by rw [Nat.add_zero, Nat.sub_zero]; exact (Rat.mul_one _).symm⟩
   ·exact ⟨0, by rw [hs _ (by omega)]; exact (Rat.mul_zero _).symm⟩
  ·rw [if_neg hi', if_pos (by omega), Nat.sub_zero]
   by_cases hi0 : i = m
   ·subst hi0; exact ⟨(i + 1 : Nat), by unfold pd; rw [Rat.mul_comm]; rfl⟩
   ·exact ⟨0, by rw [hsd _ (by omega)]; exact (Rat.mul_zero _).symm⟩
 refine ⟨?_, h0⟩
 rw [e1, e3, hz, ha, ← Rat.intCast_mul]
 exact ⟨z, rfl⟩
end Go.Hp
namespace Go.Hp
open Go.RowKit
def rdv : World → Value → Value → Prop := fun _ c u => c = .agg #[u] ∧ u.oneCell' = true ∧ isDig u = false
theorem blk_types {k k' : Nat} {α β : Type} {rd : World → Value → α → Prop} {rd' : World → Value → β → Prop} {base base' : Nat} {t t' : TypeId} {w : World} {v u : Value} {l : List α} {m : List β}
  (h : OwnR k rd base t w v l) (h' : OwnR k' rd' base' t' w u m) (ht : t ≠ t') {g : Nat} (hg : g ∈ blk v) : g ∉ blk u := by
 intro hu
 obtain ⟨_, _, _, ⟨_, h4⟩, _⟩ := h
 obtain ⟨_, _, _, ⟨_, k4⟩, _⟩ := h'
 rcases h4 with ⟨rfl, _⟩ | ⟨a, cap, cur, rfl, _, hb, _⟩
 ·simp [blk, Value.ownBlock] at hg
 rcases k4 with ⟨rfl, _⟩ | ⟨b, cap', cur', rfl, _, hb', _⟩
 ·simp [blk, Value.ownBlock] at hu
 simp [blk, Value.ownBlock] at hg hu
 subst hg; subst hu
 have e := hb.1.symm.trans hb'.1
 injection e with e
 injection e with e1 e2 e3
 exact ht e2
structure Rows_ (base : Nat) (t t' : TypeId) (w : World) (v : Value) (us : List Value) (ls : List (List Rat)) : Prop where
 out : OwnR 1 rdv base t w v us
 len : us.length = ls.length
 row : ∀ i (h : i < us.length) (h' : i < ls.length), OwnQ base t' w us[i] ls[i]
 dis : ∀ i j (hi : i < us.length) (hj : j < us.length), i ≠ j → ∀ g ∈ blk us[i], g ∉ blk us[j]
theorem Rows_.nil (base : Nat) (t t' : TypeId) (w : World) : Rows_ base t t' w (.slice none 0 0) [] [] := ⟨OwnR.nil _ _ _ _ _, rfl, fun i h => by simp at h, fun i j h => by simp at h⟩
theorem Rows_.ext {base : Nat} {t t' : TypeId} {w w' : World} {v : Value} {us : List Value} {ls : List (List Rat)} (h : Rows_ base t t' w v us ls) (x : Ext w w') : Rows_ base t t' w' v us ls :=
 ⟨h.out.ext x fun _ _ q => q, h.len, fun i a b => (h.row i a b).ext x, h.dis⟩
theorem Rows_.at_ {base n c : Nat} {t t' : TypeId} {w : World} {A : Option Addr} {us : List Value} {ls : List (List Rat)} (h : Rows_ base t t' w (.slice A n c) us ls) {i : Nat} (hi : i < ls.length) :
  ∃ g E d, A = some ⟨g, 0, none⟩ ∧ w.cell? ⟨g, i, none⟩ = some (.slice E (ls[i]).length d) ∧ QsV base w (.slice E (ls[i]).length d) ls[i] := by
 obtain ⟨h0, h1, h2, h3⟩ := h
 have hi' : i < us.length := by omega
 obtain ⟨ess, g1, g2, ⟨g3, g4⟩, g5⟩ := h0
 rcases g4 with ⟨e, e0⟩ | ⟨g, cap, cur, e, hbg, hb, hnc, hcm, hcs, htake⟩
 ·omega
 ·injection e with e1 e2 e3
  obtain ⟨A2, c2, ea, -⟩ := OwnQ.row (h2 i hi' hi)
  obtain ⟨he, ho, hd⟩ := g5 i hi' (by omega)
  refine ⟨g, A2, c2, e1, ?_, ea ▸ OwnQ.row (h2 i hi' hi)⟩
  rw [cell_of_row w g i cur t (0, 0) hb.1]
  have h6 := flat_get (k := 1) g2 (j := i) (i := 0) (by omega) (by omega)
  rw [Nat.mul_one, Nat.add_zero, ← htake, List.getElem?_take_of_lt (by omega)] at h6
  have h7 : ess[i] = #[us[i]] := by injection he
  rw [h7, ea] at h6
  simpa using h6
theorem Rows_.shape {base : Nat} {t t' : TypeId} {w : World} {v : Value} {us : List Value} {ls : List (List Rat)} (h : Rows_ base t t' w v us ls) : ∃ A c, v = .slice A ls.length c := by
 obtain ⟨A, c, e⟩ := h.out.len
 exact ⟨A, c, by rw [e, h.len]⟩
theorem Rows_.append {P : Program} {base : Nat} {t t' : TypeId} {w : World} {v u : Value} {us : List Value} {ls : List (List Rat)} {l : List Rat} (h : Rows_ base t t' w v us ls) (hu : OwnQ base t' w u l) (ht : t ≠ t')
  (hf : ∀ i (h : i < us.length), ∀ g ∈ blk us[i], g ∉ blk u)
  (tt ty : TypeId) (i : TypeInfo) (z : Value) (bytes : Nat) (hT : P.underlying tt = some (.slice t)) (hi : P.info? t = some i) (hz : i.zero = some z) (hsize : i.size = 1) (hby : i.bytes = bytes) (hzs : z.cells.size = 1) (hzd : nodig z.cells = true)
  (h63 : us.length + 1 ≤ maxLen) (hbytes : (us.length + 1) * bytes ≤ 140737488355328) (hbase : base ≤ w.heap.size) :
  ∃ v' w', (Builtin.append_ #[tt, tt] ty #[v, .slice (some ⟨w.heap.size, 0, none⟩) 1 1]).run P (w.alloc (.cells #[u] t)) = .ok v' w' ∧ Rows_ base t t' w' v' (us ++ [u]) (ls ++ [l]) ∧ Upd (blk v) (w.alloc (.cells #[u] t)) w' := by
 obtain ⟨A, c, rfl⟩ := (OwnQ.row hu).len
 have hb := Box.new w t #[.slice A l.length c] (by simp [isDig])
 have x := (Ext.refl w).alloc (.cells #[.slice A l.length c] t)
 have h' := h.ext x
 have hu' := hu.ext x
 obtain ⟨v', w', a, b, U⟩ := OwnR.append (P := P) (x := Value.slice A l.length c) h'.out tt ty i z bytes hT hi hz hsize hby hzs hzd (by decide) ⟨w.heap.size, 0, none⟩ 1 #[.slice A l.length c] rfl ⟨rfl, rfl, rfl⟩ hb.news (by simp [Value.oneCell']) (by simp [nodig, isDig]) h63 hbytes (Nat.le_trans hbase x.size) (fun _ _ _ _ q => q)
 refine ⟨v', w', a, ⟨b, by simp [h.len], fun j a1 a2 => ?_, fun j k a1 a2 hne => ?_⟩, U⟩
 ·have ho : ∀ (s : Value) (m : List Rat), OwnQ base t' (w.alloc (.cells #[.slice A l.length c] t)) s m → OwnQ base t' w' s m := fun s m q => OwnR.upd q U (fun g hg hv => blk_types h'.out q ht hv hg) fun _ _ q => q.kd U.kd
  have hl := h.len
  by_cases hj : j < us.length
  ·rw [List.getElem_append_left hj, List.getElem_append_left (by omega)]
   exact ho _ _ (h'.row j hj (by omega))
  ·rw [List.getElem_append_right (by omega), List.getElem_append_right (by omega)]
   simpa using ho _ _ hu'
 ·simp only [List.length_append, List.length_singleton] at a1 a2
  by_cases hj : j < us.length
  ·rw [List.getElem_append_left hj]
   by_cases hk : k < us.length
   ·rw [List.getElem_append_left hk]; exact h.dis j k hj hk hne
   ·rw [List.getElem_append_right (by omega)]
    intro g hg; simpa using hf j hj g hg
  ·rw [List.getElem_append_right (by omega)]
   have hk : k < us.length := by omega
   rw [List.getElem_append_left hk]
   intro g hg hk'
   exact hf k hk g hk' (by simpa using hg)
structure Mx (base gA : Nat) (t t' : TypeId) (w : World) (n : Nat) (gs cs : Nat → Nat) (M : Nat → Nat → Rat) : Prop where
 box : ∃ cur, Box w gA t cur ∧ ∀ i, i < n → cur[i]? = some (.slice (some ⟨gs i, 0, none⟩) n (cs i))
 ge : base ≤ gA
 row : ∀ i, i < n → base ≤ gs i ∧ gs i ≠ gA ∧ QArr w (gs i) t' (full n (M i))
 inj : ∀ i j, i < n → j < n → gs i = gs j → i = j
section
variable {base gA n : Nat} {t t' : TypeId} {w w' : World} {gs cs : Nat → Nat} {M : Nat → Nat → Rat}
theorem Mx.ext (h : Mx base gA t t' w n gs cs M) (x : Ext w w') : Mx base gA t t' w' n gs cs M := by
 obtain ⟨⟨cur, h1, h2⟩, h3, h4, h5⟩ := h
 exact ⟨⟨cur, h1.ext x, h2⟩, h3, fun i hi => ⟨(h4 i hi).1, (h4 i hi).2.1, (h4 i hi).2.2.ext x⟩, h5⟩
theorem Mx.off {g : Nat} (h : Mx base gA t t' w n gs cs M) (U : Upd [g] w w') (h1 : gA ≠ g) (h2 : ∀ i, i < n → gs i ≠ g) : Mx base gA t t' w' n gs cs M := by
 obtain ⟨⟨cur, k1, k2⟩, k3, k4, k5⟩ := h
 exact ⟨⟨cur, k1.upd U (by simpa using h1), k2⟩, k3, fun i hi => ⟨(k4 i hi).1, (k4 i hi).2.1, (k4 i hi).2.2.upd U (by simpa using h2 i hi)⟩, k5⟩
theorem Mx.congr {M' : Nat → Nat → Rat} (h : Mx base gA t t' w n gs cs M) (e : ∀ i j, i < n → j < n → M i j = M' i j) : Mx base gA t t' w n gs cs M' := by
 obtain ⟨k1, k3, k4, k5⟩ := h
 exact ⟨k1, k3, fun i hi => ⟨(k4 i hi).1, (k4 i hi).2.1, by have := (k4 i hi).2.2; rw [full_ext fun j hj => e i j hi hj] at this; exact this⟩, k5⟩
theorem Mx.lt (h : Mx base gA t t' w n gs cs M) : gA < w.heap.size ∧ ∀ i, i < n → gs i < w.heap.size := by
 obtain ⟨⟨cur, k1, k2⟩, k3, k4, k5⟩ := h
 exact ⟨k1.lt, fun i hi => (k4 i hi).2.2.lt⟩
theorem Mx.frozen (h : Mx base gA t t' w n gs cs M) (i : Nat) : w.frozen? ⟨gA, i, none⟩ = false := by obtain ⟨⟨cur, h1, h2⟩, -⟩ := h; exact h1.frozen i
theorem Mx.at_ (h : Mx base gA t t' w n gs cs M) {i j : Nat} (hi : i < n) (hj : j < n) :
  ∃ b A m c b' A' m' c', w.cell? ⟨gs i, j * 4, none⟩ = some (.bool b) ∧ w.cell? ⟨gs i, j * 4 + 1, none⟩ = some (.slice A m c) ∧ w.cell? ⟨gs i, j * 4 + 2, none⟩ = some (.bool b') ∧ w.cell? ⟨gs i, j * 4 + 3, none⟩ = some (.slice A' m' c') ∧ IsQ w (.agg #[.bool b, .slice A m c, .bool b', .slice A' m' c']) (M i j) := (h.row i hi).2.2.full_at hj
theorem Mx.put (h : Mx base gA t t' w n gs cs M) {i j : Nat} (hi : i < n) (hj : j < n) {b b' : Bool} {A A' : Option Addr} {m c m' c' : Nat} {q : Rat} (hq : IsQ w (.agg #[.bool b, .slice A m c, .bool b', .slice A' m' c']) q) :
  ∃ W, W = (((w.setCell ⟨gs i, j * 4, none⟩ (.bool b)).setCell ⟨gs i, j * 4 + 1, none⟩ (.slice A m c)).setCell ⟨gs i, j * 4 + 2, none⟩ (.bool b')).setCell ⟨gs i, j * 4 + 3, none⟩ (.slice A' m' c') ∧ Mx base gA t t' W n gs cs (fun r k => if r = i ∧ k = j then q else M r k) ∧ Upd [gs i] w W := by
 obtain ⟨W, e, h1, U⟩ := (h.row i hi).2.2.put (k := j) (by rw [full_len]; exact hj) hq
 refine ⟨W, e, ?_, U⟩
 obtain ⟨⟨cur, k1, k2⟩, k3, k4, k5⟩ := h
 refine ⟨⟨cur, k1.upd U (by have := (k4 i hi).2.1; simp; omega), k2⟩, k3, fun r hr => ⟨(k4 r hr).1, (k4 r hr).2.1, ?_⟩, k5⟩
 by_cases e' : r = i
 ·subst e'
  rw [full_set (G := fun k => if r = r ∧ k = j then q else M r k) fun k => by simp] at h1
  exact h1
 ·have := (k4 r hr).2.2.upd U (by simpa using fun q => e' (k5 r i hr hi q))
  rw [full_ext (G := fun k => if r = i ∧ k = j then q else M r k) fun k _ => (if_neg fun q => e' q.1).symm] at this
  exact this
theorem Mx.swap (h : Mx base gA t t' w n gs cs M) {c p : Nat} (hc : c < n) (hp : p < n) (hne : c ≠ p) :
  ∃ W, W = (w.setCell ⟨gA, p, none⟩ (.slice (some ⟨gs c, 0, none⟩) n (cs c))).setCell ⟨gA, c, none⟩ (.slice (some ⟨gs p, 0, none⟩) n (cs p)) ∧ Upd [gA] w W ∧ ∃ gs' cs', Mx base gA t t' W n gs' cs' (swr M c p) ∧ ∀ i, i < n → ∃ j, j < n ∧ gs' i = gs j := by
 obtain ⟨⟨cur, k1, k2⟩, k3, k4, k5⟩ := h
 have B1 := k1.set_ p (u := .slice (some ⟨gs c, 0, none⟩) n (cs c)) rfl
 have B2 := B1.set_ c (u := .slice (some ⟨gs p, 0, none⟩) n (cs p)) rfl
 have U : Upd [gA] w _ := (Upd.set_ k1.nodig p (.slice (some ⟨gs c, 0, none⟩) n (cs c))).trans (Upd.set_ B1.nodig c (.slice (some ⟨gs p, 0, none⟩) n (cs p)))
 have hsz : ∀ i, i < n → i < cur.size := fun i hi => by
  have := k2 i hi
  rcases Nat.lt_or_ge i cur.size with a | a
  ·exact a
  ·rw [Array.getElem?_eq_none a] at this; cases this
 obtain ⟨s, hs⟩ : ∃ s : Nat → Nat, s = fun i => if i = c then p else if i = p then c else i := ⟨_, rfl⟩
 have hsi : ∀ i, i < n → s i < n := fun i hi => by rw [hs]; show (if i = c then p else if i = p then c else i) < n; split; exact hp; split; exact hc; exact hi
 have hss : ∀ i, s (s i) = i := fun i => by
  rw [hs]; show (if (if i = c then p else if i = p then c else i) = c then p else if (if i = c then p else if i = p then c else i) = p then c else (if i = c then p else if i = p then c else i)) = i
  by_cases e : i = c
  ·subst e; rw [if_pos rfl, if_neg (Ne.symm hne), if_pos rfl]
  ·rw [if_neg e]
   by_cases e' : i = p
   ·subst e'; rw [if_pos rfl, if_pos rfl]
   ·rw [if_neg e', if_neg e, if_neg e']
 refine ⟨_, rfl, U, fun i => gs (s i), fun i => cs (s i), ⟨⟨_, B2, fun i hi => ?_⟩, k3, fun i hi => ?_, fun i j hi hj e => ?_⟩, fun i hi => ⟨s i, hsi i hi, rfl⟩⟩
 ·have hzi := hsz i hi
  by_cases e : i = c
  ·subst e
   rw [Array.getElem?_setIfInBounds, if_pos rfl, if_pos (by simpa using hzi)]
   have : s i = p := by rw [hs]; exact if_pos rfl
   rw [this]
  ·rw [Array.getElem?_setIfInBounds_ne (fun q => e q.symm)]
   by_cases e' : i = p
   ·subst e'
    rw [Array.getElem?_setIfInBounds, if_pos rfl, if_pos hzi]
    have : s i = c := by rw [hs]; show (if i = c then i else if i = i then c else i) = c; rw [if_neg e, if_pos rfl]
    rw [this]
   ·rw [Array.getElem?_setIfInBounds_ne (fun q => e' q.symm), k2 i hi]
    have : s i = i := by rw [hs]; show (if i = c then p else if i = p then c else i) = i; rw [if_neg e, if_neg e']
    rw [this]
 ·have h4 := k4 (s i) (hsi i hi)
  refine ⟨h4.1, h4.2.1, ?_⟩
  have e : swr M c p i = M (s i) := by rw [hs]; rfl
  rw [e]
  exact h4.2.2.upd U (by simpa using h4.2.1)
 ·have := k5 (s i) (s j) (hsi i hi) (hsi j hj) e
  rw [← hss i, ← hss j, this]
theorem Rows_.mx {v : Value} {us : List Value} {ls : List (List Rat)} (h : Rows_ base t t' w v us ls) (ht : t ≠ t') (hn : ls.length = n) (h0 : 0 < n) (hM : ∀ i (h : i < ls.length), ls[i] = (List.range n).map (M i)) :
  ∃ g cap gs cs, v = .slice (some ⟨g, 0, none⟩) n cap ∧ Mx base g t t' w n gs cs M := by
 obtain ⟨h0', h1, h2, h3⟩ := h
 have hO := h0'
 obtain ⟨ess, g1, g2, ⟨g3, g4⟩, g5⟩ := h0'
 rcases g4 with ⟨e, e0⟩ | ⟨g, cap, cur, e, hbg, hb, hnc, hcm, hcs, htake⟩
 ·omega
 have key : ∀ i (hi : i < us.length), ∃ gi ci, us[i] = .slice (some ⟨gi, 0, none⟩) n ci ∧ base ≤ gi ∧ QArr w gi t' (full n (M i)) := fun i hi => by
  have hq := h2 i hi (by omega)
  rcases OwnQ.arr hq with e0 | ⟨gi, ci, e1, e2, _, _, e5⟩
  ·have := hM i (by omega); rw [e0] at this
   have := congrArg List.length this
   simp at this; omega
  ·have hl : (ls[i]'(by omega)).length = n := by rw [hM i (by omega)]; simp
   rw [hl] at e1
   refine ⟨gi, ci, e1, e2, ?_⟩
   rw [full_row, ← hM i (by omega)]; exact e5
 obtain ⟨gs, hgs⟩ : ∃ gs : Nat → Nat, ∀ i (hi : i < us.length), ∃ ci, us[i] = .slice (some ⟨gs i, 0, none⟩) n ci ∧ base ≤ gs i ∧ QArr w (gs i) t' (full n (M i)) :=
  ⟨fun i => if hi : i < us.length then Classical.choose (key i hi) else 0, fun i hi => by dsimp only; rw [dif_pos hi]; exact Classical.choose_spec (key i hi)⟩
 obtain ⟨cs, hcs'⟩ : ∃ cs : Nat → Nat, ∀ i (hi : i < us.length), us[i] = .slice (some ⟨gs i, 0, none⟩) n (cs i) ∧ base ≤ gs i ∧ QArr w (gs i) t' (full n (M i)) :=
  ⟨fun i => if hi : i < us.length then Classical.choose (hgs i hi) else 0, fun i hi => by dsimp only; rw [dif_pos hi]; exact Classical.choose_spec (hgs i hi)⟩
 have hbl : ∀ i (hi : i < us.length), gs i ∈ blk us[i] := fun i hi => by rw [(hcs' i hi).1]; simp [blk, Value.ownBlock]
 have hbv : g ∈ blk v := by rw [e]; simp [blk, Value.ownBlock]
 have hun : us.length = n := by omega
 refine ⟨g, cap, gs, cs, by rw [e, hun], ⟨cur, hb, fun i hi => ?_⟩, hbg, fun i hi => ⟨(hcs' i (by omega)).2.1, fun q => ?_, (hcs' i (by omega)).2.2⟩, fun i j hi hj q => ?_⟩
 ·have h6 := flat_get (k := 1) g2 (j := i) (i := 0) (by omega) (by omega)
  rw [Nat.mul_one, Nat.add_zero, ← htake, List.getElem?_take_of_lt (by omega)] at h6
  have h7 : ess[i]'(by omega) = #[us[i]'(by omega)] := by have := (g5 i (by omega) (by omega)).1; injection this
  rw [h7, (hcs' i (by omega)).1] at h6
  simpa using h6
 ·exact blk_types hO (h2 i (by omega) (by omega)) ht hbv (q ▸ hbl i (by omega))
 ·apply Classical.byContradiction
  intro hne
  exact h3 i j (by omega) (by omega) hne (gs i) (hbl i (by omega)) (q ▸ hbl j (by omega))
end
end Go.Hp
namespace Go.Hp
open Go.RowKit
theorem qz_num {q : Rat} {s : Nat} (h : qsz q ≤ s) : sz q.num.natAbs ≤ s := by unfold qsz at h; omega
theorem lzf_hz' {base : Nat} {w : World} {v : Value} {n : Nat} {F : Nat → Rat} {e : TypeId} (h : OwnZ base e w v (lzf n F)) (hs : ∀ i, i < n → qsz (F i) ≤ 1099511627776) : HzV 0 w v (lzf n F) :=
 ZsV.has h.row fun x hx => by
  obtain ⟨i, hi, rfl⟩ := List.getElem_of_mem hx
  rw [lzf_get]
  have := hs i (by rw [lzf_len] at hi; exact hi)
  unfold qsz at this; omega
theorem lz_at {la : List Int} {F : Nat → Rat} (e : cz la = F) {i : Nat} (h : i < la.length) : la[i] = (F i).num := by
 subst e; rw [cz_lt h]; rfl
end Go.Hp
namespace Go.Proofs.YtfacbpnegkjcgaaGreatDoor
open Go.RowKit Go.Hp
set_option maxHeartbeats 1000000 in
theorem add_rzp (v u : Value) (l m : List Int) (s t : Nat) (w : World) (hv : HzV 0 w v l) (hu : HzV 0 w u m) (hs : ∀ i, qsz (cz l i) ≤ s) (ht : ∀ i, qsz (cz m i) ≤ t) (hst : s + t + 1 ≤ 549755813888) (hn : l.length ≤ 549755813888) (hm : m.length ≤ 549755813888) :
  Calls Tryz.prog 37 #[v, u] w (Gives w fun r w' => IsZP w.heap.size w' r (pad (cz l) (cz m))) := by
 have HV := Lib.hid hv; have HU := Lib.hid hu
 obtain ⟨A, c, rfl⟩ := hv.len
 obtain ⟨E, d, rfl⟩ := hu.len
 clear hv hu
 have HS := Lib.hid (And.intro hs ht); clear hs ht
 obtain ⟨N, hN⟩ : ∃ N, N = max l.length m.length := ⟨_, rfl⟩
 have h1 : l.length ≤ N := by omega
 have h2 : m.length ≤ N := by omega
 have h3 : N ≤ 549755813888 := by omega
 have h4 : ∀ k, k < N → k < l.length ∨ k < m.length := fun k hk => by omega
 have H4 := Lib.hid h4; clear h4 hN
 go_enter Tryz.func37, Tryz.ntmps37
 go_wp2
 go_loopw [5, 6] (fun ov iv wr => ∃ (k : Nat), k ≤ N ∧ iv = .int .i64 k ∧ OwnZ w.heap.size 28 wr ov (lzf k (pad (cz l) (cz m))) ∧ Ext w wr) (fun _ iv _ => N - (intOf iv).toNat)
 case atStart => exact ⟨0, Nat.zero_le _, rfl, OwnR.nil _ _ _ _ _, Ext.refl _⟩
 case round =>
  obtain ⟨k, hk, rfl, hown, hx⟩ := hrel
  by_cases hkN : k < N
  ·have Hown0 := Lib.hid hown; clear hown
   by_cases hk1 : k < l.length
   ·skip
    go_wp2_with fail
    refine Calls.mono (at_rz _ l k _ (HV.out.ext hx) (by omega)) ?_
    rintro e w2 ⟨r2, rfl, hr2, hx2⟩
    have Hr2 := Lib.hid hr2; clear hr2
    replace hx := hx.trans hx2
    go_wp2_with fail
    refine Calls.mono (at_rz _ m k _ (HU.out.ext hx) (by omega)) ?_
    rintro e w3 ⟨r3, rfl, hr3, hx3⟩
    have Hr3 := Lib.hid hr3; clear hr3
    replace hx := hx.trans hx3
    go_wp2_with fail
    refine Calls.mono (add_r _ _ _ _ _ ((Hr2.out.kd hx3.kd).has (by have := qz_num (HS.out.1 k); omega)) (Hr3.out.has (by have := qz_num (HS.out.2 k); omega)) (by have := qz_num (HS.out.1 k); omega) (by have := qz_num (HS.out.2 k); omega)) ?_
    rintro e w4 ⟨r4, rfl, hr4, hx4⟩
    obtain ⟨b5, A5, n5, c5, rfl⟩ := hr4.cells
    have Hr := Lib.hid hr4; clear hr4
    replace hx := hx.trans hx4
    have hown := ((Hown0.out.ext hx2).ext hx3).ext hx4
    have Hown := Lib.hid hown; clear hown
    have hsz := hx.size
    clear hx2 hx3 hx4
    go_wp2_with (at_builtin; refine wpList_append_run rfl _ _ 22 rfl u5 (.slice (some ⟨w4.heap.size, 0, none⟩) 1 1) rfl rfl (append_rz w4 w.heap.size _ _ _ _ _ Hown.out Hr.out (by first | (rw [lzf_len]; omega) | omega) hsz rfl) ?_)
    first | intro v' w5 hown U | rintro v' w5 ⟨hown, U⟩
    replace hx := (Hown.out.ext ((Ext.refl w4).alloc _)).from_ U (hx.alloc _) (Nat.le_refl _)
    have Hown' := Lib.hid hown; clear hown U
    go_wp2
    go_roundw
    case rel => exact ⟨k + 1, by omega, by go_num, by rw [lzf_succ, show (pad (cz l) (cz m) k).num = (cz l k).num + (cz m k).num from (ZI.cz l).num_add (ZI.cz m) k k]; exact Hown'.out, hx⟩
    case measure => simp [intOf] <;> omega
   ·have hk2 : k < m.length := by rcases H4.out k hkN with h | h <;> omega
    have hk1' : ¬ (k : Int) < l.length := by omega
    go_wp2_with fail
    refine Calls.mono (at_rz _ l k _ (HV.out.ext hx) (by omega)) ?_
    rintro e w2 ⟨r2, rfl, hr2, hx2⟩
    have Hr2 := Lib.hid hr2; clear hr2
    replace hx := hx.trans hx2
    go_wp2_with fail
    refine Calls.mono (at_rz _ m k _ (HU.out.ext hx) (by omega)) ?_
    rintro e w3 ⟨r3, rfl, hr3, hx3⟩
    have Hr3 := Lib.hid hr3; clear hr3
    replace hx := hx.trans hx3
    go_wp2_with fail
    refine Calls.mono (add_r _ _ _ _ _ ((Hr2.out.kd hx3.kd).has (by have := qz_num (HS.out.1 k); omega)) (Hr3.out.has (by have := qz_num (HS.out.2 k); omega)) (by have := qz_num (HS.out.1 k); omega) (by have := qz_num (HS.out.2 k); omega)) ?_
    rintro e w4 ⟨r4, rfl, hr4, hx4⟩
    obtain ⟨b5, A5, n5, c5, rfl⟩ := hr4.cells
    have Hr := Lib.hid hr4; clear hr4
    replace hx := hx.trans hx4
    have hown := ((Hown0.out.ext hx2).ext hx3).ext hx4
    have Hown := Lib.hid hown; clear hown
    have hsz := hx.size
    clear hx2 hx3 hx4
    go_wp2_with (at_builtin; refine wpList_append_run rfl _ _ 22 rfl u5 (.slice (some ⟨w4.heap.size, 0, none⟩) 1 1) rfl rfl (append_rz w4 w.heap.size _ _ _ _ _ Hown.out Hr.out (by first | (rw [lzf_len]; omega) | omega) hsz rfl) ?_)
    first | intro v' w5 hown U | rintro v' w5 ⟨hown, U⟩
    replace hx := (Hown.out.ext ((Ext.refl w4).alloc _)).from_ U (hx.alloc _) (Nat.le_refl _)
    have Hown' := Lib.hid hown; clear hown U
    go_wp2
    go_roundw
    case rel => exact ⟨k + 1, by omega, by go_num, by rw [lzf_succ, show (pad (cz l) (cz m) k).num = (cz l k).num + (cz m k).num from (ZI.cz l).num_add (ZI.cz m) k k]; exact Hown'.out, hx⟩
    case measure => simp [intOf] <;> omega
  ·obtain rfl : k = N := by omega
   have hk1' : ¬ (k : Int) < l.length := by omega
   have hk2' : ¬ (k : Int) < m.length := by omega
   have hh := lzf_hz' hown (fun i hi => (by have h1 := qsz_addz (ZI.cz l) (ZI.cz m) i i; have h2 := HS.out.1 i; have h3 := HS.out.2 i; show qsz (cz l i + cz m i) ≤ _; omega))
   have hczl := cz_lzf (n := k) (F := pad (cz l) (cz m)) ((ZI.cz l).pad (ZI.cz m)) (((cz_sup l).mono (by omega)).pad ((cz_sup m).mono (by omega)))
   obtain ⟨A2, c2, e2⟩ := hh.len
   rw [lzf_len] at e2
   rw [e2] at hh
   clear hown
   subst e2
   have HH := Lib.hid (And.intro hh hczl); clear hh hczl
   go_wp2_with fail
   refine Calls.mono (normal_rz _ _ _ HH.out.1 (by rw [lzf_len]; omega)) ?_
   rintro e w9 ⟨r, rfl, hr, hx9⟩
   rw [HH.out.2] at hr
   have hsz := (hx).size
   have Hr := Lib.hid hr; clear hr
   go_wp2
   go_ret
   exact Gives.mk (Hr.out.base_le (by omega)) ((hx).trans hx9)
set_option maxRecDepth 20000 in
set_option maxHeartbeats 1000000 in
theorem scale_rzp (v u : Value) (l : List Int) (ca : Int) (s : Nat) (w : World) (hv : HzV 0 w v l) (hu : HasZ w u ca) (hs : ∀ i, qsz (cz l i) ≤ s) (hst : s + qsz (ca : Rat) ≤ 549755813888) (hn : l.length ≤ 549755813888) :
  Calls Tryz.prog 41 #[v, u] w (Gives w fun r w' => IsZP w.heap.size w' r (psc (ca : Rat) (cz l))) := by
 have HU := Lib.hid hu
 obtain ⟨b1, A1, n1, c1, rfl⟩ := hu.cells
 obtain ⟨A, c, rfl, hl, hc, hA⟩ := hv
 clear hu
 have HA : Hid (HzAt 0 w A l) := Lib.hid hA; clear hA
 have HS := Lib.hid (And.intro hs hst); clear hs hst
 go_enter Tryz.func41, Tryz.ntmps41
 go_wp2
 go_loopw [5, 6] (fun ov iv wr => ∃ (k : Nat), k ≤ l.length ∧ iv = .int .i64 k ∧ OwnZ (w.heap.size + 1) 28 wr ov (lzf k (psc (ca : Rat) (cz l))) ∧ Ext (w.alloc (.cells #[.bool b1, .slice A1 n1 c1] 28)) wr) (fun _ iv _ => l.length - (intOf iv).toNat)
 case atStart => exact ⟨0, Nat.zero_le _, rfl, OwnR.nil _ _ _ _ _, Ext.refl _⟩
 case round =>
  obtain ⟨k, hk, rfl, hown, hx⟩ := hrel
  by_cases hkl : k < l.length
  ·obtain ⟨g, o, b, A2, n, c2, rfl, _, q0, q1, hq⟩ := HA.out.at_ (j := k) hkl
   replace q0 := hx.a1.cell q0
   replace q1 := hx.a1.cell q1
   have ca0 := hx.box (g := w.heap.size) (i := 0) rfl rfl
   have ca1 := hx.box (g := w.heap.size) (i := 1) rfl rfl
   have hval : (psc (ca : Rat) (cz l) k).num = l[k] * ca := by
    show ((ca : Rat) * cz l k).num = _
    rw [cz_lt hkl, num_mul, Int.mul_comm]
   have hqk := HS.out.1 k
   rw [cz_lt hkl, qsz_cast] at hqk
   have hqa := HS.out.2
   rw [qsz_cast] at hqa
   have Hq := Lib.hid (And.intro hq (And.intro hval (And.intro hqk hqa))); clear hq hval hqk hqa
   have Hown := Lib.hid hown; clear hown
   go_wp2_with fail
   refine wp_region_par (k := 8) (D := [13, 14, 15, 16, 17, 18, 19, 20]) (T := [[], [], [], [1, 2], [1, 2, 3], [], [1, 2, 3, 4, 5], [1, 2, 3, 4, 5, 6], [0, 1, 2, 3, 4, 5, 6, 7], [0, 1, 2, 3, 4, 5, 6, 7, 8]]) (EK := [5, 0, 6, 3]) (EV := [?e1x0, ?e1x1, ?e1x2, ?e1x3]) (VL := [(kv ?v1x0), (kv ?v1x1), (kv ?v1x2), (kv ?v1x3), (kv ?v1x4), (kv ?v1x5), (fun γ => γ 6), (fun γ => γ 7)]) (FL := fun γ w' => [True, True, True, True, True, True, IsZ w' (γ 6) (psc (ca : Rat) (cz l) k).num, NewZ w' (γ 7) (wr.heap.size) ((psc (ca : Rat) (cz l) k).num) 28]) ?hE1 (by kernel_rfl) (by kernel_rfl) (by rfl) (by kernel_rfl) ?hloc1 ?hmono1 ?hstep1 ?htail1
   case hE1 => refine ⟨?_, ?_, ?_, ?_, trivial⟩ <;> (simp only [List.getElem?_toArray, List.getElem?_cons_succ, List.getElem?_cons_zero]; rfl)
   case hstep1 =>
    refine ⟨⟨⟨⟨⟨⟨⟨⟨trivial, ?_⟩, ?_⟩, ?_⟩, ?_⟩, ?_⟩, ?_⟩, ?_⟩, ?_⟩
    iterate 6 focus
     intro γ w' he hf; clear hf; refine ⟨by trivial, ?_⟩; intro R hR; have hc := he.cells
     have cq0 := he.cell q0
     have cq1 := he.cell q1
     have cq2 := he.cell ca0
     have cq3 := he.cell ca1
     go_simp; (try go_ints); (try (rw [if_neg (by omega)])); (try (rw [if_pos (by omega)])); (try go_simp); (try go_ints)
     refine hR _ _ (Ext.refl _) ?_ trivial; rfl
    ·intro γ w' he hf; clear hf; refine ⟨trivial, ?_⟩; intro R hR
     go_simp
     refine Calls.mono (show Calls _ _ _ w' (Gives w' fun r w'' => IsZ w'' (r) (psc (ca : Rat) (cz l) k).num) from Hq.out.2.1 ▸ mul_r _ _ _ _ w' (Hq.out.1.kd (hx.a1.trans he).kd) (HU.out.kd (hx.a1.trans he).kd) (by have := Hq.out.2.2; omega) (by have := Hq.out.2.2; omega)) ?_
     rintro e w2 ⟨v, rfl, hv, hx⟩
     exact ⟨v, rfl, hR v w2 hx rfl hv⟩
    ·intro γ w' he hf; have f6 : IsZ w' (γ 6) (psc (ca : Rat) (cz l) k).num := hf 6 (by decide); clear hf; refine ⟨trivial, ?_⟩; intro R hR
     refine IsZ.el f6 fun b5 A5 n5 c5 e6 f6' => ?_
     clear f6
     go_simp
     exact hR _ _ ((Ext.refl _).alloc _) rfl (NewZ.mk f6' (Nat.le_trans (by simp) he.size) _)
   case hloc1 =>
    exact ⟨⟨⟨⟨⟨⟨⟨⟨trivial, (fun γ γ' h => ⟨rfl, fun _ => rfl⟩)⟩, (fun γ γ' h => ⟨rfl, fun _ => rfl⟩)⟩, (fun γ γ' h => ⟨rfl, fun _ => rfl⟩)⟩, (fun γ γ' h => ⟨rfl, fun _ => rfl⟩)⟩, (fun γ γ' h => ⟨rfl, fun _ => rfl⟩)⟩, (fun γ γ' h => ⟨rfl, fun _ => rfl⟩)⟩, (fun γ γ' h => ⟨h 6 rfl, fun w' => (congrArg (fun a => IsZ w' (a) (psc (ca : Rat) (cz l) k).num) (h 6 rfl))⟩)⟩, (fun γ γ' h => ⟨h 7 rfl, fun w' => (congrArg (fun a => NewZ w' (a) (wr.heap.size) ((psc (ca : Rat) (cz l) k).num) 28) (h 7 rfl))⟩)⟩
   case hmono1 =>
    exact ⟨⟨⟨⟨⟨⟨⟨⟨trivial, (fun γ wA w' e h => h)⟩, (fun γ wA w' e h => h)⟩, (fun γ wA w' e h => h)⟩, (fun γ wA w' e h => h)⟩, (fun γ wA w' e h => h)⟩, (fun γ wA w' e h => h)⟩, (fun γ wA w' e h => (show IsZ wA (γ 6) (psc (ca : Rat) (cz l) k).num from h).ext e)⟩, (fun γ wA w' e h => (show NewZ wA (γ 7) (wr.heap.size) ((psc (ca : Rat) (cz l) k).num) 28 from h).ext e)⟩
   intro γ w1 hx1 hF
   have p6 : IsZ w1 (γ 6) (psc (ca : Rat) (cz l) k).num := Each.get hF 6 (by decide)
   have p7 : NewZ w1 (γ 7) (wr.heap.size) ((psc (ca : Rat) (cz l) k).num) 28 := Each.get hF 7 (by decide)
   clear hF
   simp only [fillAll, gV, kv, List.getD_cons_zero, List.getD_cons_succ, Act.put, List.setIfInBounds_toArray, List.set_cons_zero, List.set_cons_succ, List.toList_toArray, List.drop_succ_cons, List.drop_zero, List.drop_nil, Nat.zero_add, Nat.reduceAdd]
   generalize γ 6 = g6 at *
   generalize γ 7 = g7 at *
   clear γ
   have hs : w.heap.size + 1 ≤ wr.heap.size := by have := hx.size; simpa using this
   have hs1 := hx1.size
   refine wpList_append_run rfl _ _ 22 rfl u5 g7 rfl rfl (append_nz w1 _ _ (w.heap.size + 1) _ _ _ _ (Hown.out.ext hx1) p7 (by rw [lzf_len]; omega) (by omega)) ?_
   rintro v' w2 ⟨hown, U⟩
   replace hx := (Hown.out.ext hx1).from_ U (hx.trans hx1) (by simp)
   have Hown' := Lib.hid hown; clear hown U p7 p6 q0 q1 ca0 ca1
   go_wp2
   go_roundw
   case rel => exact ⟨k + 1, by omega, by go_num, by rw [lzf_succ]; exact Hown'.out, hx⟩
   case measure => simp [intOf] <;> omega
  ·obtain rfl : k = l.length := by omega
   have hh := lzf_hz' hown (fun i hi => (by have h1 := qsz_mul (ca : Rat) (cz l i); have h2 := HS.out.1 i; have h3 := HS.out.2; show qsz ((ca : Rat) * cz l i) ≤ _; omega))
   have hczl := cz_lzf (n := l.length) (F := psc (ca : Rat) (cz l)) ((ZI.cz l).psc ca) ((cz_sup l).psc _)
   obtain ⟨A2, c2, e2⟩ := hh.len
   rw [lzf_len] at e2
   rw [e2] at hh
   clear hown
   subst e2
   have HH := Lib.hid (And.intro hh hczl); clear hh hczl
   go_wp2_with fail
   refine Calls.mono (normal_rz _ _ _ HH.out.1 (by rw [lzf_len]; omega)) ?_
   rintro e w9 ⟨r, rfl, hr, hx9⟩
   rw [HH.out.2] at hr
   have hsz := (hx.a1).size
   have Hr := Lib.hid hr; clear hr
   go_wp2
   go_ret
   exact Gives.mk (Hr.out.base_le (by omega)) ((hx.a1).trans hx9)
theorem sub_rzp (v u : Value) (l m : List Int) (s t : Nat) (w : World) (hv : HzV 0 w v l) (hu : HzV 0 w u m) (hs : ∀ i, qsz (cz l i) ≤ s) (ht : ∀ i, qsz (cz m i) ≤ t) (hst : s + t + 2 ≤ 549755813888) (hn : l.length ≤ 549755813888) (hm : m.length ≤ 549755813888) :
  Calls Tryz.prog 39 #[v, u] w (Gives w fun r w' => IsZP w.heap.size w' r (psb (cz l) (cz m))) := by
 have HV := Lib.hid hv; have HU := Lib.hid hu
 obtain ⟨A, c, rfl⟩ := hv.len
 obtain ⟨E, d, rfl⟩ := hu.len
 clear hv hu
 have HS := Lib.hid (And.intro hs ht); clear hs ht
 have e1 : qsz ((-1 : Int) : Rat) = 1 := by decide
 have E1 := Lib.hid e1; clear e1
 go_enter Tryz.func39, Tryz.ntmps39
 go_wp2_with fail
 refine Calls.mono (of_r (-1) _ (by omega) (by omega)) ?_
 rintro e w1 ⟨r1, rfl, hr1, hx1⟩
 have Hr1 := Lib.hid hr1; clear hr1
 go_wp2_with fail
 refine Calls.mono (scale_rzp _ _ m (-1) t _ (HU.out.ext hx1) (Hr1.out.has (by decide)) HS.out.2 (by rw [E1.out]; omega) hm) ?_
 rintro e w2 ⟨r2, rfl, hr2, hx2⟩
 obtain ⟨l2, h2, h3, h4, h5⟩ := hr2.hz (fun i => by have h1 := qsz_mul ((-1 : Int) : Rat) (cz m i); rw [E1.out] at h1; have h2 := HS.out.2 i; show qsz (_ * _) ≤ _; omega)
 replace hx1 := hx1.trans hx2
 have H2 := Lib.hid (And.intro h2 (And.intro h3 h5)); clear h2 h3 h4 h5 hr2 hx2
 have hl2 : l2.length ≤ 549755813888 := by rw [H2.out.2.1]; exact Nat.le_trans (pl_le ((cz_sup m).psc _)) hm
 go_wp2_with fail
 refine Calls.mono (add_rzp _ _ l l2 s (t + 1) _ (HV.out.ext hx1) H2.out.1 HS.out.1 (fun i => by rw [H2.out.2.2]; have h1 := qsz_mul ((-1 : Int) : Rat) (cz m i); rw [E1.out] at h1; have h2 := HS.out.2 i; show qsz (_ * _) ≤ _; omega) (by omega) hn hl2) ?_
 rintro e w3 ⟨r3, rfl, hr3, hx3⟩
 have hsz := hx1.size
 have Hr3 := Lib.hid hr3; clear hr3
 go_wp2
 go_ret
 refine Gives.mk ?_ (hx1.trans hx3)
 have := Hr3.out.base_le (b := w.heap.size) (by omega)
 rw [H2.out.2.2] at this
 rw [psb_eq]; exact this
end Go.Proofs.YtfacbpnegkjcgaaGreatDoor
