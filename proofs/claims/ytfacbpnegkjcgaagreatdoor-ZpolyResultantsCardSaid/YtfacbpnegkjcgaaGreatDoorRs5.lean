/- Lemmas: What an argument reads as: slices of structs, once for all. Polynomials over the integers as arguments. The walks of the reference's polynomials over the integers: Normal, Degree, At, Lead. The walks of the helpers of the statements about zpoly: Zs, long. The walk of SameInts. The walk of awake of the statements about zpoly. The walks of the reference's polynomials over the integers: Content, Over, Primitive. Contracts of zpoly's functions over polynomials. The walk of the statement ZpolyContents. Determinants are multiplicative. Plain. Division of polynomials over the integers without remainder. Plain. The greatest common divisor over the integers: what a round keeps; what comes out. Plain. Resultants are multiplicative; when they are 0. Plain. How many digits a determinant, a resultant needs. Plain. Elimination: what a round does to the determinant. And: the leading coefficient divides the resultant with the derivative. Plain. Rows of rows of fractions: as they are appended, and as a matrix that is changed in place. Plain. The walks of the reference's polynomials over the integers: Add, Scale, Sub. The walks of the reference's polynomials over the integers: Derivative, Mul; of the program's Derivative. The walks of the reference's Raised and Shift; its polynomials over the integers, over polynomials. The walks of the reference's determinants: a row of Sylvester's matrix; rows appended and copied. The walk of the reference's Determinant. The walks of the reference's Resultant and Discriminant. The walks of bigint.Exact where nothing is divided, and of zpoly.Divide. -/
import Derived.Test.YtfacbpnegkjcgaaGreatDoorRs1
import Derived.Test.YtfacbpnegkjcgaaGreatDoorRs2
import Derived.Test.YtfacbpnegkjcgaaGreatDoorRs3
import Derived.Test.YtfacbpnegkjcgaaGreatDoorRs4
set_option linter.unusedVariables false
set_option linter.unusedSimpArgs false
namespace Go.Hp
open Go.RowKit
/-- An integer as it stands: sign and digits. -/
abbrev RawI := Bool × List Nat
def RawZ (w : World) (v : Value) (x : RawI) : Prop := IntV w v x.1 x.2
theorem RawZ.ext {w w' : World} {v : Value} {x : RawI} (h : RawZ w v x) (e : Ext w w') : RawZ w' v x := by
 obtain ⟨u, h1, h2⟩ := h; exact ⟨u, h1, h2.ext e⟩
/-- A slice of integers as they stand. -/
def ZPolyV (w : World) (v : Value) (l : List RawI) : Prop := RowV 2 RawZ 0 w v l
theorem ZPolyV.ext {w w' : World} {v : Value} {l : List RawI} (h : ZPolyV w v l) (e : Ext w w') : ZPolyV w' v l := RowV.ext h e fun _ _ q => q.ext e
/-- A point as it stands. -/
abbrev RawPt := Raw × Raw
def RawP2 (w : World) (v : Value) (x : RawPt) : Prop :=
 ∃ b1 A1 n1 c1 b2 A2 n2 c2 b3 A3 n3 c3 b4 A4 n4 c4, v = .agg #[.bool b1, .slice A1 n1 c1, .bool b2, .slice A2 n2 c2, .bool b3, .slice A3 n3 c3, .bool b4, .slice A4 n4 c4] ∧
  RawQ w (.agg #[.bool b1, .slice A1 n1 c1, .bool b2, .slice A2 n2 c2]) x.1 ∧ RawQ w (.agg #[.bool b3, .slice A3 n3 c3, .bool b4, .slice A4 n4 c4]) x.2
theorem RawP2.ext {w w' : World} {v : Value} {x : RawPt} (h : RawP2 w v x) (e : Ext w w') : RawP2 w' v x := by
 obtain ⟨b1, A1, n1, c1, b2, A2, n2, c2, b3, A3, n3, c3, b4, A4, n4, c4, h1, h2, h3⟩ := h
 exact ⟨b1, A1, n1, c1, b2, A2, n2, c2, b3, A3, n3, c3, b4, A4, n4, c4, h1, h2.ext e, h3.ext e⟩
def PointsV (w : World) (v : Value) (l : List RawPt) : Prop := RowV 8 RawP2 0 w v l
def PointsAt (w : World) (A : Option Addr) (l : List RawPt) : Prop := RowAt 8 RawP2 0 w A l
theorem PointsV.ext {w w' : World} {v : Value} {l : List RawPt} (h : PointsV w v l) (e : Ext w w') : PointsV w' v l := RowV.ext h e fun _ _ q => q.ext e
theorem PointsAt.at_ {w : World} {A : Option Addr} {l : List RawPt} (h : PointsAt w A l) {j : Nat} (hj : j < l.length) :
  ∃ g o b1 A1 n1 c1 b2 A2 n2 c2 b3 A3 n3 c3 b4 A4 n4 c4, A = some ⟨g, o, none⟩ ∧ w.cell? ⟨g, o + j * 8, none⟩ = some (.bool b1) ∧ w.cell? ⟨g, o + j * 8 + 1, none⟩ = some (.slice A1 n1 c1) ∧ w.cell? ⟨g, o + j * 8 + 2, none⟩ = some (.bool b2) ∧ w.cell? ⟨g, o + j * 8 + 3, none⟩ = some (.slice A2 n2 c2) ∧
   w.cell? ⟨g, o + j * 8 + 4, none⟩ = some (.bool b3) ∧ w.cell? ⟨g, o + j * 8 + 5, none⟩ = some (.slice A3 n3 c3) ∧ w.cell? ⟨g, o + j * 8 + 6, none⟩ = some (.bool b4) ∧ w.cell? ⟨g, o + j * 8 + 7, none⟩ = some (.slice A4 n4 c4) ∧
   RawQ w (.agg #[.bool b1, .slice A1 n1 c1, .bool b2, .slice A2 n2 c2]) l[j].1 ∧ RawQ w (.agg #[.bool b3, .slice A3 n3 c3, .bool b4, .slice A4 n4 c4]) l[j].2 := by
 obtain ⟨g, o, ha, hb, hc⟩ := h (by omega)
 obtain ⟨cs, q1, q2, q3⟩ := hc j hj
 obtain ⟨b1, A1, n1, c1, b2, A2, n2, c2, b3, A3, n3, c3, b4, A4, n4, c4, e, h1, h2⟩ := q3
 obtain rfl : cs = #[.bool b1, .slice A1 n1 c1, .bool b2, .slice A2 n2 c2, .bool b3, .slice A3 n3 c3, .bool b4, .slice A4 n4 c4] := by injection e
 exact ⟨g, o, b1, A1, n1, c1, b2, A2, n2, c2, b3, A3, n3, c3, b4, A4, n4, c4, ha, q2 0 (by omega), q2 1 (by omega), q2 2 (by omega), q2 3 (by omega), q2 4 (by omega), q2 5 (by omega), q2 6 (by omega), q2 7 (by omega), h1, h2⟩
/-- Small points read as points. -/
def SmallP (x : RawPt) : Prop := Small x.1 ∧ Small x.2
def ptOf (x : RawPt) : Rat × Rat := (ratOf x.1, ratOf x.2)
theorem PointsV.has {w : World} {v : Value} {l : List RawPt} (h : PointsV w v l) (hs : ∀ x ∈ l, SmallP x) : PtsV w v (l.map ptOf) ∧ (∀ i, i < l.length → qsz (px (l.map ptOf) i) ≤ 2 ∧ qsz (py (l.map ptOf) i) ≤ 2) := by
 obtain ⟨A, c, h1, h2, h3, h4⟩ := h
 refine ⟨⟨A, c, by simpa using h1, by simpa using h2, h3, fun h0 => ?_⟩, fun i hi => ?_⟩
 ·obtain ⟨g, o, q1, q2, q3⟩ := h4 (by simpa using h0)
  refine ⟨g, o, q1, q2, fun j hj => ?_⟩
  have hj' : j < l.length := by simpa using hj
  obtain ⟨cs, r1, r2, b1, A1, n1, c1, b2, A2, n2, c2, b3, A3, n3, c3, b4, A4, n4, c4, e, k1, k2⟩ := q3 j hj'
  refine ⟨cs, r1, r2, ?_⟩
  rw [List.getElem_map]
  have hsm := hs _ (List.getElem_mem hj')
  exact ⟨b1, A1, n1, c1, b2, A2, n2, c2, b3, A3, n3, c3, b4, A4, n4, c4, e, (k1.has hsm.1).1, (k2.has hsm.2).1⟩
 ·obtain ⟨g, o, q1, q2, q3⟩ := h4 (by omega)
  obtain ⟨cs, r1, r2, b1, A1, n1, c1, b2, A2, n2, c2, b3, A3, n3, c3, b4, A4, n4, c4, e, k1, k2⟩ := q3 i hi
  have hsm := hs _ (List.getElem_mem hi)
  rw [px_lt (by simpa using hi), py_lt (by simpa using hi), List.getElem_map]
  exact ⟨(k1.has hsm.1).2, (k2.has hsm.2).2⟩
end Go.Hp
namespace Go.Proofs.YtfacbpnegkjcgaaGreatDoor
open Go.RowKit Go.Hp Go.Deep Go.ChangeShapes Go.ChangeAt
section
variable {H : Type} {enc : TypeId × Value → H} {w : World} {spare : Nat → Bool} {held : Bool}
/-- A slice of structs of k cells: told by what one struct reads as. -/
theorem open_rows {α : Type} {k E : Nat} (hk : 0 < k) {rd : World → Value → α → Prop} (hsz : Tryz.prog.cellsOf E = k)
  (hop : ∀ {fuel : Nat} {cs : List Value} {x : DataW H × List MemPlace}, DataW.trod enc Tryz.prog w 0 spare held fuel E cs = some x → ∃ r : α, ∃ cs' : Array Value, cs = cs'.toList ∧ cs'.size = k ∧ rd w (.agg cs') r)
  {T fuel : Nat} {v : Value} {x : DataW H × List MemPlace} (hT : Tryz.prog.underlying T = some (.slice E)) (h : DataW.trod enc Tryz.prog w 0 spare held fuel T v.cells.toList = some x) (hv : ∃ a n c, v = .slice a n c) : ∃ l : List α, RowV k rd 0 w v l := by
 obtain ⟨a0, n0, c0, rfl⟩ := hv
 rcases open_slice hT h with ⟨hcs, _⟩ | ⟨a, n, c, m, k', D, Pl, hcs, _, hl, hm, hmm, _, hel⟩
 ·simp [Value.cells] at hcs
  obtain ⟨rfl, rfl, rfl⟩ := hcs
  exact ⟨[], RowV.nil k rd 0 w⟩
 ·simp [Value.cells] at hcs
  obtain ⟨rfl, rfl, rfl⟩ := hcs
  have hnm : n0 ≤ m := by rw [hmm]; split <;> omega
  rw [hsz] at hel
  have key : ∀ i, i < n0 → ∃ r : α, ∃ cs : Array Value, cs.size = k ∧ (∀ j, j < k → w.cell? ((a.add (i * k)).add j) = cs[j]?) ∧ rd w (.agg cs) r := fun i hi => by
   obtain ⟨cs', h1, h2⟩ := hel i (by omega)
   obtain ⟨r, cs, rfl, h3, h4⟩ := hop h2
   obtain ⟨_, h5, h6⟩ := World.cells?_some h1
   exact ⟨r, cs, h3, fun j hj => by rw [h6 j hj]; simp, h4⟩
  have hc : ∀ n', n' ≤ n0 → ∃ l : List α, l.length = n' ∧ ∀ i (h : i < l.length), ∃ cs : Array Value, cs.size = k ∧ (∀ j, j < k → w.cell? ((a.add (i * k)).add j) = cs[j]?) ∧ rd w (.agg cs) l[i] := by
   intro n'
   induction n' with
   | zero => intro _; exact ⟨[], rfl, fun i h => by simp at h⟩
   | succ n' ih =>
    intro hn
    obtain ⟨l, hl1, hl2⟩ := ih (by omega)
    obtain ⟨r, cs, k1, k2, k3⟩ := key n' (by omega)
    refine ⟨l ++ [r], by simp [hl1], fun i hi => ?_⟩
    rcases Nat.lt_or_ge i l.length with h' | h'
    ·rw [List.getElem_append_left h']; exact hl2 i h'
    ·have e : i = n' := by simp at hi; omega
     subst e
     refine ⟨cs, k1, k2, ?_⟩
     rw [List.getElem_append_right h']
     simpa [hl1] using k3
  obtain ⟨l, hl1, hl2⟩ := hc n0 (Nat.le_refl _)
  refine ⟨l, some a, c0, by rw [hl1], by omega, maxLen_le hm, fun h0 => ?_⟩
  obtain ⟨b, off, spot⟩ := a
  obtain ⟨cs, k1, k2, k3⟩ := hl2 0 h0
  have hs : spot = none := by
   have := k2 0 hk
   rw [Array.getElem?_eq_getElem (by omega)] at this
   simpa [Addr.add] using World.cell?_spot this
  subst hs
  refine ⟨b, off, rfl, Nat.zero_le _, fun j hj => ?_⟩
  obtain ⟨cs, k1, k2, k3⟩ := hl2 j hj
  refine ⟨cs, k1, fun i hi => ?_, k3⟩
  rw [← k2 i hi, addr_add, addr_add]
set_option maxRecDepth 100000 in
theorem open_zp {fuel : Nat} {cs : List Value} {x : DataW H × List MemPlace} (h : DataW.trod enc Tryz.prog w 0 spare held fuel 28 cs = some x) : ∃ r : RawI, ∃ cs' : Array Value, cs = cs'.toList ∧ cs'.size = 2 ∧ RawZ w (.agg cs') r := by
 obtain ⟨b, A, n, c, ds, rfl, hd⟩ := open_zraw h
 exact ⟨(b, ds), #[.bool b, .slice A n c], rfl, rfl, _, rfl, hd⟩
theorem open_zpoly {T fuel : Nat} {v : Value} {x : DataW H × List MemPlace} (hT : Tryz.prog.underlying T = some (.slice 28)) (h : DataW.trod enc Tryz.prog w 0 spare held fuel T v.cells.toList = some x) (hv : ∃ a n c, v = .slice a n c) : ∃ l : List RawI, ZPolyV w v l :=
 open_rows (by decide) (by kernel_rfl) (fun h => open_zp h) hT h hv
end
end Go.Proofs.YtfacbpnegkjcgaaGreatDoor
namespace Go.Hp
open Go.RowKit
/-- The integer that a raw one stands for. -/
def zOf (x : RawI) : Int := iv x.1 x.2
theorem RawZ.has {w : World} {v : Value} {x : RawI} (h : RawZ w v x) (hs : x.2.length ≤ 1099511627776) : HasZ w v (zOf x) ∧ sz (zOf x).natAbs ≤ x.2.length := by
 have h' := h
 obtain ⟨s, rfl, hd⟩ := h'
 refine ⟨⟨x.1, x.2, h, rfl, hs⟩, ?_⟩
 have := sz_dig hd
 unfold zOf; rw [iv_abs]; exact this
theorem ZPolyV.len {w : World} {v : Value} {l : List RawI} (h : ZPolyV w v l) : ∃ A c, v = .slice A l.length c ∧ l.length ≤ c ∧ c ≤ 9223372036854775807 := by
 obtain ⟨A, c, h1, h2, h3, h4⟩ := h; exact ⟨A, c, h1, h2, h3⟩
theorem ZPolyV.at_ {w : World} {A : Option Addr} {n c : Nat} {l : List RawI} (h : ZPolyV w (.slice A n c) l) {j : Nat} (hj : j < l.length) :
  ∃ g o A1 c, A = some ⟨g, o, none⟩ ∧ w.cell? ⟨g, o + j * 2, none⟩ = some (.bool l[j].1) ∧ w.cell? ⟨g, o + j * 2 + 1, none⟩ = some (.slice A1 l[j].2.length c) ∧ RawZ w (.agg #[.bool l[j].1, .slice A1 l[j].2.length c]) l[j] := by
 obtain ⟨A', c', e1, h2, h3, h4⟩ := h
 have e5 : A' = A := by injection e1 with h1; exact h1.symm
 subst e5
 obtain ⟨g, o, q1, q2, q3⟩ := h4 (by omega)
 obtain ⟨cs, r1, r2, r3⟩ := q3 j hj
 have hr := r3
 obtain ⟨s, e, A1, c1, e2, k⟩ := r3
 subst e2
 have e := agg2 e
 subst e
 exact ⟨g, o, A1, c1, q1, r2 0 (by omega), r2 1 (by omega), hr⟩
theorem ZPolyV.has {w : World} {v : Value} {l : List RawI} {d : Nat} (h : ZPolyV w v l) (hs : ∀ x ∈ l, x.2.length ≤ d) (hd : d ≤ 1099511627776 := by omega) : HzV 0 w v (l.map zOf) ∧ ∀ x ∈ l.map zOf, sz x.natAbs ≤ d := by
 obtain ⟨A, c, h1, h2, h3, h4⟩ := h
 have key : ∀ j (hj : j < l.length), ∃ cs : Array Value, cs.size = 2 ∧ RawZ w (.agg cs) l[j] := fun j hj => by
  obtain ⟨g, o, q1, q2, q3⟩ := h4 (by omega)
  obtain ⟨cs, r1, r2, r3⟩ := q3 j hj
  exact ⟨cs, r1, r3⟩
 refine ⟨⟨A, c, by simpa using h1, by simpa using h2, h3, fun h0 => ?_⟩, fun x hx => ?_⟩
 ·obtain ⟨g, o, q1, q2, q3⟩ := h4 (by simpa using h0)
  refine ⟨g, o, q1, q2, fun j hj => ?_⟩
  have hj' : j < l.length := by simpa using hj
  obtain ⟨cs, r1, r2, r3⟩ := q3 j hj'
  refine ⟨cs, r1, r2, ?_⟩
  rw [List.getElem_map]
  exact (r3.has (Nat.le_trans (hs _ (List.getElem_mem hj')) hd)).1
 ·obtain ⟨y, hy, rfl⟩ := List.mem_map.1 hx
  obtain ⟨j, hj, rfl⟩ := List.getElem_of_mem hy
  obtain ⟨cs, -, r3⟩ := key j hj
  have := hs _ (List.getElem_mem hj)
  exact Nat.le_trans (r3.has (by omega)).2 this
theorem ZPolyV.qsz {w : World} {v : Value} {l : List RawI} {d : Nat} (h : ZPolyV w v l) (hs : ∀ x ∈ l, x.2.length ≤ d) (hd : d ≤ 1099511627776 := by omega) (h1 : 1 ≤ d := by omega) (i : Nat) : qsz (cz (l.map zOf) i) ≤ d := cz_qsz (h.has hs hd).2 h1 i
end Go.Hp
namespace Go.Hp
open Go.RowKit
theorem lzf_succ (k : Nat) (F : Nat → Rat) : lzf (k + 1) F = lzf k F ++ [(F k).num] := by simp [lzf, List.range_succ]
theorem small_lenz {n : Nat} (h : n ≤ 1099511627776) : n + 1 ≤ maxLen := by simp only [maxLen]; omega
theorem lzf_cz (l : List Int) : lzf l.length (cz l) = l := by
 apply List.ext_getElem
 ·rw [lzf_len]
 ·intro i h1 h2; rw [lzf_get, cz_lt h2]; rfl
end Go.Hp
namespace Go.Proofs.YtfacbpnegkjcgaaGreatDoor
open Go.RowKit Go.Hp
theorem append_rz (W : World) (base ty g : Nat) (v : Value) (l : List Int) (q : Int) {b : Bool} {A : Option Addr} {n c : Nat} (h : OwnZ base 28 W v l) (hq : IsZ W (.agg #[.bool b, .slice A n c]) q) (hn : l.length ≤ 1099511627776) (hb : base ≤ W.heap.size) (hg : g = W.heap.size) :
  ∃ v' w', (Builtin.append_ #[22, 22] ty #[v, .slice (some ⟨g, 0, none⟩) 1 1]).run Tryz.prog (W.alloc (.cells #[.bool b, .slice A n c] 28)) = .ok v' w' ∧ (OwnZ base 28 w' v' (l ++ [q]) ∧ Upd (blk v) (W.alloc (.cells #[.bool b, .slice A n c] 28)) w') := by
 subst hg
 obtain ⟨g, cs, e1, h1, h2, h3, h4⟩ := NewZ.mk hq (base := W.heap.size) (Nat.le_refl _) 28
 cases e1
 obtain ⟨i0, hi, hz0, hz1, hz2⟩ := info_parts info_int
 have ho := IsZ.one h4
 have hx := (Ext.refl W).alloc (.cells #[.bool b, .slice A n c] 28)
 obtain ⟨v', w', a, b, c⟩ := OwnR.append (P := Tryz.prog) (h.ext hx) 22 ty i0 _ 32 Tryz.underlying22 hi hz0 hz1 hz2 rfl (by simp [nodig, isDig, Value.cells]) (by decide) ⟨W.heap.size, 0, none⟩ 1 cs h3 h4 h2.news ho.1 ho.2.1 (small_lenz hn) (by omega) (Nat.le_trans hb hx.size) (fun _ _ _ k hq => IsZ.kd hq k)
 exact ⟨v', w', a, b, c⟩
set_option maxHeartbeats 1000000 in
theorem normal_rz (v : Value) (l : List Int) (w : World) (hv : HzV 0 w v l) (hn : l.length ≤ 1099511627776) : Calls Tryz.prog 20 #[v] w (Gives w fun r w' => IsZP w.heap.size w' r (cz l)) := by
 have hqs := hv.sz
 obtain ⟨A, c, rfl, hl, hc, hA⟩ := hv
 have HA : Hid (HzAt 0 w A l) := Lib.hid hA; clear hA
 have HQ := Lib.hid hqs; clear hqs
 go_enter Tryz.func20, Tryz.ntmps20
 go_wp2
 go_loopw [3, 4] (fun ov iv wr => ∃ (k : Nat), k ≤ l.length ∧ iv = .int .i64 k ∧ OwnZ w.heap.size 28 wr ov (lzf k (cz l)) ∧ Ext w wr) (fun _ iv _ => l.length - (intOf iv).toNat)
 case atStart => exact ⟨0, Nat.zero_le _, rfl, OwnR.nil _ _ _ _ _, Ext.refl _⟩
 case round =>
  obtain ⟨k, hk, rfl, hown, hx⟩ := hrel
  by_cases hkl : k < l.length
  ·obtain ⟨g, o, b, A1, n, c1, rfl, _, q0, q1, hq⟩ := HA.out.at_ (j := k) hkl
   replace q0 := hx.cell q0
   replace q1 := hx.cell q1
   have Hq := Lib.hid (hq.kd hx.kd); clear hq
   go_wp2_with fail
   refine Calls.mono (norm_r _ _ _ Hq.out) ?_
   rintro e w2 ⟨r, rfl, hr, hx2⟩
   obtain ⟨b5, A5, n5, c5, rfl⟩ := hr.cells
   have Hr := Lib.hid hr; clear hr
   replace hown := hown.ext hx2
   replace hx := hx.trans hx2
   have Hown := Lib.hid hown; clear hown
   have hsz := hx.size
   clear hx2 q0 q1 Hq
   go_wp2_with (at_builtin; refine wpList_append_run rfl _ _ 22 rfl u3 (.slice (some ⟨w2.heap.size, 0, none⟩) 1 1) rfl rfl (append_rz w2 w.heap.size _ _ _ _ _ Hown.out Hr.out (by first | (rw [lzf_len]; omega) | omega) hsz rfl) ?_)
   first | intro v' w5 hown U | rintro v' w5 ⟨hown, U⟩
   replace hx := (Hown.out.ext ((Ext.refl w2).alloc _)).from_ U (hx.alloc _) (Nat.le_refl _)
   have Hown' := Lib.hid hown; clear hown U
   go_wp2
   go_roundw
   case rel => exact ⟨k + 1, by omega, by go_num, by rw [lzf_succ, cz_lt hkl]; exact Hown'.out, hx⟩
   case measure => simp [intOf] <;> omega
  ·obtain rfl : k = l.length := by omega
   rw [lzf_cz] at hown
   obtain ⟨A2, c2, rfl, h2, h3, h4⟩ := OwnZ.row hown
   have Hrow : Hid (ZsAt w.heap.size wr A2 l) := Lib.hid h4; clear h4 hown
   have hx0 := hx
   go_wp2
   clear hx
   go_loopw [5] (fun nv wx => ∃ m : Nat, m ≤ l.length ∧ nv = .int .i64 m ∧ (∀ j, m ≤ j → (h : j < l.length) → l[j] = 0) ∧ Ext wr wx) (fun nv _ => (intOf nv).toNat)
   case atStart => exact ⟨l.length, Nat.le_refl _, rfl, fun j h1 h2 => by omega, Ext.refl _⟩
   case round =>
    obtain ⟨m, hm, rfl, hz, hx⟩ := hrel
    have Hz := Lib.hid hz; clear hz
    by_cases h0 : 0 < m
    ·obtain ⟨m, rfl⟩ : ∃ k, m = k + 1 := ⟨m - 1, by omega⟩
     have hml : m < l.length := by omega
     have Hrow' : Hid (ZsAt w.heap.size _ A2 l) := Lib.hid Hrow.out
     obtain ⟨g, o, b, A1, n, c1, rfl, hb, q0, q1, hq⟩ := Hrow'.out.at_ (j := m) hml
     replace q0 := hx.cell q0
     replace q1 := hx.cell q1
     have Hq := Lib.hid ((hq.has (HQ.out _ (List.getElem_mem hml))).kd hx.kd); clear hq
     go_wp2_with fail
     refine Calls.mono (sign_r _ l[m] _ Hq.out) ?_
     rintro e w2 ⟨r, rfl, rfl, hx2⟩
     by_cases hd0 : l[m]'(by omega) = 0
     ·have hb : (l[m].sign == 0) = true := by rw [hd0]; rfl
      have Hd := Lib.hid hd0; clear hd0
      go_wp2
      go_roundw
      case rel => exact ⟨m, by omega, by go_num, fun j h1 h2 => by
       rcases Nat.eq_or_lt_of_le h1 with e | e
       ·subst e; exact Hd.out
       ·exact Hz.out j (by omega) h2, hx.trans hx2⟩
      case measure => simp [intOf] <;> omega
     ·have hb : (l[m].sign == 0) = false := by
       have : l[m].sign ≠ 0 := fun e => hd0 (Int.sign_eq_zero_iff_zero.1 e)
       simpa using this
      have Hd := Lib.hid hd0; clear hd0
      go_wp2
      go_ret
      have hlen := trimZ_take hm Hz.out (fun h _ => by simpa using Hd.out)
      have hR := (ZsV.trim (Hrow.out.ext (hx.trans hx2)) h2 h3)
      rw [hlen] at hR
      exact Gives.mk (IsZP.of_trim hR rfl) ((hx0.trans hx).trans hx2)
    ·obtain rfl : m = 0 := by omega
     have hlen := trimZ_take hm Hz.out (fun h hh => by omega)
     have hR := (ZsV.trim (Hrow.out.ext hx) h2 h3)
     rw [hlen] at hR
     have HR := Lib.hid (And.intro hR hlen); clear hR hlen
     go_wp2
     go_ret
     exact Gives.mk (IsZP.of_trim HR.out.1 rfl) (hx0.trans hx)
theorem degree_rz (v : Value) (l : List Int) (w : World) (hv : HzV 0 w v l) (hn : l.length ≤ 1099511627776) : Calls Tryz.prog 25 #[v] w (Gives w fun r _ => r = .int .i64 ((pl (cz l) : Int) - 1)) := by
 have HV := Lib.hid hv
 obtain ⟨A, c, rfl⟩ := hv.len
 clear hv
 have hpl : pl (cz l) ≤ l.length := pl_le (cz_sup l)
 go_enter Tryz.func25, Tryz.ntmps25
 go_wp2_with fail
 refine Calls.mono (normal_rz _ l _ HV.out hn) ?_
 rintro e w1 ⟨r, rfl, hr, hx1⟩
 obtain ⟨A2, c2, rfl, -⟩ := hr.shape
 clear hr
 go_wp2
 go_ret
 exact Gives.mk rfl hx1
theorem at_rz (v : Value) (l : List Int) (k : Nat) (w : World) (hv : HzV 0 w v l) (hk : k ≤ 9223372036854775807) : Calls Tryz.prog 88 #[v, .int .i64 (k : Nat)] w (Gives w fun r w' => IsZ w' r (cz l k).num) := by
 obtain ⟨A, c, rfl, hl, hc, hA⟩ := hv
 by_cases hkl : k < l.length
 ·obtain ⟨g, o, b, A1, n, c1, rfl, _, q0, q1, hq⟩ := HzAt.at_ hA (j := k) hkl
  rw [cz_lt hkl]
  have Hq := Lib.hid hq; clear hq hA
  have hkc : (k : Int) < l.length := by omega
  replace q0 := ((Ext.refl w).alloc (.cells #[.bool false, .slice none 0 0] 28)).cell q0
  replace q1 := ((Ext.refl w).alloc (.cells #[.bool false, .slice none 0 0] 28)).cell q1
  go_enter Tryz.func88, Tryz.ntmps88
  go_wp2_with fail
  refine Calls.mono (norm_r _ _ _ (Hq.out.kd ((Ext.refl w).alloc _).kd)) ?_
  rintro e w1 ⟨r, rfl, hr, hx1⟩
  clear q0 q1
  obtain ⟨b5, A5, n5, c5, rfl⟩ := hr.cells
  have hc1 := hx1.cells
  have hf1 := hx1.frozens
  have Hfin := Lib.hid (fin_z hr hx1.a1 (NoDig.at_ hx1 (g := w.heap.size + 0) (by simp) (by simp [isDig])) (by omega))
  clear hr
  go_wp2
  refine bodyPost_ret (v := .agg #[.bool b5, .slice A5 n5 c5]) (by simp [results, Tryz.results88, go_sem, hc1]) rfl ?_
  exact Hfin.out
 ·have hz : (cz l k).num = 0 := by rw [cz_ge (by omega)]; rfl
  have hkc : ¬ (k : Int) < l.length := by omega
  have Hz := Lib.hid hz; clear hz hA
  rw [Hz.out]
  go_enter Tryz.func88, Tryz.ntmps88
  go_wp2_with fail
  refine Calls.mono (of_r 0 _ (by omega) (by omega)) ?_
  rintro e w1 ⟨r, rfl, hr, hx1⟩
  obtain ⟨b5, A5, n5, c5, rfl⟩ := hr.cells
  have hc1 := hx1.cells
  have hf1 := hx1.frozens
  have Hfin := Lib.hid (fin_z hr hx1.a1 (NoDig.at_ hx1 (g := w.heap.size + 0) (by simp) (by simp [isDig])) (by omega))
  clear hr
  go_wp2
  refine bodyPost_ret (v := .agg #[.bool b5, .slice A5 n5 c5]) (by simp [results, Tryz.results88, go_sem, hc1]) rfl ?_
  exact Hfin.out
theorem at_negz (v : Value) (l : List Int) (w : World) (hv : HzV 0 w v l) : Calls Tryz.prog 88 #[v, .int .i64 (-1)] w (Gives w fun r w' => IsZ w' r 0) := by
 obtain ⟨A, c, rfl, hl, hc, hA⟩ := hv
 clear hA
 go_enter Tryz.func88, Tryz.ntmps88
 go_wp2_with fail
 refine Calls.mono (of_r 0 _ (by omega) (by omega)) ?_
 rintro e w1 ⟨r, rfl, hr, hx1⟩
 obtain ⟨b5, A5, n5, c5, rfl⟩ := hr.cells
 have hc1 := hx1.cells
 have hf1 := hx1.frozens
 have Hfin := Lib.hid (fin_z hr hx1.a1 (NoDig.at_ hx1 (g := w.heap.size + 0) (by simp) (by simp [isDig])) (by omega))
 clear hr
 go_wp2
 refine bodyPost_ret (v := .agg #[.bool b5, .slice A5 n5 c5]) (by simp [results, Tryz.results88, go_sem, hc1]) rfl ?_
 exact Hfin.out
theorem lead_rz (v : Value) (l : List Int) (w : World) (hv : HzV 0 w v l) (hn : l.length ≤ 1099511627776) : Calls Tryz.prog 65 #[v] w (Gives w fun r w' => IsZ w' r (ld (cz l)).num) := by
 have HV := Lib.hid hv
 obtain ⟨A, c, rfl⟩ := hv.len
 clear hv
 have hpl : pl (cz l) ≤ l.length := pl_le (cz_sup l)
 obtain ⟨X, hX⟩ : ∃ X, X = (ld (cz l)).num := ⟨_, rfl⟩
 rw [← hX]
 have HX := Lib.hid hX; clear hX
 go_enter Tryz.func65, Tryz.ntmps65
 go_wp2_with fail
 refine Calls.mono (degree_rz _ l _ (HV.out.ext ((Ext.refl w).alloc _)) hn) ?_
 rintro e w1 ⟨r, rfl, rfl, hx⟩
 by_cases h0 : 0 < pl (cz l)
 ·obtain ⟨k, hk⟩ : ∃ k : Nat, k = pl (cz l) - 1 := ⟨_, rfl⟩
  have e1 : (pl (cz l) : Int) - 1 = (k : Nat) := by omega
  have hl : X = (cz l k).num := by rw [HX.out]; unfold ld; rw [hk]
  have HL := Lib.hid hl
  rw [e1]
  have hk9 : k ≤ 9223372036854775807 := by omega
  clear e1 hl hk
  go_wp2_with fail
  refine Calls.mono (at_rz _ l k _ (HV.out.ext hx.a1) hk9) ?_
  rintro e w2 ⟨r, rfl, hr, hx2⟩
  rw [← HL.out] at hr
  have hx1 := hx.trans hx2
  clear hx hx2
  obtain ⟨b5, A5, n5, c5, rfl⟩ := hr.cells
  have hc1 := hx1.cells
  have hf1 := hx1.frozens
  have Hfin := Lib.hid (fin_z hr hx1.a1 (NoDig.at_ hx1 (g := w.heap.size + 0) (by simp) (by simp [isDig])) (by omega))
  clear hr
  go_wp2
  refine bodyPost_ret (v := .agg #[.bool b5, .slice A5 n5 c5]) (by simp [results, Tryz.results65, go_sem, hc1]) rfl ?_
  exact Hfin.out
 ·have e1 : (pl (cz l) : Int) - 1 = -1 := by omega
  have hl : X = 0 := by rw [HX.out]; unfold ld; rw [show pl (cz l) - 1 = 0 from by omega, (pl_zero (Fin_.cz l)).1 (by omega)]; rfl
  have HL := Lib.hid hl
  rw [e1]
  clear e1 hl
  go_wp2_with fail
  refine Calls.mono (at_negz _ l _ (HV.out.ext hx.a1)) ?_
  rintro e w2 ⟨r, rfl, hr, hx2⟩
  rw [← HL.out] at hr
  have hx1 := hx.trans hx2
  clear hx hx2
  obtain ⟨b5, A5, n5, c5, rfl⟩ := hr.cells
  have hc1 := hx1.cells
  have hf1 := hx1.frozens
  have Hfin := Lib.hid (fin_z hr hx1.a1 (NoDig.at_ hx1 (g := w.heap.size + 0) (by simp) (by simp [isDig])) (by omega))
  clear hr
  go_wp2
  refine bodyPost_ret (v := .agg #[.bool b5, .slice A5 n5 c5]) (by simp [results, Tryz.results65, go_sem, hc1]) rfl ?_
  exact Hfin.out
end Go.Proofs.YtfacbpnegkjcgaaGreatDoor
namespace Go.Hp
open Go.RowKit
/-- The slices that long is handed. -/
def ListsZ (w : World) (g : Nat) (vs : List (Value × List RawI)) : Prop := ∀ j (h : j < vs.length), w.cell? ⟨g, j, none⟩ = some vs[j].1 ∧ ZPolyV w vs[j].1 vs[j].2
/-- What long answers. -/
def LongZ (most d : Nat) (vs : List (Value × List RawI)) (w : World) (e : Ending) (w' : World) : Prop := w = w' ∧ ∃ b : Bool, e = .returned (.bool b) ∧ (b = false → ∀ p ∈ vs, p.2.length ≤ most ∧ ∀ x ∈ p.2, x.2.length ≤ d)
def FineZ (most d : Nat) (l : List RawI) : Prop := l.length ≤ most ∧ ∀ x ∈ l, x.2.length ≤ d
theorem listsZ_two (w : World) (t : TypeId) {v u : Value} {l m : List RawI} (h1 : ZPolyV w v l) (h2 : ZPolyV w u m) {g : Nat} (hg : g = w.heap.size) : ListsZ (w.alloc (.cells #[v, u] t)) g [(v, l), (u, m)] := by
 subst hg
 intro j hj
 have hj2 : j < 2 := by simpa using hj
 match j, hj2 with
 | 0, _ => exact ⟨by rw [cell_of_row _ w.heap.size 0 _ t (0, 0) (heap_alloc_new w _)]; rfl, h1.ext ((Ext.refl w).alloc _)⟩
 | 1, _ => exact ⟨by rw [cell_of_row _ w.heap.size 1 _ t (0, 0) (heap_alloc_new w _)]; rfl, h2.ext ((Ext.refl w).alloc _)⟩
end Go.Hp
namespace Go.Proofs.YtfacbpnegkjcgaaGreatDoor
open Go.RowKit Go.Hp
set_option maxRecDepth 20000 in
set_option maxHeartbeats 1000000 in
theorem zs_b (v : Value) (ns : List Int) (w : World) (hv : IntsV w v ns) (hn : ns.length ≤ 1000) (hs : ∀ n ∈ ns, -4294967296 < n ∧ n < 4294967296) : Calls Tryz.prog 59 #[v] w (Gives w fun r w' => ZsV w.heap.size w' r ns) := by
 obtain ⟨g, c, rfl, h1, h2, h3⟩ := hv
 have H3 := Lib.hid (And.intro h3 hs); clear h3 hs
 go_enter Tryz.func59, Tryz.ntmps59
 go_wp2
 go_loopw [3, 4] (fun ov iv wr => ∃ (k : Nat), k ≤ ns.length ∧ iv = .int .i64 k ∧ OwnZ w.heap.size 28 wr ov (ns.take k) ∧ Ext w wr) (fun _ iv _ => ns.length - (intOf iv).toNat)
 case atStart => exact ⟨0, Nat.zero_le _, rfl, OwnR.nil _ _ _ _ _, Ext.refl _⟩
 case round =>
  obtain ⟨k, hk, rfl, hown, hx⟩ := hrel
  have Hown0 := Lib.hid hown; clear hown
  by_cases hkl : k < ns.length
  ·have q0 := hx.cell (H3.out.1 k hkl)
   obtain ⟨m, hm⟩ : ∃ m, m = ns[k] := ⟨_, rfl⟩
   rw [← hm] at q0
   have hb := H3.out.2 ns[k] (List.getElem_mem hkl)
   rw [← hm] at hb
   have Hm := Lib.hid hm; clear hm
   go_wp2_with fail
   refine Calls.mono (z_b m _ hb.1 hb.2) ?_
   rintro e w2 ⟨r, rfl, hr, hx2⟩
   obtain ⟨b5, A5, n5, c5, rfl⟩ := hr.cells
   have Hr := Lib.hid hr; clear hr
   have hown := Hown0.out.ext hx2
   have Hown := Lib.hid hown; clear hown
   replace hx := hx.trans hx2
   have hsz := hx.size
   have hlk : (ns.take k).length ≤ 1000 := Nat.le_trans (List.length_take_le _ _) (by omega)
   clear hx2 q0 Hown0
   go_wp2_with (at_builtin; refine wpList_append_run rfl _ _ 22 rfl u3 (.slice (some ⟨w2.heap.size, 0, none⟩) 1 1) rfl rfl (append_rz w2 w.heap.size _ _ _ _ _ Hown.out Hr.out (by first | (rw [lzf_len]; omega) | omega) hsz rfl) ?_)
   first | intro v' w5 hown U | rintro v' w5 ⟨hown, U⟩
   replace hx := (Hown.out.ext ((Ext.refl w2).alloc _)).from_ U (hx.alloc _) (Nat.le_refl _)
   have Hown' := Lib.hid hown; clear hown U
   go_wp2
   go_roundw
   case rel => exact ⟨k + 1, by omega, by go_num, by
    rw [List.take_succ_eq_append_getElem hkl, ← Hm.out]; exact Hown'.out, hx⟩
   case measure => simp [intOf] <;> omega
  ·obtain rfl : k = ns.length := by omega
   have hq := OwnZ.row Hown0.out
   rw [List.take_of_length_le (Nat.le_refl _)] at hq
   have Hq := Lib.hid hq; clear hq Hown0
   go_wp2
   go_ret
   exact Gives.mk Hq.out hx
set_option maxHeartbeats 2000000 in
theorem zlong_b (most d : Nat) (g c : Nat) (vs : List (Value × List RawI)) (w : World) (hm : most ≤ 1000) (hd : d ≤ 1000) (hn : vs.length ≤ 1000) (hc : vs.length ≤ c) (hv : ListsZ w g vs) :
  Calls Tryz.prog 12 #[.int .i64 (most : Nat), .int .i64 (d : Nat), .slice (some ⟨g, 0, none⟩) vs.length c] w (LongZ most d vs w) := by
 have HV := Lib.hid hv; clear hv
 go_enter Tryz.func12, Tryz.ntmps12
 go_wp2
 go_loop [7] (fun iv => ∃ i : Nat, i ≤ vs.length ∧ iv = .int .i64 i ∧ ∀ j (h : j < vs.length), j < i → FineZ most d vs[j].2) (fun iv => vs.length - (intOf iv).toNat)
 case atStart => exact ⟨0, Nat.zero_le _, rfl, fun j h h' => by omega⟩
 case round =>
  obtain ⟨i, hi, rfl, hst⟩ := hrel
  have Hst := Lib.hid hst; clear hst
  by_cases hil : i < vs.length
  ·obtain ⟨q, hp⟩ := HV.out i hil
   obtain ⟨A1, c1, e1, hl1, hl2⟩ := hp.len
   rw [e1] at q hp
   obtain ⟨l, hl⟩ : ∃ l, l = vs[i].2 := ⟨_, rfl⟩
   rw [← hl] at q hp hl1
   have Hl := Lib.hid (And.intro hl hp); clear hl hp e1
   by_cases hlong : most < l.length
   ·skip
    go_wp2
    go_ret
    exact ⟨rfl, true, rfl, fun h => by cases h⟩
   ·go_wp2
    go_loop [8] (fun kv => ∃ k : Nat, k ≤ l.length ∧ kv = .int .i64 k ∧ ∀ j (h : j < l.length), j < k → l[j].2.length ≤ d) (fun kv => l.length - (intOf kv).toNat)
    case atStart => exact ⟨0, Nat.zero_le _, rfl, fun j h h' => by omega⟩
    case round =>
     obtain ⟨k, hk, rfl, hsm⟩ := hrel
     have Hsm := Lib.hid hsm; clear hsm
     by_cases hkl : k < l.length
     ·obtain ⟨g', o', B1, d1, rfl, r0, r1, -⟩ := Hl.out.2.at_ hkl
      obtain ⟨n, hn1⟩ : ∃ n, n = l[k].2.length := ⟨_, rfl⟩
      rw [← hn1] at r1
      have He := Lib.hid hn1; clear hn1
      by_cases hx1 : d < n
      ·skip
       go_wp2
       go_ret
       exact ⟨rfl, true, rfl, fun h => by cases h⟩
      ·go_wp2
       go_round
       case rel => exact ⟨k + 1, by omega, by go_num, fun j h1 h2 => by
        rcases Nat.lt_or_ge j k with h | h
        ·exact Hsm.out j h1 h
        ·obtain rfl : j = k := by omega
         have := He.out
         omega⟩
       case measure => simp [intOf] <;> omega
     ·obtain rfl : k = l.length := by omega
      go_wp2
      go_round
      case rel => exact ⟨i + 1, by omega, by go_num, fun j h1 h2 => by
       rcases Nat.lt_or_ge j i with h | h
       ·exact Hst.out j h1 h
       ·obtain rfl : j = i := by omega
        rw [← Hl.out.1]
        exact ⟨by omega, fun x hx => by
         obtain ⟨j, hj, rfl⟩ := List.getElem_of_mem hx
         exact Hsm.out j hj hj⟩⟩
      case measure => simp [intOf] <;> omega
  ·obtain rfl : i = vs.length := by omega
   go_wp2
   go_ret
   exact ⟨rfl, false, rfl, fun _ p hp => by
    obtain ⟨j, hj, rfl⟩ := List.getElem_of_mem hp
    exact Hst.out j hj hj⟩
end Go.Proofs.YtfacbpnegkjcgaaGreatDoor
namespace Go.Proofs.YtfacbpnegkjcgaaGreatDoor
open Go.RowKit Go.Hp
end Go.Proofs.YtfacbpnegkjcgaaGreatDoor
namespace Go.Hp
open Go.RowKit
theorem IntsV.ext {w w' : World} {v : Value} {ns : List Int} (h : IntsV w v ns) (e : Ext w w') : IntsV w' v ns := by
 obtain ⟨g, c, h1, h2, h3, h4⟩ := h
 exact ⟨g, c, h1, h2, h3, fun j hj => e.cell (h4 j hj)⟩
theorem aw_res : (res (cz [1, 0, 1]) (cz [-2, 1])).num = 5 := by
 have h1 : pl (cz [1, 0, 1]) = 3 := pl_eq (cz_sup [1, 0, 1]) (fun _ => by decide +kernel)
 have h2 : pl (cz [-2, 1]) = 2 := pl_eq (cz_sup [-2, 1]) (fun _ => by decide +kernel)
 unfold res
 rw [h1, h2]
 decide +kernel
theorem aw_mul : pl (cv (cz [1, 1]) (cz [1, 1])) = 3 := by
 have h : pl (cz [1, 1]) = 2 := pl_eq (cz_sup [1, 1]) (fun _ => by decide +kernel)
 have h0 : cz [1, 1] ≠ pz := fun e => by rw [e, pl_pz] at h; omega
 rw [pl_cv (Fin_.cz _) (Fin_.cz _) h0 h0, h]
/-- A slice of three. -/
def Sl3 (v : Value) : Prop := ∃ A c, v = .slice A 3 c
theorem small_cz {l : List Int} (h : ∀ x ∈ l, sz x.natAbs ≤ 1) (i : Nat) : qsz (cz l i) ≤ 1 := cz_qsz h (by omega) i
end Go.Hp
namespace Go.Proofs.YtfacbpnegkjcgaaGreatDoor
open Go.RowKit Go.Hp
theorem sameint_t (v u : Value) (x : Int) (w : World) (hv : IsZ w v x) (hu : IsZ w u x) : Calls Tryz.prog 15 #[v, u] w (Gives w fun r _ => r = .bool true) :=
 Gives.imp (sameint_b v u x x w hv hu) fun r _ h => by rw [h]; simp
set_option maxRecDepth 20000 in
set_option maxHeartbeats 4000000 in
theorem awake_z (w : World) : Calls Tryz.prog 11 #[] w (Gives w fun r _ => r = .bool true) := by
 have K1 := Lib.hid (show ∀ x ∈ ([1, 0, 1] : List Int), sz x.natAbs ≤ 1 by decide +kernel)
 have K2 := Lib.hid (show ∀ x ∈ ([-2, 1] : List Int), sz x.natAbs ≤ 1 by decide +kernel)
 have K3 := Lib.hid (show ∀ x ∈ ([1, 1] : List Int), sz x.natAbs ≤ 1 by decide +kernel)
 go_enter Tryz.func11, Tryz.ntmps11
 go_wp2_with fail
 refine Calls.mono (zs_b _ [1, 0, 1] _ (IntsV.new w _ [1, 0, 1] (by decide)) (by decide) (by decide)) ?_
 rintro e w1 ⟨r1, rfl, h1, hx⟩
 have H1 := Lib.hid (h1.has (fun x hx => by have := K1.out x hx; omega)); clear h1
 replace hx := hx.a1
 go_wp2_with fail
 refine Calls.mono (zs_b _ [-2, 1] _ (IntsV.new w1 _ [-2, 1] (by decide)) (by decide) (by decide)) ?_
 rintro e w2 ⟨r2, rfl, h2, hx2⟩
 have H2 := Lib.hid (h2.has (fun x hx => by have := K2.out x hx; omega)); clear h2
 have H1 := Lib.hid (H1.out.ext hx2.a1)
 replace hx := hx.trans hx2.a1
 clear hx2
 have hpl1 : pl (cz [1, 0, 1]) ≤ 3 := pl_le (cz_sup [1, 0, 1])
 have hpl2 : pl (cz [-2, 1]) ≤ 2 := pl_le (cz_sup [-2, 1])
 have HB := Lib.hid (show 8 + 8 * ((pl (cz [1, 0, 1]) + pl (cz [-2, 1]) + 1) * ((pl (cz [1, 0, 1]) + pl (cz [-2, 1]) + 1) * ((1 + 1) * 2 ^ (pl (cz [1, 0, 1]) + pl (cz [-2, 1]))))) ≤ 1099511627776 from by
  have a1 : 2 ^ (pl (cz [1, 0, 1]) + pl (cz [-2, 1])) ≤ 2 ^ 5 := Nat.pow_le_pow_right (by decide) (by omega)
  have a2 : (pl (cz [1, 0, 1]) + pl (cz [-2, 1]) + 1) * ((pl (cz [1, 0, 1]) + pl (cz [-2, 1]) + 1) * ((1 + 1) * 2 ^ (pl (cz [1, 0, 1]) + pl (cz [-2, 1])))) ≤ 6 * (6 * ((1 + 1) * 2 ^ 5)) := Nat.mul_le_mul (by omega) (Nat.mul_le_mul (by omega) (Nat.mul_le_mul_left _ a1))
  omega)
 clear hpl1 hpl2
 go_wp2_with fail
 refine Calls.mono (resultant_z _ _ [1, 0, 1] [-2, 1] 1 _ H1.out H2.out (small_cz K1.out) (small_cz K2.out) (by decide) (by decide) HB.out) ?_
 rintro e w3 ⟨r3, rfl, h3, hx3⟩
 rw [aw_res] at h3
 obtain ⟨b5, A5, n5, c5, rfl⟩ := h3.cells
 obtain ⟨W9, eW9, e9, x9⟩ := Box.made w3 28 #[.bool b5, .slice A5 n5 c5] (by simp [isDig])
 replace hx := (hx.trans hx3).trans x9
 have H3 := Lib.hid (h3.kd x9.kd)
 clear hx3 h3 H1 H2 HB
 go_upto_region 2 with (fail)
 rw [← eW9]
 clear eW9 x9
 generalize w3.heap.size = gb at *
 obtain ⟨q0, q1⟩ := e9.cells2
 go_wp2_with fail
 refine wp_region_par (k := 18) (D := [7, 8, 9, 10, 11, 12, 13, 14, 15, 16, 17, 18, 19, 20, 21, 22, 23, 24]) (T := [[], [], [0, 1], [0, 1, 2], [0, 1, 2, 3], [0, 1, 2, 3, 4], [0, 1, 2, 3, 4, 5], [0, 1, 2, 3, 4, 5, 6], [0, 1, 2, 3, 4, 5, 6, 7], [0, 1, 2, 3, 4, 5, 6, 7, 8], [0, 1, 2, 3, 4, 5, 6, 7, 8, 9], [0, 1, 2, 3, 4, 5, 6, 7, 8, 9, 10], [0, 1, 2, 3, 4, 5, 6, 7, 8, 9], [0, 1, 2, 3, 4, 5, 6, 7, 8, 9, 10, 11, 12], [0, 1, 2, 3, 4, 5, 6, 7, 8, 9, 10, 11, 12, 13], [0, 1, 2, 3, 4, 5, 6, 7, 8, 9, 10, 11, 12, 13, 14], [0, 1, 2, 3, 4, 5, 6, 7, 8, 9, 10, 11, 12, 13, 14, 15], [0, 1, 2, 3, 4, 5, 6, 7, 8, 9, 10, 11, 12, 13, 14, 15, 16], [0, 1, 2, 3, 4, 5, 6, 7, 8, 9, 10, 11, 12, 13, 14, 15, 16, 17]]) (EK := [1]) (EV := [?e1x0]) (VL := [(kv ?v1x0), (fun γ => γ 1), (kv (.bool true)), (kv ?v1x3), (fun γ => γ 4), (fun γ => γ 5), (kv (.string ⟨#[51, 42, 120, 94, 50, 32, 45, 32, 120, 32, 43, 32, 53]⟩)), (kv ?v1x7), (kv ?v1x8), (kv ?v1x9), (fun γ => γ 10), (fun γ => γ 11), (fun γ => γ 12), (fun γ => γ 13), (fun γ => γ 14), (kv (.int .i64 3)), (kv ?v1x16), (kv ?v1x17)]) (FL := fun γ w' => [True, IsZ w' (γ 1) 5, True, True, IntsV w' (γ 4) [5, -1, 3], ZsV 0 w' (γ 5) [5, -1, 3], True, True, True, True, IntsV w' (γ 10) [1, 1], ZsV 0 w' (γ 11) [1, 1], IntsV w' (γ 12) [1, 1], ZsV 0 w' (γ 13) [1, 1], Sl3 (γ 14), True, True, True]) ?hE1 (by kernel_rfl) (by kernel_rfl) (by rfl) (by kernel_rfl) ?hloc1 ?hmono1 ?hstep1 ?htail1
 case hE1 => refine ⟨?_, trivial⟩ <;> (simp only [List.getElem?_toArray, List.getElem?_cons_succ, List.getElem?_cons_zero]; rfl)
 case hstep1 =>
  refine ⟨⟨⟨⟨⟨⟨⟨⟨⟨⟨⟨⟨⟨⟨⟨⟨⟨⟨trivial, ?_⟩, ?_⟩, ?_⟩, ?_⟩, ?_⟩, ?_⟩, ?_⟩, ?_⟩, ?_⟩, ?_⟩, ?_⟩, ?_⟩, ?_⟩, ?_⟩, ?_⟩, ?_⟩, ?_⟩, ?_⟩
  ·intro γ w' he hf; clear hf; refine ⟨trivial, ?_⟩; intro R hR
   have hc := he.cells
   have cq0 := he.cell q0
   have cq1 := he.cell q1
   go_simp
   (try go_ints); (try (rw [if_neg (by omega)])); (try (rw [if_pos (by omega)])); (try go_simp); (try go_ints)
   refine hR _ _ (Ext.refl _) ?_ trivial
   rfl
  ·intro γ w' he hf; clear hf; refine ⟨trivial, ?_⟩; intro R hR
   go_simp
   refine Calls.mono (show Calls _ _ _ w' (Gives w' fun r w'' => IsZ w'' (r) 5) from z_b 5 w' (by omega) (by omega)) ?_
   rintro e w2 ⟨v, rfl, hv, hx⟩
   exact ⟨v, rfl, hR v w2 hx rfl hv⟩
  ·intro γ w' he hf; have f1 : IsZ w' (γ 1) 5 := hf 1 (by decide); clear hf; refine ⟨trivial, ?_⟩; intro R hR
   go_simp
   refine Calls.mono (show Calls _ _ _ w' (Gives w' fun r _ => r = .bool true) from sameint_t _ _ 5 w' (H3.out.kd he.kd) f1) ?_
   rintro e w2 ⟨v, rfl, rfl, hx⟩
   exact ⟨_, rfl, hR _ w2 hx rfl trivial⟩
  ·intro γ w' he hf; have f1 : IsZ w' (γ 1) 5 := hf 1 (by decide); clear hf; refine ⟨trivial, ?_⟩; intro R hR
   have hc := he.cells
   go_simp
   (try go_ints); (try (rw [if_neg (by omega)])); (try (rw [if_pos (by omega)])); (try go_simp); (try go_ints)
   refine hR _ _ (Ext.refl _) ?_ trivial
   rfl
  ·intro γ w' he hf; have f1 : IsZ w' (γ 1) 5 := hf 1 (by decide); clear hf; refine ⟨rfl, ?_⟩; intro R hR
   go_simp
   exact hR _ _ ((Ext.refl _).alloc _) rfl (IntsV.new w' _ [5, -1, 3] (by decide))
  ·intro γ w' he hf; have f1 : IsZ w' (γ 1) 5 := hf 1 (by decide); have f4 : IntsV w' (γ 4) [5, -1, 3] := hf 4 (by decide); clear hf; refine ⟨rfl, ?_⟩; intro R hR
   go_simp
   refine Calls.mono (show Calls _ _ _ w' (Gives w' fun r w'' => ZsV 0 w'' (r) [5, -1, 3]) from Gives.imp (zs_b _ [5, -1, 3] w' f4 (by decide) (by decide)) fun _ _ h => RowV.base_le h (Nat.zero_le _)) ?_
   rintro e w2 ⟨v, rfl, hv, hx⟩
   exact ⟨v, rfl, hR v w2 hx rfl hv⟩
  ·intro γ w' he hf; have f1 : IsZ w' (γ 1) 5 := hf 1 (by decide); have f4 : IntsV w' (γ 4) [5, -1, 3] := hf 4 (by decide); have f5 : ZsV 0 w' (γ 5) [5, -1, 3] := hf 5 (by decide); clear hf; refine ⟨rfl, ?_⟩; intro R hR
   go_simp
   refine Calls.mono (show Calls _ _ _ w' (Gives w' fun r _ => r = .string ⟨#[51, 42, 120, 94, 50, 32, 45, 32, 120, 32, 43, 32, 53]⟩) from format_aw _ 0 w' f5) ?_
   rintro e w2 ⟨v, rfl, rfl, hx⟩
   exact ⟨_, rfl, hR _ w2 hx rfl trivial⟩
  ·intro γ w' he hf; have f1 : IsZ w' (γ 1) 5 := hf 1 (by decide); have f4 : IntsV w' (γ 4) [5, -1, 3] := hf 4 (by decide); have f5 : ZsV 0 w' (γ 5) [5, -1, 3] := hf 5 (by decide); clear hf; refine ⟨rfl, ?_⟩; intro R hR
   have hc := he.cells
   go_simp
   (try go_ints); (try (rw [if_neg (by omega)])); (try (rw [if_pos (by omega)])); (try go_simp); (try go_ints)
   refine hR _ _ (Ext.refl _) ?_ trivial
   rfl
  ·intro γ w' he hf; have f1 : IsZ w' (γ 1) 5 := hf 1 (by decide); have f4 : IntsV w' (γ 4) [5, -1, 3] := hf 4 (by decide); have f5 : ZsV 0 w' (γ 5) [5, -1, 3] := hf 5 (by decide); clear hf; refine ⟨trivial, ?_⟩; intro R hR
   have hc := he.cells
   go_simp
   (try go_ints); (try (rw [if_neg (by omega)])); (try (rw [if_pos (by omega)])); (try go_simp); (try go_ints)
   refine hR _ _ (Ext.refl _) ?_ trivial
   rfl
  ·intro γ w' he hf; have f1 : IsZ w' (γ 1) 5 := hf 1 (by decide); have f4 : IntsV w' (γ 4) [5, -1, 3] := hf 4 (by decide); have f5 : ZsV 0 w' (γ 5) [5, -1, 3] := hf 5 (by decide); clear hf; refine ⟨trivial, ?_⟩; intro R hR
   have hc := he.cells
   go_simp
   (try go_ints); (try (rw [if_neg (by omega)])); (try (rw [if_pos (by omega)])); (try go_simp); (try go_ints)
   refine hR _ _ (Ext.refl _) ?_ trivial
   rfl
  ·intro γ w' he hf; have f1 : IsZ w' (γ 1) 5 := hf 1 (by decide); have f4 : IntsV w' (γ 4) [5, -1, 3] := hf 4 (by decide); have f5 : ZsV 0 w' (γ 5) [5, -1, 3] := hf 5 (by decide); clear hf; refine ⟨rfl, ?_⟩; intro R hR
   go_simp
   exact hR _ _ ((Ext.refl _).alloc _) rfl (IntsV.new w' _ [1, 1] (by decide))
  ·intro γ w' he hf; have f1 : IsZ w' (γ 1) 5 := hf 1 (by decide); have f4 : IntsV w' (γ 4) [5, -1, 3] := hf 4 (by decide); have f5 : ZsV 0 w' (γ 5) [5, -1, 3] := hf 5 (by decide); have f10 : IntsV w' (γ 10) [1, 1] := hf 10 (by decide); clear hf; refine ⟨rfl, ?_⟩; intro R hR
   go_simp
   refine Calls.mono (show Calls _ _ _ w' (Gives w' fun r w'' => ZsV 0 w'' (r) [1, 1]) from Gives.imp (zs_b _ [1, 1] w' f10 (by decide) (by decide)) fun _ _ h => RowV.base_le h (Nat.zero_le _)) ?_
   rintro e w2 ⟨v, rfl, hv, hx⟩
   exact ⟨v, rfl, hR v w2 hx rfl hv⟩
  ·intro γ w' he hf; have f1 : IsZ w' (γ 1) 5 := hf 1 (by decide); have f4 : IntsV w' (γ 4) [5, -1, 3] := hf 4 (by decide); have f5 : ZsV 0 w' (γ 5) [5, -1, 3] := hf 5 (by decide); clear hf; refine ⟨rfl, ?_⟩; intro R hR
   go_simp
   exact hR _ _ ((Ext.refl _).alloc _) rfl (IntsV.new w' _ [1, 1] (by decide))
  ·intro γ w' he hf; have f1 : IsZ w' (γ 1) 5 := hf 1 (by decide); have f4 : IntsV w' (γ 4) [5, -1, 3] := hf 4 (by decide); have f5 : ZsV 0 w' (γ 5) [5, -1, 3] := hf 5 (by decide); have f10 : IntsV w' (γ 10) [1, 1] := hf 10 (by decide); have f11 : ZsV 0 w' (γ 11) [1, 1] := hf 11 (by decide); have f12 : IntsV w' (γ 12) [1, 1] := hf 12 (by decide); clear hf; refine ⟨rfl, ?_⟩; intro R hR
   go_simp
   refine Calls.mono (show Calls _ _ _ w' (Gives w' fun r w'' => ZsV 0 w'' (r) [1, 1]) from Gives.imp (zs_b _ [1, 1] w' f12 (by decide) (by decide)) fun _ _ h => RowV.base_le h (Nat.zero_le _)) ?_
   rintro e w2 ⟨v, rfl, hv, hx⟩
   exact ⟨v, rfl, hR v w2 hx rfl hv⟩
  ·intro γ w' he hf; have f1 : IsZ w' (γ 1) 5 := hf 1 (by decide); have f4 : IntsV w' (γ 4) [5, -1, 3] := hf 4 (by decide); have f5 : ZsV 0 w' (γ 5) [5, -1, 3] := hf 5 (by decide); have f10 : IntsV w' (γ 10) [1, 1] := hf 10 (by decide); have f11 : ZsV 0 w' (γ 11) [1, 1] := hf 11 (by decide); have f12 : IntsV w' (γ 12) [1, 1] := hf 12 (by decide); have f13 : ZsV 0 w' (γ 13) [1, 1] := hf 13 (by decide); clear hf; refine ⟨rfl, ?_⟩; intro R hR
   go_simp
   refine Calls.mono (zmul_p _ _ [1, 1] [1, 1] 1 1 w' (f11.has (fun x hx => by have := K3.out x hx; omega)) (f13.has (fun x hx => by have := K3.out x hx; omega)) (small_cz K3.out) (small_cz K3.out) (by decide) (by decide) (by decide)) ?_
   rintro e w2 ⟨v, rfl, hv, hx⟩
   obtain ⟨A, c, e1, -⟩ := hv.shape
   rw [aw_mul] at e1
   exact ⟨v, rfl, hR v w2 hx rfl ⟨A, c, e1⟩⟩
  ·intro γ w' he hf; have f1 : IsZ w' (γ 1) 5 := hf 1 (by decide); have f4 : IntsV w' (γ 4) [5, -1, 3] := hf 4 (by decide); have f5 : ZsV 0 w' (γ 5) [5, -1, 3] := hf 5 (by decide); have f10 : IntsV w' (γ 10) [1, 1] := hf 10 (by decide); have f11 : ZsV 0 w' (γ 11) [1, 1] := hf 11 (by decide); have f12 : IntsV w' (γ 12) [1, 1] := hf 12 (by decide); have f13 : ZsV 0 w' (γ 13) [1, 1] := hf 13 (by decide); have f14 : Sl3 (γ 14) := hf 14 (by decide); clear hf; refine ⟨rfl, ?_⟩; intro R hR
   obtain ⟨A14, c14, e14⟩ := f14
   have hc := he.cells
   go_simp
   (try go_ints); (try (rw [if_neg (by omega)])); (try (rw [if_pos (by omega)])); (try go_simp); (try go_ints)
   refine hR _ _ (Ext.refl _) ?_ trivial
   rfl
  ·intro γ w' he hf; have f1 : IsZ w' (γ 1) 5 := hf 1 (by decide); have f4 : IntsV w' (γ 4) [5, -1, 3] := hf 4 (by decide); have f5 : ZsV 0 w' (γ 5) [5, -1, 3] := hf 5 (by decide); have f10 : IntsV w' (γ 10) [1, 1] := hf 10 (by decide); have f11 : ZsV 0 w' (γ 11) [1, 1] := hf 11 (by decide); have f12 : IntsV w' (γ 12) [1, 1] := hf 12 (by decide); have f13 : ZsV 0 w' (γ 13) [1, 1] := hf 13 (by decide); have f14 : Sl3 (γ 14) := hf 14 (by decide); clear hf; refine ⟨rfl, ?_⟩; intro R hR
   have hc := he.cells
   go_simp
   (try go_ints); (try (rw [if_neg (by omega)])); (try (rw [if_pos (by omega)])); (try go_simp); (try go_ints)
   refine hR _ _ (Ext.refl _) ?_ trivial
   rfl
  ·intro γ w' he hf; have f1 : IsZ w' (γ 1) 5 := hf 1 (by decide); have f4 : IntsV w' (γ 4) [5, -1, 3] := hf 4 (by decide); have f5 : ZsV 0 w' (γ 5) [5, -1, 3] := hf 5 (by decide); have f10 : IntsV w' (γ 10) [1, 1] := hf 10 (by decide); have f11 : ZsV 0 w' (γ 11) [1, 1] := hf 11 (by decide); have f12 : IntsV w' (γ 12) [1, 1] := hf 12 (by decide); have f13 : ZsV 0 w' (γ 13) [1, 1] := hf 13 (by decide); have f14 : Sl3 (γ 14) := hf 14 (by decide); clear hf; refine ⟨trivial, ?_⟩; intro R hR
   have hc := he.cells
   go_simp
   (try go_ints); (try (rw [if_neg (by omega)])); (try (rw [if_pos (by omega)])); (try go_simp); (try go_ints)
   refine hR _ _ (Ext.refl _) ?_ trivial
   rfl
 case hloc1 =>
  exact ⟨⟨⟨⟨⟨⟨⟨⟨⟨⟨⟨⟨⟨⟨⟨⟨⟨⟨trivial, (fun γ γ' h => ⟨rfl, fun _ => rfl⟩)⟩, (fun γ γ' h => ⟨h 1 rfl, fun w' => (congrArg (fun a => IsZ w' (a) 5) (h 1 rfl))⟩)⟩, (fun γ γ' h => ⟨rfl, fun _ => rfl⟩)⟩, (fun γ γ' h => ⟨rfl, fun _ => rfl⟩)⟩, (fun γ γ' h => ⟨h 4 rfl, fun w' => (congrArg (fun a => IntsV w' (a) [5, -1, 3]) (h 4 rfl))⟩)⟩, (fun γ γ' h => ⟨h 5 rfl, fun w' => (congrArg (fun a => ZsV 0 w' (a) [5, -1, 3]) (h 5 rfl))⟩)⟩, (fun γ γ' h => ⟨rfl, fun _ => rfl⟩)⟩, (fun γ γ' h => ⟨rfl, fun _ => rfl⟩)⟩, (fun γ γ' h => ⟨rfl, fun _ => rfl⟩)⟩, (fun γ γ' h => ⟨rfl, fun _ => rfl⟩)⟩, (fun γ γ' h => ⟨h 10 rfl, fun w' => (congrArg (fun a => IntsV w' (a) [1, 1]) (h 10 rfl))⟩)⟩, (fun γ γ' h => ⟨h 11 rfl, fun w' => (congrArg (fun a => ZsV 0 w' (a) [1, 1]) (h 11 rfl))⟩)⟩, (fun γ γ' h => ⟨h 12 rfl, fun w' => (congrArg (fun a => IntsV w' (a) [1, 1]) (h 12 rfl))⟩)⟩, (fun γ γ' h => ⟨h 13 rfl, fun w' => (congrArg (fun a => ZsV 0 w' (a) [1, 1]) (h 13 rfl))⟩)⟩, (fun γ γ' h => ⟨h 14 rfl, fun w' => (congrArg (fun a => Sl3 (a)) (h 14 rfl))⟩)⟩, (fun γ γ' h => ⟨rfl, fun _ => rfl⟩)⟩, (fun γ γ' h => ⟨rfl, fun _ => rfl⟩)⟩, (fun γ γ' h => ⟨rfl, fun _ => rfl⟩)⟩
 case hmono1 =>
  exact ⟨⟨⟨⟨⟨⟨⟨⟨⟨⟨⟨⟨⟨⟨⟨⟨⟨⟨trivial, (fun γ wA w' e h => h)⟩, (fun γ wA w' e h => (show IsZ wA (γ 1) 5 from h).ext e)⟩, (fun γ wA w' e h => h)⟩, (fun γ wA w' e h => h)⟩, (fun γ w w' e h => IntsV.ext h e)⟩, (fun γ wA w' e h => (show ZsV 0 wA (γ 5) [5, -1, 3] from h).ext e)⟩, (fun γ wA w' e h => h)⟩, (fun γ wA w' e h => h)⟩, (fun γ wA w' e h => h)⟩, (fun γ wA w' e h => h)⟩, (fun γ w w' e h => IntsV.ext h e)⟩, (fun γ wA w' e h => (show ZsV 0 wA (γ 11) [1, 1] from h).ext e)⟩, (fun γ w w' e h => IntsV.ext h e)⟩, (fun γ wA w' e h => (show ZsV 0 wA (γ 13) [1, 1] from h).ext e)⟩, (fun γ w w' e h => h)⟩, (fun γ wA w' e h => h)⟩, (fun γ wA w' e h => h)⟩, (fun γ wA w' e h => h)⟩
 intro γ w4 hx4 hF
 have p1 : IsZ w4 (γ 1) 5 := Each.get hF 1 (by decide)
 have p4 : IntsV w4 (γ 4) [5, -1, 3] := Each.get hF 4 (by decide)
 have p5 : ZsV 0 w4 (γ 5) [5, -1, 3] := Each.get hF 5 (by decide)
 have p10 : IntsV w4 (γ 10) [1, 1] := Each.get hF 10 (by decide)
 have p11 : ZsV 0 w4 (γ 11) [1, 1] := Each.get hF 11 (by decide)
 have p12 : IntsV w4 (γ 12) [1, 1] := Each.get hF 12 (by decide)
 have p13 : ZsV 0 w4 (γ 13) [1, 1] := Each.get hF 13 (by decide)
 have p14 : Sl3 (γ 14) := Each.get hF 14 (by decide)
 clear hF
 simp only [fillAll, gV, kv, List.getD_cons_zero, List.getD_cons_succ, Act.put, List.setIfInBounds_toArray, List.set_cons_zero, List.set_cons_succ, List.toList_toArray, List.drop_succ_cons, List.drop_zero, List.drop_nil, Nat.zero_add, Nat.reduceAdd]
 generalize γ 1 = g1 at *
 generalize γ 4 = g4 at *
 generalize γ 5 = g5 at *
 generalize γ 10 = g10 at *
 generalize γ 11 = g11 at *
 generalize γ 12 = g12 at *
 generalize γ 13 = g13 at *
 generalize γ 14 = g14 at *
 clear γ
 clear p4 p5 p10 p11 p12 p13
 go_wp2
 go_ret
 exact Gives.mk rfl (hx.trans hx4)
end Go.Proofs.YtfacbpnegkjcgaaGreatDoor
namespace Go.Hp
open Go.RowKit
end Go.Hp
namespace Go.Proofs.YtfacbpnegkjcgaaGreatDoor
open Go.RowKit Go.Hp
theorem append_nz (W : World) (v x : Value) (base b ty : Nat) (l : List Int) (q : Int) (h : OwnZ base 28 W v l) (hx : NewZ W x b q 28) (hn : l.length ≤ 1099511627776) (hb : base ≤ W.heap.size) :
  ∃ v' w', (Builtin.append_ #[22, 22] ty #[v, x]).run Tryz.prog W = .ok v' w' ∧ (OwnZ base 28 w' v' (l ++ [q]) ∧ Upd (blk v) W w') := by
 obtain ⟨g, cs, rfl, h1, h2, h3, h4⟩ := hx
 obtain ⟨i0, hi, hz0, hz1, hz2⟩ := info_parts info_int
 have ho := IsZ.one h4
 obtain ⟨v', w', a, b, c⟩ := OwnR.append (P := Tryz.prog) h 22 ty i0 _ 32 Tryz.underlying22 hi hz0 hz1 hz2 rfl (by simp [nodig, isDig, Value.cells]) (by decide) ⟨g, 0, none⟩ 1 cs h3 h4 h2.news ho.1 ho.2.1 (small_lenz hn) (by omega) hb (fun _ _ _ k hq => IsZ.kd hq k)
 exact ⟨v', w', a, b, c⟩
end Go.Proofs.YtfacbpnegkjcgaaGreatDoor
namespace Go.Proofs.YtfacbpnegkjcgaaGreatDoor
open Go.RowKit Go.Hp
end Go.Proofs.YtfacbpnegkjcgaaGreatDoor
namespace Go.Hp
end Go.Hp
namespace Go.Proofs.YtfacbpnegkjcgaaGreatDoor
open Go.RowKit Go.Hp
end Go.Proofs.YtfacbpnegkjcgaaGreatDoor
namespace Go.Hp
/-- The rows' map that is linear in each row, 0 where two rows agree, and 0 at the rows of the identity. -/
structure AltZ (n : Nat) (E : (Nat → Nat → Rat) → Rat) : Prop where
 lin : ∀ (A : Nat → Nat → Rat) (i : Nat), i < n → ∀ (a b : Rat) (u v : Nat → Rat), E (rw_ A i fun c => a * u c + b * v c) = a * E (rw_ A i u) + b * E (rw_ A i v)
 alt : ∀ (A : Nat → Nat → Rat) (i j : Nat), i < n → j < n → i ≠ j → A i = A j → E A = 0
 cong : ∀ (A B : Nat → Nat → Rat), (∀ i j, i < n → j < n → A i j = B i j) → E A = E B
 one : E (fun i j => if i = j then 1 else 0) = 0
theorem php : ∀ (n : Nat) (s : Nat → Nat), (∀ i, i < n + 1 → s i < n) → ∃ i j, i < j ∧ j < n + 1 ∧ s i = s j
 | 0, s, h => absurd (h 0 (by omega)) (by omega)
 | n + 1, s, h => by
  by_cases e : ∃ i, i < n + 1 ∧ s i = s (n + 1)
  ·obtain ⟨i, hi, e⟩ := e
   exact ⟨i, n + 1, hi, by omega, e⟩
  ·have e' : ∀ i, i < n + 1 → s i ≠ s (n + 1) := fun i hi q => e ⟨i, hi, q⟩
   obtain ⟨i, j, hij, hj, q⟩ := php n (fun i => if s i < s (n + 1) then s i else s i - 1) (fun i hi => by
    have h1 := h i (by omega)
    have h2 := h (n + 1) (by omega)
    have h3 := e' i hi
    show (if s i < s (n + 1) then s i else s i - 1) < n
    split <;> omega)
   refine ⟨i, j, hij, by omega, ?_⟩
   have h1 := e' i (by omega)
   have h2 := e' j hj
   have q' : (if s i < s (n + 1) then s i else s i - 1) = (if s j < s (n + 1) then s j else s j - 1) := q
   split at q' <;> split at q' <;> omega
theorem AltZ.swap {n : Nat} {E : (Nat → Nat → Rat) → Rat} (h : AltZ n E) (A : Nat → Nat → Rat) {i j : Nat} (hi : i < n) (hj : j < n) (hne : i ≠ j) : E (rw_ (rw_ A i (A j)) j (A i)) = - E A := by
 obtain ⟨u, hu⟩ : ∃ u, u = A i := ⟨_, rfl⟩
 obtain ⟨v, hv⟩ : ∃ v, v = A j := ⟨_, rfl⟩
 have comm : ∀ x y : Nat → Rat, rw_ (rw_ A i x) j y = rw_ (rw_ A j y) i x := fun x y => by
  funext r c; unfold rw_
  by_cases a : r = j
  ·subst a; rw [if_pos rfl, if_neg (Ne.symm hne), if_pos rfl]
  ·rw [if_neg a]
   by_cases b : r = i
   ·rw [if_pos b, if_pos b]
   ·rw [if_neg b, if_neg b, if_neg a]
 have z : ∀ x : Nat → Rat, E (rw_ (rw_ A i x) j x) = 0 := fun x => h.alt _ i j hi hj hne (by
  funext c
  show (if i = j then x c else if i = i then x c else A i c) = (if j = j then x c else _)
  rw [if_neg hne, if_pos rfl, if_pos rfl])
 have l2 : ∀ x a b (y1 y2 : Nat → Rat), E (rw_ (rw_ A i x) j fun c => a * y1 c + b * y2 c) = a * E (rw_ (rw_ A i x) j y1) + b * E (rw_ (rw_ A i x) j y2) := fun x a b y1 y2 => h.lin _ j hj a b y1 y2
 have l1 : ∀ y a b (x1 x2 : Nat → Rat), E (rw_ (rw_ A i fun c => a * x1 c + b * x2 c) j y) = a * E (rw_ (rw_ A i x1) j y) + b * E (rw_ (rw_ A i x2) j y) := fun y a b x1 x2 => by
  rw [comm, comm, comm]; exact h.lin _ i hi a b x1 x2
 have key := z (fun c => 1 * u c + 1 * v c)
 rw [l1, l2, l2, z u, z v] at key
 have hA : rw_ (rw_ A i u) j v = A := by rw [hu, rw_self, hv, rw_self]
 rw [hA] at key
 rw [← hu, ← hv]
 grind
theorem AltZ.sum {n : Nat} {E : (Nat → Nat → Rat) → Rat} (h : AltZ n E) (A : Nat → Nat → Rat) {i : Nat} (hi : i < n) (t : Nat → Rat) (f : Nat → Nat → Rat) : ∀ N, E (rw_ A i fun c => sm N fun k => t k * f k c) = sm N fun k => t k * E (rw_ A i (f k))
 | 0 => by
  have := h.lin A i hi 0 0 (fun _ => 0) (fun _ => 0)
  have e : (fun c => sm 0 fun k => t k * f k c) = fun c : Nat => (0 : Rat) * (0 : Rat) + 0 * 0 := by funext c; rw [sm_zero]; grind
  rw [e, this, sm_zero]; grind
 | N + 1 => by
  have e : (fun c => sm (N + 1) fun k => t k * f k c) = fun c => 1 * (sm N fun k => t k * f k c) + t N * f N c := by funext c; rw [sm_succ]; grind
  rw [e, h.lin A i hi, AltZ.sum h A hi t f N, sm_succ]; grind
/-- The row with one 1. -/
def er (c : Nat) : Nat → Rat := fun k => if k = c then 1 else 0
theorem AltZ.perm {n : Nat} {E : (Nat → Nat → Rat) → Rat} (h : AltZ n E) : ∀ (d : Nat) (A : Nat → Nat → Rat) (s : Nat → Nat) (m : Nat), n = m + d → (∀ i, i < n → s i < n ∧ A i = er (s i)) → (∀ i, i < m → s i = i) → E A = 0
 | 0, A, s, m, hd, hA, hs => by
  rw [← h.one]
  refine h.cong _ _ fun i j hi hj => ?_
  rw [(hA i hi).2, hs i (by omega)]
  show (if j = i then (1 : Rat) else 0) = if i = j then 1 else 0
  by_cases e : i = j
  ·rw [if_pos e, if_pos e.symm]
  ·rw [if_neg e, if_neg (Ne.symm e)]
 | d + 1, A, s, m, hd, hA, hs => by
  by_cases hinj : ∃ i j, i < n ∧ j < n ∧ i ≠ j ∧ s i = s j
  ·obtain ⟨i, j, hi, hj, hne, e⟩ := hinj
   exact h.alt A i j hi hj hne (by rw [(hA i hi).2, (hA j hj).2, e])
  ·have hinj' : ∀ i j, i < n → j < n → s i = s j → i = j := fun i j hi hj e => Classical.byContradiction fun hne => hinj ⟨i, j, hi, hj, hne, e⟩
   have hex : ∃ j, j < n ∧ s j = m := by
    refine Classical.byContradiction fun hno => ?_
    have hno' : ∀ j, j < n → s j ≠ m := fun j hj e => hno ⟨j, hj, e⟩
    obtain ⟨n', rfl⟩ : ∃ n', n = n' + 1 := ⟨n - 1, by omega⟩
    obtain ⟨i, j, hij, hj, q⟩ := php n' (fun i => if s i < m then s i else s i - 1) (fun i hi => by
     have h1 := (hA i hi).1
     have h2 := hno' i hi
     show (if s i < m then s i else s i - 1) < n'
     split <;> omega)
    have h1 := hno' i (by omega)
    have h2 := hno' j hj
    have : s i = s j := by
     have q' : (if s i < m then s i else s i - 1) = (if s j < m then s j else s j - 1) := q
     split at q' <;> split at q' <;> omega
    have := hinj' i j (by omega) hj this
    omega
   obtain ⟨j, hj, e⟩ := hex
   have hjm : m ≤ j := by
    rcases Nat.lt_or_ge j m with a | a
    ·have := hs j a; omega
    ·exact a
   by_cases hjm' : j = m
   ·subst hjm'
    refine AltZ.perm h d A s (j + 1) (by omega) hA fun i hi => ?_
    rcases Nat.lt_or_ge i j with a | a
    ·exact hs i a
    ·obtain rfl : i = j := by omega
     exact e
   ·have h2 := AltZ.perm h d (rw_ (rw_ A m (A j)) j (A m)) (fun i => if i = m then s j else if i = j then s m else s i) (m + 1) (by omega) (fun i hi => by
     by_cases a : i = m
     ·subst a
      simp only [if_pos]
      refine ⟨by rw [e]; exact hi, ?_⟩
      funext c
      show (if i = j then A i c else if i = i then A j c else A i c) = _
      rw [if_neg (Ne.symm hjm'), if_pos rfl, (hA j hj).2]
     ·by_cases b : i = j
      ·subst b
       rw [if_neg a, if_pos rfl]
       refine ⟨(hA m (by omega)).1, ?_⟩
       funext c
       show (if i = i then A m c else _) = _
       rw [if_pos rfl, (hA m (by omega)).2]
      ·rw [if_neg a, if_neg b]
       refine ⟨(hA i hi).1, ?_⟩
       funext c
       show (if i = j then A m c else if i = m then A j c else A i c) = _
       rw [if_neg b, if_neg a, (hA i hi).2]) (fun i hi => by
     by_cases a : i = m
     ·simp only [if_pos a]; rw [e, a]
     ·simp only [if_neg a]
      rw [if_neg (by omega)]; exact hs i (by omega))
    have h3 := h.swap A (i := m) (j := j) (by omega) hj (Ne.symm hjm')
    rw [h2] at h3
    grind
theorem row_er (v : Nat → Rat) (n c : Nat) (h : c < n) : v c = sm n fun k => v k * er k c := by
 rw [sm_one (f := fun k => v k * er k c) h (fun i _ hne => by show v i * (if c = i then 1 else 0) = 0; rw [if_neg (Ne.symm hne)]; grind)]
 show v c = v c * (if c = c then 1 else 0)
 rw [if_pos rfl]; grind
theorem AltZ.all {n : Nat} {E : (Nat → Nat → Rat) → Rat} (h : AltZ n E) : ∀ (m : Nat), m ≤ n → ∀ (A : Nat → Nat → Rat), (∀ i, m ≤ i → i < n → ∃ c, c < n ∧ A i = er c) → E A = 0
 | 0, _, A, hA => by
  have hA' : ∀ i, ∃ c, i < n → c < n ∧ A i = er c := fun i => by
   by_cases hi : i < n
   ·obtain ⟨c, hc⟩ := hA i (Nat.zero_le _) hi; exact ⟨c, fun _ => hc⟩
   ·exact ⟨0, fun h => absurd h hi⟩
  exact h.perm n A (fun i => Classical.choose (hA' i)) 0 (by omega) (fun i hi => Classical.choose_spec (hA' i) hi) (fun i hi => by omega)
 | m + 1, hm, A, hA => by
  have e : E A = E (rw_ A m fun c => sm n fun k => A m k * er k c) := by
   refine h.cong _ _ fun i j hi hj => ?_
   unfold rw_
   split
   ·rename_i e; rw [e]; exact row_er _ _ _ hj
   ·rfl
  rw [e, h.sum A (by omega)]
  rw [show sm n (fun k => A m k * E (rw_ A m (er k))) = sm n fun _ => 0 from sm_congr fun k hk => by
   rw [AltZ.all h m (by omega) (rw_ A m (er k)) fun i hi hin => ?_]
   ·grind
   ·by_cases a : i = m
    ·exact ⟨k, hk, by subst a; funext c; show (if i = i then er k c else _) = _; rw [if_pos rfl]⟩
    ·obtain ⟨c, hc1, hc2⟩ := hA i (by omega) hin
     exact ⟨c, hc1, by rw [← hc2]; funext x; show (if i = m then er k x else A i x) = _; rw [if_neg a]⟩]
  exact sm_nil n
end Go.Hp
namespace Go.Hp
/-- F is a multiple of G over the integers. -/
def Zdv (F G : Nat → Rat) : Prop := ∃ Q, ZI Q ∧ Fin_ Q ∧ F = cv Q G
/-- An integer times the leading coefficient. -/
theorem zdv_top {R G : Nat → Rat} {k : Nat} (hR : Fin_ R) (hG : Fin_ G) (h0 : G ≠ pz) (hs : Sup (k + pl G) R) (h : Zdv R G) : ∃ z : Int, R (k + pl G - 1) = (z : Rat) * ld G := by
 obtain ⟨Q, hz, hf, e⟩ := h
 have hp := pl_pos hG h0
 by_cases hQ : Q = pz
 ·refine ⟨0, ?_⟩
  rw [e, hQ, pz_cv]
  show (0 : Rat) = ((0 : Int) : Rat) * _
  simp
 ·have h1 := pl_cv hf hG hQ h0
  rw [← e] at h1
  have h2 := pl_le hs
  have h3 := pl_pos hf hQ
  have h4 : Sup (k + 1) Q := (pl_sup hf).mono (by omega)
  have h5 : Sup (pl G - 1 + 1) G := (pl_sup hG).mono (by omega)
  have h6 := cv_top h4 h5
  rw [← e, show k + (pl G - 1) = k + pl G - 1 from by omega] at h6
  rw [h6, hz.num k]
  exact ⟨_, rfl⟩
theorem zdv_rest {F G Q R : Nat → Rat} (hz : ZI Q) (hf : Fin_ Q) (e : F = pad (cv Q G) R) : Zdv F G ↔ Zdv R G := by
 constructor
 ·rintro ⟨P, h1, h2, h3⟩
  refine ⟨psb P Q, h1.psb hz, h2.psb hf, ?_⟩
  rw [psb_cv, ← h3, e]
  funext n; simp only [psb, pad]; grind
 ·rintro ⟨P, h1, h2, h3⟩
  refine ⟨pad Q P, hz.pad h1, hf.pad h2, ?_⟩
  rw [pad_cv, ← h3, e]
theorem zdv_pz (G : Nat → Rat) : Zdv pz G := ⟨pz, ZI.pz, Fin_.pz, (pz_cv G).symm⟩
theorem zdv_low {R G : Nat → Rat} (hR : Fin_ R) (hG : Fin_ G) (hs : pl R < pl G) : Zdv R G ↔ R = pz := by
 constructor
 ·rintro ⟨Q, h1, h2, h3⟩
  have h0 : G ≠ pz := fun e => by rw [e, pl_pz] at hs; omega
  refine Classical.byContradiction fun hn => ?_
  have hQ : Q ≠ pz := fun e => hn (by rw [h3, e, pz_cv])
  have := pl_cv h2 hG hQ h0
  rw [← h3] at this
  have := pl_pos h2 hQ
  omega
 ·rintro rfl; exact zdv_pz G
/-- One step of a division over the integers: the coefficient z is put at k. -/
def ZdSt (F G : Nat → Rat) (n s t i : Nat) (Q R : Nat → Rat) : Prop :=
 (∀ j, j < i → Q j = 0) ∧ Sup n Q ∧ Sup (i + pl G - 1) R ∧ F = pad (cv Q G) R ∧ ZI Q ∧ ZI R ∧ ∀ m, qsz (R m) ≤ s + (n - i) * (t + 1)
theorem ZdSt.start {F G : Nat → Rat} {n s t : Nat} (hF : Sup (n + pl G - 1) F) (hz : ZI F) (hs : ∀ m, qsz (F m) ≤ s) : ZdSt F G n s t n pz F :=
 ⟨fun _ _ => rfl, Sup.pz _, hF, by rw [pz_cv]; funext m; simp only [pad, pz]; grind, ZI.pz, hz, fun m => by have := hs m; omega⟩
theorem qsz_quot {z : Int} {a b : Rat} (hb : b ≠ 0) (hbz : ∃ y : Int, b = (y : Rat)) (e : a = (z : Rat) * b) : qsz (z : Rat) ≤ qsz a := by
 obtain ⟨y, rfl⟩ := hbz
 rw [e, ← Rat.intCast_mul, qsz_cast, qsz_cast]
 have hy : y ≠ 0 := fun h => hb (by rw [h]; rfl)
 have : sz z.natAbs ≤ sz (z * y).natAbs := by
  refine sz_mono ?_
  rw [Int.natAbs_mul]
  exact Nat.le_mul_of_pos_right _ (by omega)
 omega
theorem ZdSt.step {F G : Nat → Rat} {n s t k : Nat} {Q R : Nat → Rat} (hG : Fin_ G) (h0 : G ≠ pz) (zG : ZI G) (hcG : ∀ m, qsz (G m) ≤ t) (h : ZdSt F G n s t (k + 1) Q R) (hk : k < n) {z : Int} (hc : R (k + pl G - 1) = (z : Rat) * ld G) :
  ZdSt F G n s t k (pad Q (mono k (z : Rat))) (psb R (cv (mono k (z : Rat)) G)) := by
 obtain ⟨h3, h4, h5, h6, h7, h8, h9⟩ := h
 have hp := pl_pos hG h0
 have hl := ld_ne hG h0
 have hz : (z : Rat) = R (k + pl G - 1) / ld G := by rw [hc]; grind
 refine ⟨fun j hj => ?_, h4.pad ((mono_sup k _).mono (by omega)), ?_, ?_, h7.pad (ZI.mono k z), h8.psb ((ZI.mono k z).cv zG), fun m => ?_⟩
 ·show Q j + mono k (z : Rat) j = 0
  rw [h3 j (by omega), mono_off (by omega)]; grind
 ·rw [hz]; exact div_step hG h0 (h5.mono (by omega))
 ·rw [pad_cv]
  funext m
  have := congrFun h6 m
  simp only [pad, psb] at this ⊢
  grind
 ·have q1 : qsz (z : Rat) ≤ qsz (R (k + pl G - 1)) := qsz_quot hl (zG _) hc
  have q2 := h9 (k + pl G - 1)
  have e : n - k = (n - (k + 1)) + 1 := by omega
  have q3 : (n - k) * (t + 1) = (n - (k + 1)) * (t + 1) + (t + 1) := by rw [e, Nat.succ_mul]
  have q4 : qsz (cv (mono k (z : Rat)) G m) ≤ qsz (z : Rat) + t := by
   rw [mono_cv]
   show qsz ((z : Rat) * sh k G m) ≤ _
   have a1 := qsz_mul (z : Rat) (sh k G m)
   have a2 : qsz (sh k G m) ≤ max t 1 := by
    unfold sh
    split
    ·have : qsz (0 : Rat) = 1 := by decide
     omega
    ·have := hcG (m - k); omega
   have a3 : 1 ≤ t := by have := hcG 0; have : 1 ≤ qsz (G 0) := by { unfold qsz; have := sz_pos (n := (G 0).den) (by have := (G 0).den_pos; omega); omega }; omega
   omega
  have q5 := qsz_subz h8 ((ZI.mono k z).cv zG) m m
  have q6 := h9 m
  show qsz (R m - cv (mono k (z : Rat)) G m) ≤ _
  omega
theorem ZdSt.end_ {F G : Nat → Rat} {n s t : Nat} {Q R : Nat → Rat} (hF : Fin_ F) (hG : Fin_ G) (h0 : G ≠ pz) (h : ZdSt F G n s t 0 Q R) : Q = pq F G ∧ R = pr F G ∧ Sup n Q ∧ ZI Q := by
 obtain ⟨h3, h4, h5, h6, h7, h8, h9⟩ := h
 have := div_eq hF hG h0 ⟨n, h4⟩ h6 (by rwa [Nat.zero_add] at h5)
 exact ⟨this.1, this.2, h4, h7⟩
theorem ZdSt.zdv {F G : Nat → Rat} {n s t i : Nat} {Q R : Nat → Rat} (h : ZdSt F G n s t i Q R) : Zdv F G ↔ Zdv R G :=
 zdv_rest h.2.2.2.2.1 ⟨n, h.2.1⟩ h.2.2.2.1
theorem ZdSt.fin {F G : Nat → Rat} {n s t i : Nat} {Q R : Nat → Rat} (h : ZdSt F G n s t i Q R) : Fin_ R := ⟨_, h.2.2.1⟩
theorem ZdSt.no {F G : Nat → Rat} {n s t k : Nat} {Q R : Nat → Rat} (hG : Fin_ G) (h0 : G ≠ pz) (zG : ZI G) (h : ZdSt F G n s t (k + 1) Q R) (hd : ¬ (ld G).num ∣ (R (k + pl G - 1)).num) : ¬ Zdv F G := by
 intro hz
 have hp := pl_pos hG h0
 obtain ⟨z, e⟩ := zdv_top (k := k) h.fin hG h0 (h.2.2.1.mono (by omega)) (h.zdv.1 hz)
 apply hd
 rw [e, show ld G = ((ld G).num : Rat) from zG.num _, num_mul]
 exact ⟨z, by rw [Int.mul_comm]; rfl⟩
theorem ZdSt.out {F G : Nat → Rat} {n s t : Nat} {Q R : Nat → Rat} (hF : Fin_ F) (hG : Fin_ G) (h0 : G ≠ pz) (h : ZdSt F G n s t 0 Q R) : Zdv F G ↔ R = pz := by
 rw [h.zdv, zdv_low h.fin hG]
 have hp := pl_pos hG h0
 have := pl_le h.2.2.1
 omega
end Go.Hp
namespace Go.Hp
/-- D is the greatest common divisor of F and G over the integers. -/
def IsZG (F G D : Nat → Rat) : Prop := Fin_ D ∧ ZI D ∧ (D ≠ pz → 0 < ld D) ∧ cn D = Nat.gcd (cn F) (cn G) ∧ IsG F G (mn D)
structure GzSt (F0 G0 : Nat → Rat) (D S : Nat) (A B : Nat → Rat) : Prop where
 fA : Fin_ A
 fB : Fin_ B
 zA : ZI A
 zB : ZI B
 pA : pp A = A
 pB : pp B = B
 dv : ∀ E, Fin_ E → (Dv E A ∧ Dv E B ↔ Dv E F0 ∧ Dv E G0)
 deg : pl A + pl B ≤ D
 qA : ∀ i, qsz (A i) + 1 ≤ (S + 1) * 2 ^ (D - (pl A + pl B))
 qB : ∀ i, qsz (B i) + 1 ≤ (S + 1) * 2 ^ (D - (pl A + pl B))
theorem dv_psc_iff {a : Rat} (ha : a ≠ 0) {E F : Nat → Rat} : Dv E (psc a F) ↔ Dv E F :=
 ⟨fun h => by have := h.psc (1 / a); rwa [psc_inv ha] at this, fun h => h.psc a⟩
theorem dv_pp_iff {E F : Nat → Rat} (z : ZI F) (f : Fin_ F) : Dv E (pp F) ↔ Dv E F := by
 by_cases h0 : F = pz
 ·rw [h0, pp_pz]
 ·have hn : (1 : Rat) / (pcn F : Rat) ≠ 0 := inv_ne (by have := pcn_ne z f h0; exact_mod_cast this)
  exact dv_psc_iff hn
theorem GzSt.start {F G : Nat → Rat} {S : Nat} (fF : Fin_ F) (fG : Fin_ G) (zF : ZI F) (zG : ZI G) (qF : ∀ i, qsz (F i) ≤ S) (qG : ∀ i, qsz (G i) ≤ S) : GzSt F G (pl F + pl G) S (pp F) (pp G) where
 fA := pp_fin fF
 fB := pp_fin fG
 zA := pp_zi zF fF
 zB := pp_zi zG fG
 pA := pp_pp zF fF
 pB := pp_pp zG fG
 dv := fun E _ => by rw [dv_pp_iff zF fF, dv_pp_iff zG fG]
 deg := by rw [pp_pl zF fF, pp_pl zG fG]; exact Nat.le_refl _
 qA := fun i => by have := pp_qsz zF fF qF i; have h : 0 < 2 ^ (pl F + pl G - (pl (pp F) + pl (pp G))) := Nat.pow_pos (by decide); have := Nat.le_mul_of_pos_right (S + 1) h; omega
 qB := fun i => by have := pp_qsz zG fG qG i; have h : 0 < 2 ^ (pl F + pl G - (pl (pp F) + pl (pp G))) := Nat.pow_pos (by decide); have := Nat.le_mul_of_pos_right (S + 1) h; omega
theorem GzSt.room {F0 G0 A B : Nat → Rat} {D S : Nat} (h : GzSt F0 G0 D S A B) {R : Nat → Rat} (hR : R = psR A B (pl A + 1 - pl B)) :
  (∀ i, qsz (A i) ≤ (S + 1) * 2 ^ D) ∧ (∀ i, qsz (B i) ≤ (S + 1) * 2 ^ D) ∧ (∀ i, qsz (R i) + 1 ≤ (S + 1) * 2 ^ (D - (pl A + pl B) + (pl A + 1 - pl B))) := by
 have up : ∀ a : Nat, a ≤ D → (S + 1) * 2 ^ a ≤ (S + 1) * 2 ^ D := fun a ha => Nat.mul_le_mul_left _ (Nat.pow_le_pow_right (by decide) ha)
 have h1 := up (D - (pl A + pl B)) (by omega)
 refine ⟨fun i => by have := h.qA i; omega, fun i => by have := h.qB i; omega, fun i => ?_⟩
 obtain ⟨M, hM⟩ : ∃ M, M = (S + 1) * 2 ^ (D - (pl A + pl B)) := ⟨_, rfl⟩
 have hp : 0 < M := by rw [hM]; exact Nat.mul_pos (by omega) (Nat.pow_pos (by decide))
 have h2 := psR_qsz (s := M - 1) (t := M - 1) h.zA h.zB (fun i => by have := h.qA i; omega) (fun i => by have := h.qB i; omega) (pl A + 1 - pl B) i
 rw [← hR] at h2
 rw [Nat.pow_add, ← Nat.mul_assoc, ← hM]
 have h3 := two_le_pow (pl A + 1 - pl B)
 have h4 : M * (pl A + 1 - pl B + 1) ≤ M * 2 ^ (pl A + 1 - pl B) := Nat.mul_le_mul_left _ h3
 rw [Nat.mul_succ, Nat.mul_comm M] at h4
 rw [show M - 1 + 1 = M from by omega] at h2
 omega
theorem psR_fin {F G : Nat → Rat} (hF : Fin_ F) (hG : Fin_ G) (h0 : G ≠ pz) : Fin_ (psR F G (pl F + 1 - pl G)) := by
 rw [(psR_end hF hG h0).2]; exact (pr_fin hF hG).psc _
theorem psR_top {F G : Nat → Rat} (hF : Fin_ F) (hG : Fin_ G) (h0 : G ≠ pz) : pl (psR F G (pl F + 1 - pl G)) < pl G := by
 have hp := pl_pos hG h0
 have := pl_le (((pr_sup hF hG h0).psc (ld G ^ (pl F + 1 - pl G))))
 rw [← (psR_end hF hG h0).2] at this
 omega
theorem GzSt.step {F0 G0 A B : Nat → Rat} {D S : Nat} (h : GzSt F0 G0 D S A B) (h0 : B ≠ pz) {R : Nat → Rat} (hR : R = psR A B (pl A + 1 - pl B)) :
  GzSt F0 G0 D S B (pp R) ∧ pl (pp R) < pl B := by
 have hfR : Fin_ R := by rw [hR]; exact psR_fin h.fA h.fB h0
 have hzR : ZI R := by rw [hR]; exact psR_zi h.zA h.zB _
 have htop : pl R < pl B := by rw [hR]; exact psR_top h.fA h.fB h0
 have hplR := pp_pl hzR hfR
 have hq : ∀ i, qsz (R i) + 1 ≤ (S + 1) * 2 ^ (D - (pl B + pl (pp R))) ∧ pl B + pl (pp R) ≤ D := fun i => by
  rw [hplR]
  have hd := h.deg
  rcases Nat.lt_or_ge (pl A) (pl B) with a | a
  ·have e : R = A := by rw [hR, show pl A + 1 - pl B = 0 from by omega]; rfl
   rw [e]
   have := h.qA i
   rw [Nat.add_comm (pl B)]
   exact ⟨this, hd⟩
  ·have h2 := (h.room hR).2.2 i
   exact ⟨Nat.le_trans h2 (Nat.mul_le_mul_left _ (Nat.pow_le_pow_right (by decide) (by omega))), by omega⟩
 refine ⟨⟨h.fB, pp_fin hfR, h.zB, pp_zi hzR hfR, h.pB, pp_pp hzR hfR, fun E hE => ?_, (hq 0).2, fun i => ?_, fun i => ?_⟩, by omega⟩
 ·rw [dv_pp_iff hzR hfR, ← h.dv E hE]
  have hl := pow_ne (ld_ne h.fB h0) (pl A + 1 - pl B)
  rw [hR, (psR_end h.fA h.fB h0).2, dv_psc_iff hl, dv_step]
 ·have h1 := h.qB i
  have := h.deg
  have h2 := (hq 0).2
  refine Nat.le_trans h1 (Nat.mul_le_mul_left _ (Nat.pow_le_pow_right (by decide) ?_))
  rcases Nat.lt_or_ge (pl A) (pl B) with a | a
  ·have e : R = A := by rw [hR, show pl A + 1 - pl B = 0 from by omega]; rfl
   rw [hplR, e]; omega
  ·omega
 ·have h1 := pp_qsz hzR hfR (s := (S + 1) * 2 ^ (D - (pl B + pl (pp R))) - 1) (fun i => by have := (hq i).1; omega) i
  have := (hq i).1
  omega
theorem mn_psc {a : Rat} (ha : a ≠ 0) {F : Nat → Rat} (h : Fin_ F) : mn (psc a F) = mn F := by
 by_cases h0 : F = pz
 ·rw [h0, psc_pz]
 ·have hl := ld_ne h h0
  unfold mn
  rw [ld_psc ha h, psc_psc]
  congr 1
  grind
theorem psc_zero (F : Nat → Rat) : psc 0 F = pz := by funext n; simp only [psc, pz]; grind
theorem mn_eq_pz {F : Nat → Rat} (h : Fin_ F) (e : mn F = pz) : F = pz := (pl_zero h).1 (by rw [← mn_pl h, e, pl_pz])
theorem GzSt.end_ {F0 G0 A B : Nat → Rat} {D S : Nat} (h : GzSt F0 G0 D S A B) (fF : Fin_ F0) (fG : Fin_ G0) (zF : ZI F0) (zG : ZI G0) (h0 : B = pz) :
  IsZG F0 G0 (psc ((Nat.gcd (cn F0) (cn G0) : Nat) : Rat) A) := by
 have hg : IsG F0 G0 (mn A) := by
  subst h0
  exact (IsG.zero h.fA).of h.dv
 obtain ⟨c, hc⟩ : ∃ c, c = Nat.gcd (cn F0) (cn G0) := ⟨_, rfl⟩
 rw [← hc]
 by_cases hc0 : c = 0
 ·have e1 : cn F0 = 0 := Nat.eq_zero_of_gcd_eq_zero_left (hc.symm.trans hc0)
  have e2 : cn G0 = 0 := Nat.eq_zero_of_gcd_eq_zero_right (hc.symm.trans hc0)
  have z1 : F0 = pz := Classical.byContradiction fun hn => cn_ne zF fF hn e1
  have z2 : G0 = pz := Classical.byContradiction fun hn => cn_ne zG fG hn e2
  rw [hc0]
  show IsZG F0 G0 (psc ((0 : Nat) : Rat) A)
  rw [show ((0 : Nat) : Rat) = 0 from rfl, psc_zero, z1, z2]
  refine ⟨Fin_.pz, ZI.pz, fun hn => absurd rfl hn, by rw [cn_pz]; rfl, ?_⟩
  exact IsG.zero Fin_.pz
 ·have hcr : ((c : Nat) : Rat) ≠ 0 := by exact_mod_cast hc0
  have hA : A ≠ pz := fun e => by
   rw [e, mn_pz] at hg
   have z1 := dv_pz hg.2.2.1
   have z2 := dv_pz hg.2.2.2.1
   rw [z1, z2, cn_pz] at hc
   exact hc0 hc
  have e1 : cn A = 1 := by rw [← h.pA]; exact cn_pp h.zA h.fA hA
  have e2 : 0 < ld A := by rw [← h.pA]; exact pp_lead h.zA h.fA hA
  have ci : ((c : Nat) : Rat) = (((c : Nat) : Int) : Rat) := rfl
  refine ⟨h.fA.psc _, by rw [ci]; exact h.zA.psc _, fun _ => ?_, ?_, by rw [mn_psc hcr h.fA]; exact hg⟩
  ·rw [ld_psc hcr h.fA]
   refine Rat.mul_pos ?_ e2
   exact_mod_cast Nat.pos_of_ne_zero hc0
  ·rw [ci, cn_psc (by exact_mod_cast hc0) h.zA h.fA, e1, ← hc]; simp
theorem IsZG.uniq {F G D E : Nat → Rat} (h : IsZG F G D) (k : IsZG F G E) : D = E := by
 obtain ⟨f1, z1, l1, c1, g1⟩ := h
 obtain ⟨f2, z2, l2, c2, g2⟩ := k
 have e := g1.uniq g2
 by_cases hD : D = pz
 ·have : E = pz := mn_eq_pz f2 (by rw [← e, hD, mn_pz])
  rw [hD, this]
 have hE : E ≠ pz := fun hE => hD (mn_eq_pz f1 (by rw [e, hE, mn_pz]))
 have hcD := cn_ne z1 f1 hD
 -- E = a D with a positive; the contents agree
 have lD := l1 hD; have lE := l2 hE
 have hDl := ld_ne f1 hD; have hEl := ld_ne f2 hE
 have e1 : psc (ld E) D = psc (ld D) E := by
  funext n
  have := congrFun e n
  show ld E * D n = ld D * E n
  simp only [mn, psc] at this
  have h1 : ld D * ld E * (1 / ld D * D n) = ld D * ld E * (1 / ld E * E n) := by rw [this]
  grind
 obtain ⟨x, hx⟩ : ∃ x : Int, ld D = (x : Rat) := z1 _
 obtain ⟨y, hy⟩ : ∃ y : Int, ld E = (y : Rat) := z2 _
 have hx0 : 0 < x := by rw [hx] at lD; exact_mod_cast lD
 have hy0 : 0 < y := by rw [hy] at lE; exact_mod_cast lE
 have e2 : cn (psc (ld E) D) = cn (psc (ld D) E) := by rw [e1]
 rw [hx, hy, cn_psc (by omega) z1 f1, cn_psc (by omega) z2 f2, c1, c2, ← c1] at e2
 have e3 : y.natAbs = x.natAbs := Nat.eq_of_mul_eq_mul_right (Nat.pos_of_ne_zero hcD) e2
 have e4 : x = y := by omega
 have : ld D = ld E := by rw [hx, hy, e4]
 rw [this] at e1
 funext n
 have := congrFun e1 n
 simp only [psc] at this
 grind
theorem zi_quot {F Q D : Nat → Rat} (zF : ZI F) (fF : Fin_ F) (zD : ZI D) (fD : Fin_ D) (hD : D ≠ pz) (fQ : Fin_ Q) (e : F = cv Q D) (hc : cn D ∣ cn F) : ZI Q := by
 obtain ⟨n, hs⟩ := fQ
 have fQ : Fin_ Q := ⟨n, hs⟩
 have zC := clr_zi hs
 have fC := clr_fin (n := n) fQ
 have e1 : psc (((dl n Q : Nat) : Int) : Rat) F = cv (clr n Q) D := by
  rw [e]; unfold clr; rw [psc_cv]; rfl
 have hdl := dl_pos Q n
 have e2 : cn (psc (((dl n Q : Nat) : Int) : Rat) F) = cn (cv (clr n Q) D) := by rw [e1]
 rw [cn_psc (by omega) zF fF, gauss zC zD fC fD, Int.natAbs_natCast] at e2
 obtain ⟨m, hm⟩ := hc
 have hcD := Nat.pos_of_ne_zero (cn_ne zD fD hD)
 have e3 : dl n Q * m = cn (clr n Q) := by
  refine Nat.eq_of_mul_eq_mul_right hcD ?_
  rw [← e2, hm, Nat.mul_assoc, Nat.mul_comm m]
 intro i
 have h1 := cn_dvd fC i
 have h2 : ((dl n Q : Nat) : Int) ∣ (clr n Q i).num := Int.dvd_trans ⟨(m : Int), by rw [← e3]; simp⟩ h1
 obtain ⟨k, hk⟩ := h2
 refine ⟨k, ?_⟩
 have h3 := zC.num i
 rw [hk, Rat.intCast_mul] at h3
 have h4 : clr n Q i = ((dl n Q : Nat) : Rat) * Q i := rfl
 rw [h4] at h3
 have h5 := dl_ne n Q
 have h6 : (((dl n Q : Nat) : Int) : Rat) = ((dl n Q : Nat) : Rat) := rfl
 rw [h6] at h3
 grind
theorem IsZG.zdv {F G D : Nat → Rat} (h : IsZG F G D) (zF : ZI F) (fF : Fin_ F) (hD : D ≠ pz) : Zdv F D := by
 obtain ⟨f1, z1, l1, c1, g1⟩ := h
 obtain ⟨Q, fQ, e⟩ := g1.2.2.1
 have e1 : F = cv (psc (1 / ld D) Q) D := by rw [e]; unfold mn; rw [cv_psc, psc_cv]
 exact ⟨_, zi_quot zF fF z1 f1 hD (fQ.psc _) e1 (by rw [c1]; exact Nat.gcd_dvd_left _ _), fQ.psc _, e1⟩
theorem bez_ex : ∀ (n : Nat) {F G : Nat → Rat}, Fin_ F → Fin_ G → pl G ≤ n → ∃ U V D, Fin_ U ∧ Fin_ V ∧ IsG F G D ∧ pad (cv U F) (cv V G) = D := by
 intro n
 induction n with
 | zero =>
  intro F G fF fG hn
  have : G = pz := (pl_zero fG).1 (by omega)
  subst this
  refine ⟨psc (1 / ld F) pone, pz, mn F, Fin_.psc _ ⟨1, (Sup.pz 0).cs 1⟩, Fin_.pz, IsG.zero fF, ?_⟩
  rw [psc_cv, pone_cv, pz_cv]
  funext m; simp only [pad, pz, mn]; grind
 | succ n ih =>
  intro F G fF fG hn
  by_cases h0 : G = pz
  ·exact ih fF fG (by rw [h0, pl_pz]; omega)
  ·have hp := pl_pos fG h0
   have hr := pl_le (pr_sup fF fG h0)
   obtain ⟨U, V, D, fU, fV, hg, e⟩ := ih fG (pr_fin fF fG) (by omega)
   refine ⟨V, psb U (cv V (pq F G)), D, fV, fU.psb (fV.cv (pq_fin F G)), hg.of fun E hE => dv_step, ?_⟩
   rw [← e]
   have e1 : cv V F = pad (cv V (cv (pq F G) G)) (cv V (pr F G)) := by
    have h2 : cv V F = cv V (pad (cv (pq F G) G) (pr F G)) := by rw [← pq_pr F G]
    rw [h2, cv_pad]
   rw [e1, psb_cv, cv_assoc]
   funext m; simp only [pad, psb]; grind
theorem IsG.bez {F G D : Nat → Rat} (fF : Fin_ F) (fG : Fin_ G) (h : IsG F G D) : ∃ U V, Fin_ U ∧ Fin_ V ∧ pad (cv U F) (cv V G) = D := by
 obtain ⟨U, V, D', fU, fV, hg, e⟩ := bez_ex (pl G) fF fG (Nat.le_refl _)
 exact ⟨U, V, fU, fV, by rw [h.uniq hg]; exact e⟩
theorem Dv.cvr {D F : Nat → Rat} (h : Dv D F) (H : Nat → Rat) : Dv (Hp.cv D H) (Hp.cv F H) := by
 obtain ⟨Q, fQ, e⟩ := h
 exact ⟨Q, fQ, by rw [e, cv_assoc]⟩
theorem isG_common {F G D H P : Nat → Rat} (fF : Fin_ F) (fG : Fin_ G) (fH : Fin_ H) (h : IsG F G (mn D)) (fD : Fin_ D) {a : Rat} (ha : a ≠ 0) (hP : P = psc a (cv D H)) : IsG (cv F H) (cv G H) (mn P) := by
 have fP : Fin_ P := by rw [hP]; exact (fD.cv fH).psc a
 refine ⟨mn_fin fP, fun hn => mn_ld fP (fun e => hn (by rw [e, mn_pz])), ?_, ?_, fun E hE k1 k2 => ?_⟩
 ·have h1 : Dv (cv D H) (cv F H) := ((dv_mn D).trans h.2.2.1).cvr H
  have h2 : Dv (mn P) (cv D H) := by
   rw [hP, mn_psc ha (fD.cv fH)]; exact mn_dv (fD.cv fH)
  exact h2.trans h1
 ·have h1 : Dv (cv D H) (cv G H) := ((dv_mn D).trans h.2.2.2.1).cvr H
  have h2 : Dv (mn P) (cv D H) := by
   rw [hP, mn_psc ha (fD.cv fH)]; exact mn_dv (fD.cv fH)
  exact h2.trans h1
 ·obtain ⟨U, V, fU, fV, e⟩ := h.bez fF fG
  have h1 : Dv E (cv (mn D) H) := by
   rw [← e, pad_cv, cv_assoc, cv_assoc]
   exact (k1.mul fU).pad (k2.mul fV)
  have h2 : Dv E (cv D H) := by
   obtain ⟨Q, fQ, e2⟩ := mn_dv fD
   rw [e2, cv_assoc]; exact h1.mul fQ
  rw [dv_mn_iff fP, hP, dv_psc_iff ha]; exact h2
theorem IsZG.common {F G D H E : Nat → Rat} (fF : Fin_ F) (fG : Fin_ G) (zF : ZI F) (zG : ZI G) (fH : Fin_ H) (zH : ZI H) (h : IsZG F G D) (k : IsZG (cv F H) (cv G H) E) : E = cv D H ∨ E = psc ((-1 : Int) : Rat) (cv D H) := by
 obtain ⟨f1, z1, l1, c1, g1⟩ := h
 have hcn : ∀ a : Int, a.natAbs = 1 → cn (psc (a : Rat) (cv D H)) = Nat.gcd (cn (cv F H)) (cn (cv G H)) := fun a ha => by
  rw [cn_psc (by omega) (z1.cv zH) (f1.cv fH), ha, Nat.one_mul, gauss z1 zH f1 fH, gauss zF zH fF fH, gauss zG zH fG fH, c1, Nat.gcd_mul_right]
 have key : ∀ a : Int, a.natAbs = 1 → (cv D H ≠ pz → 0 < (a : Rat) * ld (cv D H)) → E = psc (a : Rat) (cv D H) := fun a ha hl => by
  have ha0 : (a : Rat) ≠ 0 := by
   have : a ≠ 0 := by omega
   exact_mod_cast this
  refine k.uniq ⟨(f1.cv fH).psc _, (z1.cv zH).psc a, fun hn => ?_, hcn a ha, isG_common fF fG fH g1 f1 ha0 rfl⟩
  rw [ld_psc ha0 (f1.cv fH)]
  exact hl fun e => hn (by rw [e, psc_pz])
 by_cases hp : 0 < ld (cv D H)
 ·refine .inl ?_
  have := key 1 rfl (fun _ => by simpa using hp)
  rwa [show (((1 : Int)) : Rat) = 1 from rfl, psc_one] at this
 ·refine .inr (key (-1) rfl (fun hn => ?_))
  have := ld_ne (f1.cv fH) hn
  have e : (((-1 : Int)) : Rat) = -1 := rfl
  rw [e]
  have h2 : ld (cv D H) < 0 := Rat.lt_of_le_of_ne (Rat.not_lt.1 hp) this
  grind
theorem GzSt.run {F0 G0 : Nat → Rat} {D S : Nat} : ∀ (n : Nat) {A B : Nat → Rat}, GzSt F0 G0 D S A B → pl B ≤ n → ∃ A', GzSt F0 G0 D S A' pz := by
 intro n
 induction n with
 | zero =>
  intro A B h hn
  have : B = pz := (pl_zero h.fB).1 (by omega)
  subst this
  exact ⟨A, h⟩
 | succ n ih =>
  intro A B h hn
  by_cases h0 : B = pz
  ·subst h0; exact ⟨A, h⟩
  ·obtain ⟨h1, h2⟩ := h.step h0 rfl
   exact ih h1 (by omega)
end Go.Hp
namespace Go.Hp
theorem sm_rev (f : Nat → Rat) : ∀ n, sm (n + 1) f = sm (n + 1) fun i => f (n - i)
 | 0 => by rw [sm_succ, sm_succ, sm_zero, sm_zero]
 | n + 1 => by
  rw [sm_succ, sm_rev f n, sm_front (n + 1)]
  rw [show sm (n + 1) (fun i => f (n + 1 - (i + 1))) = sm (n + 1) (fun i => f (n - i)) from sm_congr fun i _ => by congr 1; omega]
  rw [Nat.sub_zero]; grind
/-- A shifted product of two rows of coefficients. -/
theorem conv {N p q j : Nat} {X Y : Nat → Rat} (hp : p < N) (hX : Sup (p + 1) X) :
  sm N (fun c => (if c ≤ p then X (p - c) else 0) * (if j ≤ q + c then Y (q + c - j) else 0)) = if j ≤ p + q then cv X Y (p + q - j) else 0 := by
 have h1 : sm N (fun c => (if c ≤ p then X (p - c) else 0) * (if j ≤ q + c then Y (q + c - j) else 0)) = sm (p + 1) (fun c => (if c ≤ p then X (p - c) else 0) * (if j ≤ q + c then Y (q + c - j) else 0)) :=
  sm_tail (fun i hi => by rw [if_neg (by omega)]; grind) (by omega)
 rw [h1, sm_rev]
 by_cases hj : j ≤ p + q
 ·rw [if_pos hj, cv_at hX]
  refine sm_congr fun i hi => ?_
  rw [if_pos (by omega), show p - (p - i) = i from by omega]
  by_cases a : i ≤ p + q - j
  ·rw [if_pos (by omega), if_pos a]; congr 2; omega
  ·rw [if_neg (by omega), if_neg a]
 ·rw [if_neg hj]
  rw [show sm (p + 1) (fun i => (if p - i ≤ p then X (p - (p - i)) else 0) * (if j ≤ q + (p - i) then Y (q + (p - i) - j) else 0)) = sm (p + 1) fun _ => 0 from sm_congr fun i hi => by
   rw [if_neg (show ¬ j ≤ q + (p - i) by omega)]; grind]
  exact sm_nil _
end Go.Hp
namespace Go.Hp
/-- An integer of at most s digits. -/
def Zs_ (s : Nat) (q : Rat) : Prop := ∃ z : Int, q = (z : Rat) ∧ z.natAbs < bp s
theorem Zs_.mul {s t : Nat} {p q : Rat} (h : Zs_ s p) (k : Zs_ t q) : Zs_ (s + t) (p * q) := by
 obtain ⟨x, rfl, hx⟩ := h
 obtain ⟨y, rfl, hy⟩ := k
 refine ⟨x * y, (Rat.intCast_mul x y).symm, ?_⟩
 rw [Int.natAbs_mul, bp_add]
 exact Nat.mul_lt_mul'' hx hy
theorem Zs_.sg {s : Nat} {q : Rat} (h : Zs_ s q) (i : Nat) : Zs_ s (Hp.sg i * q) := by
 obtain ⟨x, rfl, hx⟩ := h
 unfold Hp.sg
 split
 ·exact ⟨x, by grind, hx⟩
 ·exact ⟨-x, by rw [Rat.intCast_neg]; grind, by rw [Int.natAbs_neg]; exact hx⟩
theorem sm_zs {s : Nat} {f : Nat → Rat} : ∀ {k : Nat}, (∀ i, i < k → Zs_ s (f i)) → ∃ z : Int, sm k f = (z : Rat) ∧ z.natAbs ≤ k * bp s
 | 0, _ => ⟨0, rfl, by simp⟩
 | k + 1, h => by
  obtain ⟨z, e, hz⟩ := sm_zs (k := k) fun i hi => h i (by omega)
  obtain ⟨y, e2, hy⟩ := h k (by omega)
  refine ⟨z + y, by rw [sm_succ, e, e2, Rat.intCast_add], ?_⟩
  have := Int.natAbs_add_le z y
  rw [Nat.succ_mul]; omega
theorem Zs_.up {s t : Nat} {q : Rat} (h : Zs_ s q) (k : s ≤ t) : Zs_ t q := by
 obtain ⟨x, rfl, hx⟩ := h
 exact ⟨x, rfl, Nat.lt_of_lt_of_le hx (bp_le k)⟩
theorem det_zs {s : Nat} : ∀ {n : Nat} {A : Nat → Nat → Rat}, n < 4294967295 → (∀ i j, Zs_ s (A i j)) → Zs_ (n * (s + 1) + 1) (det n A)
 | 0, A, _, _ => ⟨1, rfl, by show 1 < bp (0 * (s + 1) + 1); rw [Nat.zero_mul, Nat.zero_add]; decide⟩
 | n + 1, A, hn, h => by
  rw [det_succ]
  have h1 : ∀ i, i < n + 1 → Zs_ (s + (n * (s + 1) + 1)) (sg i * A i 0 * det n (minor i A)) := fun i _ => by
   have h2 : Zs_ (n * (s + 1) + 1) (det n (minor i A)) := det_zs (n := n) (by omega) fun r c => h _ _
   have h3 := ((h i 0).sg i).mul h2
   exact h3
  obtain ⟨z, e, hz⟩ := sm_zs h1
  refine ⟨z, e, Nat.lt_of_le_of_lt hz ?_⟩
  rw [show (n + 1) * (s + 1) + 1 = s + (n * (s + 1) + 1) + 1 from by rw [Nat.succ_mul]; omega, bp_succ]
  have hp : 0 < bp (s + (n * (s + 1) + 1)) := bp_pos _
  calc (n + 1) * bp (s + (n * (s + 1) + 1)) < 4294967296 * bp (s + (n * (s + 1) + 1)) := Nat.mul_lt_mul_of_pos_right (by omega) hp
   _ = _ := by rw [Nat.mul_comm]
theorem zs_of {q : Rat} {s : Nat} (h : ∃ z : Int, q = (z : Rat)) (k : qsz q ≤ s) : Zs_ s q := by
 obtain ⟨z, rfl⟩ := h
 rw [qsz_cast] at k
 exact ⟨z, rfl, sz_le_iff.1 (by omega)⟩
theorem Zs_.zero (s : Nat) : Zs_ s 0 := ⟨0, rfl, bp_pos s⟩
theorem res_sz {F G : Nat → Rat} {S : Nat} (zF : ZI F) (zG : ZI G) (qF : ∀ i, qsz (F i) ≤ S) (qG : ∀ i, qsz (G i) ≤ S) (hn : pl F + pl G < 4294967295) : sz (res F G).num.natAbs ≤ (pl F + pl G) * (S + 1) + 1 := by
 have key : Zs_ ((pl F + pl G) * (S + 1) + 1) (res F G) := by
  unfold res
  split
  ·exact Zs_.zero _
  ·unfold rsf
   refine (det_zs (s := S) (by omega) fun i j => ?_).up (by
    have : (pl F - 1 + (pl G - 1)) * (S + 1) ≤ (pl F + pl G) * (S + 1) := Nat.mul_le_mul_right _ (by omega)
    omega)
   unfold syl
   split
   ·split
    ·exact zs_of (zF _) (qF _)
    ·exact Zs_.zero _
   ·split
    ·exact zs_of (zG _) (qG _)
    ·exact Zs_.zero _
 obtain ⟨z, e, hz⟩ := key
 rw [e]
 exact sz_le_iff.2 hz
end Go.Hp
namespace Go.Hp
def subm (c : Nat) (M : Nat → Nat → Rat) : Nat → Nat → Rat := fun i j => M (c + i) (c + j)
def swr (M : Nat → Nat → Rat) (c p : Nat) : Nat → Nat → Rat := fun i => M (if i = c then p else if i = p then c else i)
theorem det_swap {n i j : Nat} (A : Nat → Nat → Rat) (hi : i < n) (hj : j < n) (h : i ≠ j) : det n (swr A i j) = - det n A := by
 have h1 := det_add A hi hj h 1
 obtain ⟨B, hB⟩ : ∃ B, B = rw_ A i fun c => A i c + 1 * A j c := ⟨_, rfl⟩
 rw [← hB] at h1
 have h2 := det_add B hj hi (Ne.symm h) (-1)
 obtain ⟨C, hC⟩ : ∃ C, C = rw_ B j fun c => B j c + -1 * B i c := ⟨_, rfl⟩
 rw [← hC] at h2
 have h3 := det_add C hi hj h 1
 obtain ⟨D, hD⟩ : ∃ D, D = rw_ C i fun c => C i c + 1 * C j c := ⟨_, rfl⟩
 rw [← hD] at h3
 have h4 := det_lin (swr A i j) hj (-1) 0 (A i) (A i)
 have e1 : rw_ (swr A i j) j (A i) = swr A i j := by
  funext r c; unfold rw_ swr
  by_cases e : r = j
  ·subst e; rw [if_pos rfl, if_neg (Ne.symm h), if_pos rfl]
  ·rw [if_neg e]
 rw [e1] at h4
 have e2 : (rw_ (swr A i j) j fun c => -1 * A i c + 0 * A i c) = D := by
  funext r c
  have hDr : D r c = if r = i then C i c + 1 * C j c else C r c := by rw [hD]; rfl
  have hCr : ∀ r, C r c = if r = j then B j c + -1 * B i c else B r c := fun r => by rw [hC]; rfl
  have hBr : ∀ r, B r c = if r = i then A i c + 1 * A j c else A r c := fun r => by rw [hB]; rfl
  rw [hDr, hCr i, hCr j, hCr r, hBr i, hBr j, hBr r]
  unfold rw_ swr
  rw [if_neg h, if_pos rfl, if_pos rfl, if_neg (Ne.symm h)]
  by_cases e : r = i
  ·subst e; rw [if_neg h, if_pos rfl, if_pos rfl]; grind
  ·rw [if_neg e]
   by_cases e' : r = j
   ·subst e'; rw [if_pos rfl, if_pos rfl]; grind
   ·rw [if_neg e', if_neg e', if_neg e, if_neg e, if_neg e']
 rw [e2] at h4
 have : det n D = det n A := by rw [h3, h2, h1]
 grind
theorem elim_zero {n c : Nat} {M : Nat → Nat → Rat} (hc : c < n) (h : ∀ i, c ≤ i → i < n → M i c = 0) : det (n - c) (subm c M) = 0 := by
 rw [show n - c = (n - c - 1) + 1 from by omega]
 exact det_col0 fun i hi => h (c + i) (by omega) (by omega)
theorem elim_swap {n c p : Nat} (M : Nat → Nat → Rat) (hc : c < p) (hp : p < n) : det (n - c) (subm c (swr M c p)) = - det (n - c) (subm c M) := by
 rw [← det_swap (subm c M) (i := 0) (j := p - c) (by omega) (by omega) (by omega)]
 refine det_congr fun i j _ _ => ?_
 unfold subm swr
 simp only
 congr 1
 repeat' split
 all_goals omega
/-- Rows c + 1 .. i of round c done. -/
def elimTo (c i : Nat) (M : Nat → Nat → Rat) : Nat → Nat → Rat := fun r k => if c < r ∧ r < i ∧ c ≤ k then M r k - M r c / M c c * M c k else M r k
theorem elim_step {n c : Nat} (M : Nat → Nat → Rat) (hc : c < n) (h0 : M c c ≠ 0) : det (n - c) (subm c M) = M c c * det (n - (c + 1)) (subm (c + 1) (elimTo c n M)) := by
 have h1 := det_rows (n := n - c) (subm c M) (fun r => decide (0 < r)) (fun _ => 1) (fun r _ => - (M (c + r) c / M c c)) (fun _ _ => 0) fun i j hi hP _ => ⟨by omega, rfl⟩
 rw [← h1, show n - c = (n - (c + 1)) + 1 from by omega]
 rw [det_col (k := 0) (by omega) fun i hi e => ?_]
 ·rw [sg_zero, if_neg (by simp)]
  have e1 : subm c M 0 0 = M c c := rfl
  rw [e1, Rat.one_mul]
  congr 1
  refine det_congr fun i j hi hj => ?_
  have e2 : sk 0 i = i + 1 := by unfold sk; rw [if_neg (by omega)]
  unfold minor subm elimTo
  simp only [e2]
  rw [if_pos (by simp), if_pos ⟨by omega, by omega, by omega⟩, sm_succ, sm_zero]
  rw [show c + 1 + i = c + (i + 1) from by omega, show c + 1 + j = c + (j + 1) from by omega, Nat.add_zero]
  grind
 ·rw [if_pos (by simpa using Nat.pos_of_ne_zero e), sm_succ, sm_zero]
  unfold subm
  rw [Nat.add_zero]
  grind
/-- In row i of round c the columns before k done. -/
def elimIn (c i k : Nat) (M : Nat → Nat → Rat) : Nat → Nat → Rat := fun r j => if c < r ∧ c ≤ j ∧ (r < i ∨ r = i ∧ j < k) then M r j - M r c / M c c * M c j else M r j
theorem elimIn_start (c i : Nat) (M : Nat → Nat → Rat) : elimIn c i c M = elimTo c i M := by
 funext r j; unfold elimIn elimTo
 by_cases h : c < r ∧ r < i ∧ c ≤ j
 ·rw [if_pos ⟨h.1, h.2.2, .inl h.2.1⟩, if_pos h]
 ·rw [if_neg (fun q => h ⟨q.1, by obtain ⟨q1, q2, q3⟩ := q; omega, q.2.1⟩), if_neg h]
theorem elimIn_end {c i n : Nat} (M : Nat → Nat → Rat) {r j : Nat} (hj : j < n) : elimIn c i n M r j = elimTo c (i + 1) M r j := by
 unfold elimIn elimTo
 by_cases h : c < r ∧ r < i + 1 ∧ c ≤ j
 ·rw [if_pos ⟨h.1, h.2.2, by omega⟩, if_pos h]
 ·rw [if_neg (by omega), if_neg h]
theorem elimTo_skip {c i : Nat} (M : Nat → Nat → Rat) (h : M i c / M c c = 0) : elimTo c (i + 1) M = elimTo c i M := by
 funext r j; unfold elimTo
 by_cases e : r = i
 ·subst e
  have e1 : ¬ (c < r ∧ r < r ∧ c ≤ j) := by omega
  rw [if_neg e1]
  split
  ·rw [h]; grind
  ·rfl
 ·by_cases k : c < r ∧ r < i ∧ c ≤ j
  ·rw [if_pos ⟨k.1, by omega, k.2.2⟩, if_pos k]
  ·rw [if_neg (by omega), if_neg k]
theorem elimTo_start (c : Nat) (M : Nat → Nat → Rat) : elimTo c (c + 1) M = M := by
 funext r j; unfold elimTo; rw [if_neg (by omega)]
theorem elimIn_succ {c i k : Nat} (M : Nat → Nat → Rat) (hi : c < i) (hk : c ≤ k) : elimIn c i (k + 1) M = fun r j => if r = i ∧ j = k then M i k - M i c / M c c * M c k else elimIn c i k M r j := by
 funext r j; unfold elimIn
 by_cases e : r = i ∧ j = k
 ·obtain ⟨rfl, rfl⟩ := e
  rw [if_pos ⟨hi, hk, by omega⟩, if_pos ⟨rfl, rfl⟩]
 ·rw [if_neg e]
  by_cases h : c < r ∧ c ≤ j ∧ (r < i ∨ r = i ∧ j < k)
  ·rw [if_pos ⟨h.1, h.2.1, by omega⟩, if_pos h]
  ·rw [if_neg (by omega), if_neg h]
theorem elimIn_at {c i k : Nat} (M : Nat → Nat → Rat) : elimIn c i k M i k = M i k := by unfold elimIn; rw [if_neg (by omega)]
theorem elimIn_row {c i k j : Nat} (M : Nat → Nat → Rat) : elimIn c i k M c j = M c j := by unfold elimIn; rw [if_neg (by omega)]
theorem elimTo_row {c i j : Nat} (M : Nat → Nat → Rat) : elimTo c i M c j = M c j := by unfold elimTo; rw [if_neg (by omega)]
theorem elimTo_at {c i j : Nat} (M : Nat → Nat → Rat) : elimTo c i M i j = M i j := by unfold elimTo; rw [if_neg (by omega)]
theorem elim_qsz {s : Nat} {x y z u : Rat} (h1 : qsz x ≤ s) (h2 : qsz y ≤ s) (h3 : qsz z ≤ s) (h4 : qsz u ≤ s) : qsz (y / z) ≤ 2 * s ∧ qsz (y / z * u) ≤ 3 * s ∧ qsz (x - y / z * u) ≤ 4 * s + 2 := by
 have a1 := qsz_div y z
 have a2 := qsz_mul (y / z) u
 have a3 := qsz_sub x (y / z * u)
 omega
/-! ### the resultant with the derivative -/
theorem det_dvd {n : Nat} {A : Nat → Nat → Rat} {a : Rat} (h : ∀ i j, ∃ z : Int, A i j = (z : Rat)) (h0 : ∀ i, i < n + 1 → ∃ z : Int, A i 0 = a * (z : Rat)) : ∃ z : Int, det (n + 1) A = a * (z : Rat) := by
 rw [det_succ]
 have key : ∀ m, m ≤ n + 1 → ∃ z : Int, sm m (fun i => sg i * A i 0 * det n (minor i A)) = a * (z : Rat) := by
  intro m
  induction m with
  | zero => intro _; exact ⟨0, by rw [sm_zero]; exact (Rat.mul_zero _).symm⟩
  | succ m ih =>
   intro hm
   obtain ⟨z, hz⟩ := ih (by omega)
   obtain ⟨x, hx⟩ := h0 m (by omega)
   obtain ⟨y, hy⟩ := det_int (n := n) (A := minor m A) fun i j => h _ _
   have hs : ∃ t : Int, sg m = (t : Rat) := by
    unfold sg
    split
    ·exact ⟨1, rfl⟩
    ·exact ⟨-1, rfl⟩
   obtain ⟨t, ht⟩ := hs
   exact ⟨z + t * x * y, by rw [sm_succ, hz, hx, hy, ht, Rat.intCast_add, Rat.intCast_mul, Rat.intCast_mul]; grind⟩
 exact key (n + 1) (Nat.le_refl _)
theorem zi_pd {F : Nat → Rat} (h : ZI F) : ZI (pd F) := fun i => by
 obtain ⟨n, e⟩ := h (i + 1)
 exact ⟨((i + 1 : Nat) : Int) * n, by unfold pd; rw [e, Rat.intCast_mul]; rfl⟩
theorem sup_pd {F : Nat → Rat} {n : Nat} (h : Sup (n + 1) F) : Sup n (pd F) := fun i hi => by unfold pd; rw [h (i + 1) (by omega)]; exact Rat.mul_zero _
theorem pl_pd {F : Nat → Rat} (fF : Fin_ F) : pl (pd F) = pl F - 1 := by
 by_cases h : pl F = 0
 ·rw [(pl_zero fF).1 h]
  have : pd pz = pz := by funext i; exact Rat.mul_zero _
  rw [this, pl_pz]
 ·obtain ⟨m, hm⟩ : ∃ m, pl F = m + 1 := ⟨pl F - 1, by omega⟩
  have hs : Sup (m + 1) F := hm ▸ pl_sup fF
  have ht := pl_top fF (by omega)
  rw [hm] at ht ⊢
  refine pl_eq (sup_pd hs) fun h0 => ?_
  obtain ⟨k, rfl⟩ : ∃ k, m = k + 1 := ⟨m - 1, by omega⟩
  show ((k + 1 : Nat) : Rat) * F (k + 1) ≠ 0
  intro e
  rcases Rat.mul_eq_zero.1 e with e | e
  ·have : ((k + 1 : Nat) : Rat) = ((0 : Nat) : Rat) := e
   have := Rat.natCast_inj.1 this
   omega
  ·exact ht e
theorem res_pd {F : Nat → Rat} (fF : Fin_ F) (zF : ZI F) (h : 1 < pl F) : (F (pl F - 1)).num ∣ (res F (pd F)).num ∧ F (pl F - 1) ≠ 0 := by
 have h0 : F (pl F - 1) ≠ 0 := pl_top fF (by omega)
 have hp : pl (pd F) = pl F - 1 := pl_pd fF
 have zd : ZI (pd F) := zi_pd zF
 obtain ⟨m, hm⟩ : ∃ m, pl F = m + 2 := ⟨pl F - 2, by omega⟩
 have e1 : res F (pd F) = det (m + 1 + m) (syl (m + 1) F m (pd F)) := by
  unfold res rsf
  rw [if_neg (by omega), hp, hm]
  rfl
 rw [hm] at h0 ⊢
 have e2 : m + 2 - 1 = m + 1 := by omega
 rw [e2] at h0 ⊢
 obtain ⟨a, ha⟩ := zF (m + 1)
 have hs : Sup (m + 2) F := hm ▸ pl_sup fF
 have hsd : Sup (m + 1) (pd F) := by exact sup_pd hs
 have e3 : m + 1 + m = (m + m) + 1 := by omega
 obtain ⟨z, hz⟩ := det_dvd (n := m + m) (A := syl (m + 1) F m (pd F)) (a := F (m + 1)) (fun i j => by
  unfold syl
  split
  ·split
   ·exact zF _
   ·exact ⟨0, rfl⟩
  ·split
   ·exact zd _
   ·exact ⟨0, rfl⟩) fun i hi => by
  unfold syl
  by_cases hi' : i < m
  ·rw [if_pos hi', if_pos (by omega)]
   by_cases hi0 : i = 0
   ·subst hi0; exact ⟨1, by rw [Nat.add_zero, Nat.sub_zero]; exact (Rat.mul_one _).symm⟩
   ·exact ⟨0, by rw [hs _ (by omega)]; exact (Rat.mul_zero _).symm⟩
  ·rw [if_neg hi', if_pos (by omega), Nat.sub_zero]
   by_cases hi0 : i = m
   ·subst hi0; exact ⟨(i + 1 : Nat), by unfold pd; rw [Rat.mul_comm]; rfl⟩
   ·exact ⟨0, by rw [hsd _ (by omega)]; exact (Rat.mul_zero _).symm⟩
 refine ⟨?_, h0⟩
 rw [e1, e3, hz, ha, ← Rat.intCast_mul]
 exact ⟨z, rfl⟩
end Go.Hp
namespace Go.Hp
open Go.RowKit
def rdv : World → Value → Value → Prop := fun _ c u => c = .agg #[u] ∧ u.oneCell' = true ∧ isDig u = false
theorem blk_types {k k' : Nat} {α β : Type} {rd : World → Value → α → Prop} {rd' : World → Value → β → Prop} {base base' : Nat} {t t' : TypeId} {w : World} {v u : Value} {l : List α} {m : List β}
  (h : OwnR k rd base t w v l) (h' : OwnR k' rd' base' t' w u m) (ht : t ≠ t') {g : Nat} (hg : g ∈ blk v) : g ∉ blk u := by
 intro hu
 obtain ⟨_, _, _, ⟨_, h4⟩, _⟩ := h
 obtain ⟨_, _, _, ⟨_, k4⟩, _⟩ := h'
 rcases h4 with ⟨rfl, _⟩ | ⟨a, cap, cur, rfl, _, hb, _⟩
 ·simp [blk, Value.ownBlock] at hg
 rcases k4 with ⟨rfl, _⟩ | ⟨b, cap', cur', rfl, _, hb', _⟩
 ·simp [blk, Value.ownBlock] at hu
 simp [blk, Value.ownBlock] at hg hu
 subst hg; subst hu
 have e := hb.1.symm.trans hb'.1
 injection e with e
 injection e with e1 e2 e3
 exact ht e2
structure Rows_ (base : Nat) (t t' : TypeId) (w : World) (v : Value) (us : List Value) (ls : List (List Rat)) : Prop where
 out : OwnR 1 rdv base t w v us
 len : us.length = ls.length
 row : ∀ i (h : i < us.length) (h' : i < ls.length), OwnQ base t' w us[i] ls[i]
 dis : ∀ i j (hi : i < us.length) (hj : j < us.length), i ≠ j → ∀ g ∈ blk us[i], g ∉ blk us[j]
theorem Rows_.nil (base : Nat) (t t' : TypeId) (w : World) : Rows_ base t t' w (.slice none 0 0) [] [] := ⟨OwnR.nil _ _ _ _ _, rfl, fun i h => by simp at h, fun i j h => by simp at h⟩
theorem Rows_.ext {base : Nat} {t t' : TypeId} {w w' : World} {v : Value} {us : List Value} {ls : List (List Rat)} (h : Rows_ base t t' w v us ls) (x : Ext w w') : Rows_ base t t' w' v us ls :=
 ⟨h.out.ext x fun _ _ q => q, h.len, fun i a b => (h.row i a b).ext x, h.dis⟩
/-- A row's header and elements. -/
theorem Rows_.at_ {base n c : Nat} {t t' : TypeId} {w : World} {A : Option Addr} {us : List Value} {ls : List (List Rat)} (h : Rows_ base t t' w (.slice A n c) us ls) {i : Nat} (hi : i < ls.length) :
  ∃ g E d, A = some ⟨g, 0, none⟩ ∧ w.cell? ⟨g, i, none⟩ = some (.slice E (ls[i]).length d) ∧ QsV base w (.slice E (ls[i]).length d) ls[i] := by
 obtain ⟨h0, h1, h2, h3⟩ := h
 have hi' : i < us.length := by omega
 obtain ⟨ess, g1, g2, ⟨g3, g4⟩, g5⟩ := h0
 rcases g4 with ⟨e, e0⟩ | ⟨g, cap, cur, e, hbg, hb, hnc, hcm, hcs, htake⟩
 ·omega
 ·injection e with e1 e2 e3
  obtain ⟨A2, c2, ea, -⟩ := OwnQ.row (h2 i hi' hi)
  obtain ⟨he, ho, hd⟩ := g5 i hi' (by omega)
  refine ⟨g, A2, c2, e1, ?_, ea ▸ OwnQ.row (h2 i hi' hi)⟩
  rw [cell_of_row w g i cur t (0, 0) hb.1]
  have h6 := flat_get (k := 1) g2 (j := i) (i := 0) (by omega) (by omega)
  rw [Nat.mul_one, Nat.add_zero, ← htake, List.getElem?_take_of_lt (by omega)] at h6
  have h7 : ess[i] = #[us[i]] := by injection he
  rw [h7, ea] at h6
  simpa using h6
theorem Rows_.shape {base : Nat} {t t' : TypeId} {w : World} {v : Value} {us : List Value} {ls : List (List Rat)} (h : Rows_ base t t' w v us ls) : ∃ A c, v = .slice A ls.length c := by
 obtain ⟨A, c, e⟩ := h.out.len
 exact ⟨A, c, by rw [e, h.len]⟩
/-- One row more. -/
theorem Rows_.append {P : Program} {base : Nat} {t t' : TypeId} {w : World} {v u : Value} {us : List Value} {ls : List (List Rat)} {l : List Rat} (h : Rows_ base t t' w v us ls) (hu : OwnQ base t' w u l) (ht : t ≠ t')
  (hf : ∀ i (h : i < us.length), ∀ g ∈ blk us[i], g ∉ blk u)
  (tt ty : TypeId) (i : TypeInfo) (z : Value) (bytes : Nat) (hT : P.underlying tt = some (.slice t)) (hi : P.info? t = some i) (hz : i.zero = some z) (hsize : i.size = 1) (hby : i.bytes = bytes) (hzs : z.cells.size = 1) (hzd : nodig z.cells = true)
  (h63 : us.length + 1 ≤ maxLen) (hbytes : (us.length + 1) * bytes ≤ 140737488355328) (hbase : base ≤ w.heap.size) :
  ∃ v' w', (Builtin.append_ #[tt, tt] ty #[v, .slice (some ⟨w.heap.size, 0, none⟩) 1 1]).run P (w.alloc (.cells #[u] t)) = .ok v' w' ∧ Rows_ base t t' w' v' (us ++ [u]) (ls ++ [l]) ∧ Upd (blk v) (w.alloc (.cells #[u] t)) w' := by
 obtain ⟨A, c, rfl⟩ := (OwnQ.row hu).len
 have hb := Box.new w t #[.slice A l.length c] (by simp [isDig])
 have x := (Ext.refl w).alloc (.cells #[.slice A l.length c] t)
 have h' := h.ext x
 have hu' := hu.ext x
 obtain ⟨v', w', a, b, U⟩ := OwnR.append (P := P) (x := Value.slice A l.length c) h'.out tt ty i z bytes hT hi hz hsize hby hzs hzd (by decide) ⟨w.heap.size, 0, none⟩ 1 #[.slice A l.length c] rfl ⟨rfl, rfl, rfl⟩ hb.news (by simp [Value.oneCell']) (by simp [nodig, isDig]) h63 hbytes (Nat.le_trans hbase x.size) (fun _ _ _ _ q => q)
 refine ⟨v', w', a, ⟨b, by simp [h.len], fun j a1 a2 => ?_, fun j k a1 a2 hne => ?_⟩, U⟩
 ·have ho : ∀ (s : Value) (m : List Rat), OwnQ base t' (w.alloc (.cells #[.slice A l.length c] t)) s m → OwnQ base t' w' s m := fun s m q => OwnR.upd q U (fun g hg hv => blk_types h'.out q ht hv hg) fun _ _ q => q.kd U.kd
  have hl := h.len
  by_cases hj : j < us.length
  ·rw [List.getElem_append_left hj, List.getElem_append_left (by omega)]
   exact ho _ _ (h'.row j hj (by omega))
  ·rw [List.getElem_append_right (by omega), List.getElem_append_right (by omega)]
   simpa using ho _ _ hu'
 ·simp only [List.length_append, List.length_singleton] at a1 a2
  by_cases hj : j < us.length
  ·rw [List.getElem_append_left hj]
   by_cases hk : k < us.length
   ·rw [List.getElem_append_left hk]; exact h.dis j k hj hk hne
   ·rw [List.getElem_append_right (by omega)]
    intro g hg; simpa using hf j hj g hg
  ·rw [List.getElem_append_right (by omega)]
   have hk : k < us.length := by omega
   rw [List.getElem_append_left hk]
   intro g hg hk'
   exact hf k hk g hk' (by simpa using hg)
/-- A matrix of the call's own. -/
structure Mx (base gA : Nat) (t t' : TypeId) (w : World) (n : Nat) (gs cs : Nat → Nat) (M : Nat → Nat → Rat) : Prop where
 box : ∃ cur, Box w gA t cur ∧ ∀ i, i < n → cur[i]? = some (.slice (some ⟨gs i, 0, none⟩) n (cs i))
 ge : base ≤ gA
 row : ∀ i, i < n → base ≤ gs i ∧ gs i ≠ gA ∧ QArr w (gs i) t' (full n (M i))
 inj : ∀ i j, i < n → j < n → gs i = gs j → i = j
section
variable {base gA n : Nat} {t t' : TypeId} {w w' : World} {gs cs : Nat → Nat} {M : Nat → Nat → Rat}
theorem Mx.ext (h : Mx base gA t t' w n gs cs M) (x : Ext w w') : Mx base gA t t' w' n gs cs M := by
 obtain ⟨⟨cur, h1, h2⟩, h3, h4, h5⟩ := h
 exact ⟨⟨cur, h1.ext x, h2⟩, h3, fun i hi => ⟨(h4 i hi).1, (h4 i hi).2.1, (h4 i hi).2.2.ext x⟩, h5⟩
theorem Mx.off {g : Nat} (h : Mx base gA t t' w n gs cs M) (U : Upd [g] w w') (h1 : gA ≠ g) (h2 : ∀ i, i < n → gs i ≠ g) : Mx base gA t t' w' n gs cs M := by
 obtain ⟨⟨cur, k1, k2⟩, k3, k4, k5⟩ := h
 exact ⟨⟨cur, k1.upd U (by simpa using h1), k2⟩, k3, fun i hi => ⟨(k4 i hi).1, (k4 i hi).2.1, (k4 i hi).2.2.upd U (by simpa using h2 i hi)⟩, k5⟩
theorem Mx.congr {M' : Nat → Nat → Rat} (h : Mx base gA t t' w n gs cs M) (e : ∀ i j, i < n → j < n → M i j = M' i j) : Mx base gA t t' w n gs cs M' := by
 obtain ⟨k1, k3, k4, k5⟩ := h
 exact ⟨k1, k3, fun i hi => ⟨(k4 i hi).1, (k4 i hi).2.1, by have := (k4 i hi).2.2; rw [full_ext fun j hj => e i j hi hj] at this; exact this⟩, k5⟩
theorem Mx.head (h : Mx base gA t t' w n gs cs M) {i : Nat} (hi : i < n) : w.cell? ⟨gA, i, none⟩ = some (.slice (some ⟨gs i, 0, none⟩) n (cs i)) := by
 obtain ⟨⟨cur, h1, h2⟩, -⟩ := h
 rw [cell_of_row w gA i cur t (0, 0) h1.1]; exact h2 i hi
theorem Mx.lt (h : Mx base gA t t' w n gs cs M) : gA < w.heap.size ∧ ∀ i, i < n → gs i < w.heap.size := by
 obtain ⟨⟨cur, k1, k2⟩, k3, k4, k5⟩ := h
 exact ⟨k1.lt, fun i hi => (k4 i hi).2.2.lt⟩
theorem Mx.rowfrozen (h : Mx base gA t t' w n gs cs M) {i : Nat} (hi : i < n) (j : Nat) : w.frozen? ⟨gs i, j, none⟩ = false := (h.row i hi).2.2.frozen j
theorem Mx.frozen (h : Mx base gA t t' w n gs cs M) (i : Nat) : w.frozen? ⟨gA, i, none⟩ = false := by obtain ⟨⟨cur, h1, h2⟩, -⟩ := h; exact h1.frozen i
theorem Mx.at_ (h : Mx base gA t t' w n gs cs M) {i j : Nat} (hi : i < n) (hj : j < n) :
  ∃ b A m c b' A' m' c', w.cell? ⟨gs i, j * 4, none⟩ = some (.bool b) ∧ w.cell? ⟨gs i, j * 4 + 1, none⟩ = some (.slice A m c) ∧ w.cell? ⟨gs i, j * 4 + 2, none⟩ = some (.bool b') ∧ w.cell? ⟨gs i, j * 4 + 3, none⟩ = some (.slice A' m' c') ∧ IsQ w (.agg #[.bool b, .slice A m c, .bool b', .slice A' m' c']) (M i j) := (h.row i hi).2.2.full_at hj
theorem Mx.put (h : Mx base gA t t' w n gs cs M) {i j : Nat} (hi : i < n) (hj : j < n) {b b' : Bool} {A A' : Option Addr} {m c m' c' : Nat} {q : Rat} (hq : IsQ w (.agg #[.bool b, .slice A m c, .bool b', .slice A' m' c']) q) :
  ∃ W, W = (((w.setCell ⟨gs i, j * 4, none⟩ (.bool b)).setCell ⟨gs i, j * 4 + 1, none⟩ (.slice A m c)).setCell ⟨gs i, j * 4 + 2, none⟩ (.bool b')).setCell ⟨gs i, j * 4 + 3, none⟩ (.slice A' m' c') ∧ Mx base gA t t' W n gs cs (fun r k => if r = i ∧ k = j then q else M r k) ∧ Upd [gs i] w W := by
 obtain ⟨W, e, h1, U⟩ := (h.row i hi).2.2.put (k := j) (by rw [full_len]; exact hj) hq
 refine ⟨W, e, ?_, U⟩
 obtain ⟨⟨cur, k1, k2⟩, k3, k4, k5⟩ := h
 refine ⟨⟨cur, k1.upd U (by have := (k4 i hi).2.1; simp; omega), k2⟩, k3, fun r hr => ⟨(k4 r hr).1, (k4 r hr).2.1, ?_⟩, k5⟩
 by_cases e' : r = i
 ·subst e'
  rw [full_set (G := fun k => if r = r ∧ k = j then q else M r k) fun k => by simp] at h1
  exact h1
 ·have := (k4 r hr).2.2.upd U (by simpa using fun q => e' (k5 r i hr hi q))
  rw [full_ext (G := fun k => if r = i ∧ k = j then q else M r k) fun k _ => (if_neg fun q => e' q.1).symm] at this
  exact this
theorem Mx.swap (h : Mx base gA t t' w n gs cs M) {c p : Nat} (hc : c < n) (hp : p < n) (hne : c ≠ p) :
  ∃ W, W = (w.setCell ⟨gA, p, none⟩ (.slice (some ⟨gs c, 0, none⟩) n (cs c))).setCell ⟨gA, c, none⟩ (.slice (some ⟨gs p, 0, none⟩) n (cs p)) ∧ Upd [gA] w W ∧ ∃ gs' cs', Mx base gA t t' W n gs' cs' (swr M c p) ∧ ∀ i, i < n → ∃ j, j < n ∧ gs' i = gs j := by
 obtain ⟨⟨cur, k1, k2⟩, k3, k4, k5⟩ := h
 have B1 := k1.set_ p (u := .slice (some ⟨gs c, 0, none⟩) n (cs c)) rfl
 have B2 := B1.set_ c (u := .slice (some ⟨gs p, 0, none⟩) n (cs p)) rfl
 have U : Upd [gA] w _ := (Upd.set_ k1.nodig p (.slice (some ⟨gs c, 0, none⟩) n (cs c))).trans (Upd.set_ B1.nodig c (.slice (some ⟨gs p, 0, none⟩) n (cs p)))
 have hsz : ∀ i, i < n → i < cur.size := fun i hi => by
  have := k2 i hi
  rcases Nat.lt_or_ge i cur.size with a | a
  ·exact a
  ·rw [Array.getElem?_eq_none a] at this; cases this
 obtain ⟨s, hs⟩ : ∃ s : Nat → Nat, s = fun i => if i = c then p else if i = p then c else i := ⟨_, rfl⟩
 have hsi : ∀ i, i < n → s i < n := fun i hi => by rw [hs]; show (if i = c then p else if i = p then c else i) < n; split; exact hp; split; exact hc; exact hi
 have hss : ∀ i, s (s i) = i := fun i => by
  rw [hs]; show (if (if i = c then p else if i = p then c else i) = c then p else if (if i = c then p else if i = p then c else i) = p then c else (if i = c then p else if i = p then c else i)) = i
  by_cases e : i = c
  ·subst e; rw [if_pos rfl, if_neg (Ne.symm hne), if_pos rfl]
  ·rw [if_neg e]
   by_cases e' : i = p
   ·subst e'; rw [if_pos rfl, if_pos rfl]
   ·rw [if_neg e', if_neg e, if_neg e']
 refine ⟨_, rfl, U, fun i => gs (s i), fun i => cs (s i), ⟨⟨_, B2, fun i hi => ?_⟩, k3, fun i hi => ?_, fun i j hi hj e => ?_⟩, fun i hi => ⟨s i, hsi i hi, rfl⟩⟩
 ·have hzi := hsz i hi
  by_cases e : i = c
  ·subst e
   rw [Array.getElem?_setIfInBounds, if_pos rfl, if_pos (by simpa using hzi)]
   have : s i = p := by rw [hs]; exact if_pos rfl
   rw [this]
  ·rw [Array.getElem?_setIfInBounds_ne (fun q => e q.symm)]
   by_cases e' : i = p
   ·subst e'
    rw [Array.getElem?_setIfInBounds, if_pos rfl, if_pos hzi]
    have : s i = c := by rw [hs]; show (if i = c then i else if i = i then c else i) = c; rw [if_neg e, if_pos rfl]
    rw [this]
   ·rw [Array.getElem?_setIfInBounds_ne (fun q => e' q.symm), k2 i hi]
    have : s i = i := by rw [hs]; show (if i = c then p else if i = p then c else i) = i; rw [if_neg e, if_neg e']
    rw [this]
 ·have h4 := k4 (s i) (hsi i hi)
  refine ⟨h4.1, h4.2.1, ?_⟩
  have e : swr M c p i = M (s i) := by rw [hs]; rfl
  rw [e]
  exact h4.2.2.upd U (by simpa using h4.2.1)
 ·have := k5 (s i) (s j) (hsi i hi) (hsi j hj) e
  rw [← hss i, ← hss j, this]
/-- Rows of the call's own, all n long, are a matrix. -/
theorem Rows_.mx {v : Value} {us : List Value} {ls : List (List Rat)} (h : Rows_ base t t' w v us ls) (ht : t ≠ t') (hn : ls.length = n) (h0 : 0 < n) (hM : ∀ i (h : i < ls.length), ls[i] = (List.range n).map (M i)) :
  ∃ g cap gs cs, v = .slice (some ⟨g, 0, none⟩) n cap ∧ Mx base g t t' w n gs cs M := by
 obtain ⟨h0', h1, h2, h3⟩ := h
 have hO := h0'
 obtain ⟨ess, g1, g2, ⟨g3, g4⟩, g5⟩ := h0'
 rcases g4 with ⟨e, e0⟩ | ⟨g, cap, cur, e, hbg, hb, hnc, hcm, hcs, htake⟩
 ·omega
 have key : ∀ i (hi : i < us.length), ∃ gi ci, us[i] = .slice (some ⟨gi, 0, none⟩) n ci ∧ base ≤ gi ∧ QArr w gi t' (full n (M i)) := fun i hi => by
  have hq := h2 i hi (by omega)
  rcases OwnQ.arr hq with e0 | ⟨gi, ci, e1, e2, _, _, e5⟩
  ·have := hM i (by omega); rw [e0] at this
   have := congrArg List.length this
   simp at this; omega
  ·have hl : (ls[i]'(by omega)).length = n := by rw [hM i (by omega)]; simp
   rw [hl] at e1
   refine ⟨gi, ci, e1, e2, ?_⟩
   rw [full_row, ← hM i (by omega)]; exact e5
 obtain ⟨gs, hgs⟩ : ∃ gs : Nat → Nat, ∀ i (hi : i < us.length), ∃ ci, us[i] = .slice (some ⟨gs i, 0, none⟩) n ci ∧ base ≤ gs i ∧ QArr w (gs i) t' (full n (M i)) :=
  ⟨fun i => if hi : i < us.length then Classical.choose (key i hi) else 0, fun i hi => by dsimp only; rw [dif_pos hi]; exact Classical.choose_spec (key i hi)⟩
 obtain ⟨cs, hcs'⟩ : ∃ cs : Nat → Nat, ∀ i (hi : i < us.length), us[i] = .slice (some ⟨gs i, 0, none⟩) n (cs i) ∧ base ≤ gs i ∧ QArr w (gs i) t' (full n (M i)) :=
  ⟨fun i => if hi : i < us.length then Classical.choose (hgs i hi) else 0, fun i hi => by dsimp only; rw [dif_pos hi]; exact Classical.choose_spec (hgs i hi)⟩
 have hbl : ∀ i (hi : i < us.length), gs i ∈ blk us[i] := fun i hi => by rw [(hcs' i hi).1]; simp [blk, Value.ownBlock]
 have hbv : g ∈ blk v := by rw [e]; simp [blk, Value.ownBlock]
 have hun : us.length = n := by omega
 refine ⟨g, cap, gs, cs, by rw [e, hun], ⟨cur, hb, fun i hi => ?_⟩, hbg, fun i hi => ⟨(hcs' i (by omega)).2.1, fun q => ?_, (hcs' i (by omega)).2.2⟩, fun i j hi hj q => ?_⟩
 ·have h6 := flat_get (k := 1) g2 (j := i) (i := 0) (by omega) (by omega)
  rw [Nat.mul_one, Nat.add_zero, ← htake, List.getElem?_take_of_lt (by omega)] at h6
  have h7 : ess[i]'(by omega) = #[us[i]'(by omega)] := by have := (g5 i (by omega) (by omega)).1; injection this
  rw [h7, (hcs' i (by omega)).1] at h6
  simpa using h6
 ·exact blk_types hO (h2 i (by omega) (by omega)) ht hbv (q ▸ hbl i (by omega))
 ·apply Classical.byContradiction
  intro hne
  exact h3 i j (by omega) (by omega) hne (gs i) (hbl i (by omega)) (q ▸ hbl j (by omega))
end
end Go.Hp
namespace Go.Hp
open Go.RowKit
theorem qz_num {q : Rat} {s : Nat} (h : qsz q ≤ s) : sz q.num.natAbs ≤ s := by unfold qsz at h; omega
theorem lzf_hz' {base : Nat} {w : World} {v : Value} {n : Nat} {F : Nat → Rat} {e : TypeId} (h : OwnZ base e w v (lzf n F)) (hs : ∀ i, i < n → qsz (F i) ≤ 1099511627776) : HzV 0 w v (lzf n F) :=
 ZsV.has h.row fun x hx => by
  obtain ⟨i, hi, rfl⟩ := List.getElem_of_mem hx
  rw [lzf_get]
  have := hs i (by rw [lzf_len] at hi; exact hi)
  unfold qsz at this; omega
end Go.Hp
namespace Go.Proofs.YtfacbpnegkjcgaaGreatDoor
open Go.RowKit Go.Hp
end Go.Proofs.YtfacbpnegkjcgaaGreatDoor
namespace Go.Hp
open Go.RowKit
theorem pd_zi {F : Nat → Rat} (h : ZI F) : ZI (pd F) := fun i => by
 obtain ⟨n, e⟩ := h (i + 1)
 exact ⟨((i + 1 : Nat) : Int) * n, by unfold pd; rw [e, Rat.intCast_mul]; rfl⟩
theorem OwnZ.off {base : Nat} {e : TypeId} {w w' : World} {v : Value} {l : List Int} {g : Nat} (h : OwnZ base e w v l) (U : Upd [g] w w') (hg : ∀ k ∈ blk v, k < g) : OwnZ base e w' v l :=
 OwnR.upd h U (fun k hk hG => by have := hg k hk; simp at hG; omega) fun _ _ q => q.kd U.kd
end Go.Hp
namespace Go.Proofs.YtfacbpnegkjcgaaGreatDoor
open Go.RowKit Go.Hp
set_option maxRecDepth 20000 in
set_option maxHeartbeats 1000000 in
theorem derivative_rz (v : Value) (l : List Int) (s : Nat) (w : World) (hv : HzV 0 w v l) (hs : ∀ i, qsz (cz l i) ≤ s) (hst : s + 2 ≤ 549755813888) (hn : l.length ≤ 549755813888) :
  Calls Tryz.prog 43 #[v] w (Gives w fun r w' => IsZP w.heap.size w' r (pd (cz l))) := by
 obtain ⟨A, c, rfl, hl, hc, hA⟩ := hv
 have HA : Hid (HzAt 0 w A l) := Lib.hid hA; clear hA
 have HS := Lib.hid hs; clear hs
 go_enter Tryz.func43, Tryz.ntmps43
 go_wp2
 go_loopw [3, 4] (fun ov iv wr => ∃ (k : Nat), 1 ≤ k ∧ k ≤ max l.length 1 ∧ iv = .int .i64 k ∧ OwnZ w.heap.size 28 wr ov (lzf (k - 1) (pd (cz l))) ∧ Ext w wr) (fun _ iv _ => l.length - (intOf iv).toNat)
 case atStart => exact ⟨1, by omega, by omega, by simp, OwnR.nil _ _ _ _ _, Ext.refl _⟩
 case round =>
  obtain ⟨k, hk1, hk, rfl, hown, hx⟩ := hrel
  by_cases hkl : k < l.length
  ·obtain ⟨g, o, b, A1, n, c1, rfl, _, q0, q1, hq⟩ := HA.out.at_ (j := k) hkl
   replace q0 := hx.cell q0
   replace q1 := hx.cell q1
   have hval : (pd (cz l) (k - 1)).num = l[k] * (k : Int) := by
    unfold pd
    rw [show k - 1 + 1 = k from by omega, cz_lt hkl]
    show (((k : Nat) : Int) * ((l[k] : Int) : Rat) : Rat).num = _
    rw [num_mul, Int.mul_comm]
   have hqk := HS.out k
   rw [cz_lt hkl, qsz_cast] at hqk
   have Hq := Lib.hid (And.intro hq (And.intro hval hqk)); clear hq hval hqk
   have Hown := Lib.hid hown; clear hown
   have HK := Lib.hid (show sz ((k : Nat) : Int).natAbs ≤ 2 from by
    have := qsz_int (x := (k : Int)) (by omega) (by omega)
    rw [qsz_cast] at this; omega)
   go_wp2_with fail
   refine wp_region_par (k := 9) (D := [11, 12, 13, 14, 15, 16, 17, 18, 19]) (T := [[], [], [], [1, 2], [1, 2, 3], [], [5], [1, 2, 3, 4, 5, 6], [1, 2, 3, 4, 5, 6, 7], [0, 1, 2, 3, 4, 5, 6, 7, 8], [0, 1, 2, 3, 4, 5, 6, 7, 8, 9]]) (EK := [3, 0, 4]) (EV := [?e1x0, ?e1x1, ?e1x2]) (VL := [(kv ?v1x0), (kv ?v1x1), (kv ?v1x2), (kv ?v1x3), (kv ?v1x4), (kv ?v1x5), (fun γ => γ 6), (fun γ => γ 7), (fun γ => γ 8)]) (FL := fun γ w' => [True, True, True, True, True, True, IsZ w' (γ 6) (k : Int), IsZ w' (γ 7) (pd (cz l) (k - 1)).num, NewZ w' (γ 8) (wr.heap.size) ((pd (cz l) (k - 1)).num) 28]) ?hE1 (by kernel_rfl) (by kernel_rfl) (by rfl) (by kernel_rfl) ?hloc1 ?hmono1 ?hstep1 ?htail1
   case hE1 => refine ⟨?_, ?_, ?_, trivial⟩ <;> (simp only [List.getElem?_toArray, List.getElem?_cons_succ, List.getElem?_cons_zero]; rfl)
   case hstep1 =>
    refine ⟨⟨⟨⟨⟨⟨⟨⟨⟨trivial, ?_⟩, ?_⟩, ?_⟩, ?_⟩, ?_⟩, ?_⟩, ?_⟩, ?_⟩, ?_⟩
    ·intro γ w' he hf; clear hf; refine ⟨trivial, ?_⟩; intro R hR
     have hc := he.cells
     go_simp
     (try go_ints); (try (rw [if_neg (by omega)])); (try (rw [if_pos (by omega)])); (try go_simp); (try go_ints)
     refine hR _ _ (Ext.refl _) ?_ trivial
     rfl
    ·intro γ w' he hf; clear hf; refine ⟨trivial, ?_⟩; intro R hR
     have hc := he.cells
     go_simp
     (try go_ints); (try (rw [if_neg (by omega)])); (try (rw [if_pos (by omega)])); (try go_simp); (try go_ints)
     refine hR _ _ (Ext.refl _) ?_ trivial
     rfl
    ·intro γ w' he hf; clear hf; refine ⟨trivial, ?_⟩; intro R hR
     have hc := he.cells
     go_simp
     (try go_ints); (try (rw [if_neg (by omega)])); (try (rw [if_pos (by omega)])); (try go_simp); (try go_ints)
     refine hR _ _ (Ext.refl _) ?_ trivial
     rfl
    ·intro γ w' he hf; clear hf; refine ⟨trivial, ?_⟩; intro R hR
     have hc := he.cells
     go_simp
     (try go_ints); (try (rw [if_neg (by omega)])); (try (rw [if_pos (by omega)])); (try go_simp); (try go_ints)
     refine hR _ _ (Ext.refl _) ?_ trivial
     rfl
    ·intro γ w' he hf; clear hf; refine ⟨trivial, ?_⟩; intro R hR
     have hc := he.cells
     have cq0 := he.cell q0
     have cq1 := he.cell q1
     go_simp
     (try go_ints); (try (rw [if_neg (by omega)])); (try (rw [if_pos (by omega)])); (try go_simp); (try go_ints)
     refine hR _ _ (Ext.refl _) ?_ trivial
     rfl
    ·intro γ w' he hf; clear hf; refine ⟨trivial, ?_⟩; intro R hR
     have hc := he.cells
     go_simp
     (try go_ints); (try (rw [if_neg (by omega)])); (try (rw [if_pos (by omega)])); (try go_simp); (try go_ints)
     refine hR _ _ (Ext.refl _) ?_ trivial
     rfl
    ·intro γ w' he hf; clear hf; refine ⟨trivial, ?_⟩; intro R hR
     go_simp
     refine Calls.mono (show Calls _ _ _ w' (Gives w' fun r w'' => IsZ w'' (r) (k : Int)) from of_r (k : Int) w' (by omega) (by omega)) ?_
     rintro e w2 ⟨v, rfl, hv, hx⟩
     exact ⟨v, rfl, hR v w2 hx rfl hv⟩
    ·intro γ w' he hf; have f6 : IsZ w' (γ 6) (k : Int) := hf 6 (by decide); clear hf; refine ⟨trivial, ?_⟩; intro R hR
     go_simp
     refine Calls.mono (show Calls _ _ _ w' (Gives w' fun r w'' => IsZ w'' (r) (pd (cz l) (k - 1)).num) from Hq.out.2.1 ▸ mul_r _ _ _ _ w' (Hq.out.1.kd (hx.trans he).kd) (f6.has (by have := HK.out; omega)) (by have := Hq.out.2.2; omega) (by have := HK.out; omega)) ?_
     rintro e w2 ⟨v, rfl, hv, hx⟩
     exact ⟨v, rfl, hR v w2 hx rfl hv⟩
    ·intro γ w' he hf; have f6 : IsZ w' (γ 6) (k : Int) := hf 6 (by decide); have f7 : IsZ w' (γ 7) (pd (cz l) (k - 1)).num := hf 7 (by decide); clear hf; refine ⟨trivial, ?_⟩; intro R hR
     refine IsZ.el f7 fun b5 A5 n5 c5 e7 f7' => ?_
     clear f7
     go_simp
     exact hR _ _ ((Ext.refl _).alloc _) rfl (NewZ.mk f7' (Nat.le_trans (by simp) he.size) _)
   case hloc1 =>
    exact ⟨⟨⟨⟨⟨⟨⟨⟨⟨trivial, (fun γ γ' h => ⟨rfl, fun _ => rfl⟩)⟩, (fun γ γ' h => ⟨rfl, fun _ => rfl⟩)⟩, (fun γ γ' h => ⟨rfl, fun _ => rfl⟩)⟩, (fun γ γ' h => ⟨rfl, fun _ => rfl⟩)⟩, (fun γ γ' h => ⟨rfl, fun _ => rfl⟩)⟩, (fun γ γ' h => ⟨rfl, fun _ => rfl⟩)⟩, (fun γ γ' h => ⟨h 6 rfl, fun w' => (congrArg (fun a => IsZ w' (a) (k : Int)) (h 6 rfl))⟩)⟩, (fun γ γ' h => ⟨h 7 rfl, fun w' => (congrArg (fun a => IsZ w' (a) (pd (cz l) (k - 1)).num) (h 7 rfl))⟩)⟩, (fun γ γ' h => ⟨h 8 rfl, fun w' => (congrArg (fun a => NewZ w' (a) (wr.heap.size) ((pd (cz l) (k - 1)).num) 28) (h 8 rfl))⟩)⟩
   case hmono1 =>
    exact ⟨⟨⟨⟨⟨⟨⟨⟨⟨trivial, (fun γ wA w' e h => h)⟩, (fun γ wA w' e h => h)⟩, (fun γ wA w' e h => h)⟩, (fun γ wA w' e h => h)⟩, (fun γ wA w' e h => h)⟩, (fun γ wA w' e h => h)⟩, (fun γ wA w' e h => (show IsZ wA (γ 6) (k : Int) from h).ext e)⟩, (fun γ wA w' e h => (show IsZ wA (γ 7) (pd (cz l) (k - 1)).num from h).ext e)⟩, (fun γ wA w' e h => (show NewZ wA (γ 8) (wr.heap.size) ((pd (cz l) (k - 1)).num) 28 from h).ext e)⟩
   intro γ w1 hx1 hF
   have p6 : IsZ w1 (γ 6) (k : Int) := Each.get hF 6 (by decide)
   have p7 : IsZ w1 (γ 7) (pd (cz l) (k - 1)).num := Each.get hF 7 (by decide)
   have p8 : NewZ w1 (γ 8) (wr.heap.size) ((pd (cz l) (k - 1)).num) 28 := Each.get hF 8 (by decide)
   clear hF
   simp only [fillAll, gV, kv, List.getD_cons_zero, List.getD_cons_succ, Act.put, List.setIfInBounds_toArray, List.set_cons_zero, List.set_cons_succ, List.toList_toArray, List.drop_succ_cons, List.drop_zero, List.drop_nil, Nat.zero_add, Nat.reduceAdd]
   generalize γ 6 = g6 at *
   generalize γ 7 = g7 at *
   generalize γ 8 = g8 at *
   clear γ
   have hs := hx.size
   have hs1 := hx1.size
   refine wpList_append_run rfl _ _ 22 rfl u3 g8 rfl rfl (append_nz w1 _ _ w.heap.size _ _ _ _ (Hown.out.ext hx1) p8 (by rw [lzf_len]; omega) (by omega)) ?_
   rintro v' w2 ⟨hown, U⟩
   replace hx := (Hown.out.ext hx1).from_ U (hx.trans hx1) (Nat.le_refl _)
   have Hown' := Lib.hid hown; clear hown U p8 p7 p6
   go_wp2
   go_roundw
   case rel => exact ⟨k + 1, by omega, by omega, by go_num, by
    have := Hown'.out
    rw [← lzf_succ, show k - 1 + 1 = k + 1 - 1 from by omega] at this
    exact this, hx⟩
   case measure => simp [intOf] <;> omega
  ·skip
   have hh := lzf_hz' hown (fun i hi => (by have h1 := qsz_mul ((i + 1 : Nat) : Rat) (cz l (i + 1)); have h2 := HS.out (i + 1); have h3 := qsz_nat (n := i + 1) (by omega); show qsz (((i + 1 : Nat) : Rat) * cz l (i + 1)) ≤ _; omega))
   have hczl := cz_lzf (n := (k - 1)) (F := pd (cz l)) (pd_zi (ZI.cz l)) (fun i hi => by unfold pd; rw [cz_ge (by omega)]; exact Rat.mul_zero _)
   obtain ⟨A2, c2, e2⟩ := hh.len
   rw [lzf_len] at e2
   rw [e2] at hh
   clear hown
   subst e2
   have HH := Lib.hid (And.intro hh hczl); clear hh hczl
   go_wp2_with fail
   refine Calls.mono (normal_rz _ _ _ HH.out.1 (by rw [lzf_len]; omega)) ?_
   rintro e w9 ⟨r, rfl, hr, hx9⟩
   rw [HH.out.2] at hr
   have hsz := (hx).size
   have Hr := Lib.hid hr; clear hr
   go_wp2
   go_ret
   exact Gives.mk (Hr.out.base_le (by omega)) ((hx).trans hx9)
theorem append_zz (W : World) (v x : Value) (base b ty : Nat) (l : List Int) (q : Int) (h : OwnZ base 28 W v l) (hx : NewZ W x b q 28) (hn : l.length ≤ 1099511627776) (hb : base ≤ W.heap.size) :
  ∃ v' w', (Builtin.append_ #[23, 23] ty #[v, x]).run Tryz.prog W = .ok v' w' ∧ (OwnZ base 28 w' v' (l ++ [q]) ∧ Upd (blk v) W w') := by
 obtain ⟨g, cs, rfl, h1, h2, h3, h4⟩ := hx
 obtain ⟨i0, hi, hz0, hz1, hz2⟩ := info_parts info_int
 have ho := IsZ.one h4
 obtain ⟨v', w', a, b, c⟩ := OwnR.append (P := Tryz.prog) h 23 ty i0 _ 32 Tryz.underlying23 hi hz0 hz1 hz2 rfl (by simp [nodig, isDig, Value.cells]) (by decide) ⟨g, 0, none⟩ 1 cs h3 h4 h2.news ho.1 ho.2.1 (small_lenz hn) (by omega) hb (fun _ _ _ k hq => IsZ.kd hq k)
 exact ⟨v', w', a, b, c⟩
set_option maxRecDepth 20000 in
set_option maxHeartbeats 1000000 in
theorem zderivative_p (v : Value) (l : List Int) (w : World) (hv : HzV 0 w v l) (hn : l.length ≤ 1099511627776) :
  Calls Tryz.prog 42 #[v] w (Gives w fun r w' => IsZP w.heap.size w' r (pd (cz l))) := by
 obtain ⟨A, c, rfl, hl, hc, hA⟩ := hv
 have HA : Hid (HzAt 0 w A l) := Lib.hid hA; clear hA
 go_enter Tryz.func42, Tryz.ntmps42
 go_wp2
 go_loopw [3, 4] (fun ov iv wr => ∃ (k : Nat), 1 ≤ k ∧ k ≤ max l.length 1 ∧ iv = .int .i64 k ∧ OwnZ w.heap.size 28 wr ov (lzf (k - 1) (pd (cz l))) ∧ Ext w wr) (fun _ iv _ => l.length - (intOf iv).toNat)
 case atStart => exact ⟨1, by omega, by omega, by simp, OwnR.nil _ _ _ _ _, Ext.refl _⟩
 case round =>
  obtain ⟨k, hk1, hk, rfl, hown, hx⟩ := hrel
  by_cases hkl : k < l.length
  ·obtain ⟨g, o, b, A1, n, c1, rfl, _, q0, q1, hq⟩ := HA.out.at_ (j := k) hkl
   replace q0 := hx.cell q0
   replace q1 := hx.cell q1
   have hval : (pd (cz l) (k - 1)).num = (k : Int) * l[k] := by
    unfold pd
    rw [show k - 1 + 1 = k from by omega, cz_lt hkl]
    show (((k : Nat) : Int) * ((l[k] : Int) : Rat) : Rat).num = _
    rw [num_mul]
   have Hq := Lib.hid (And.intro hq hval); clear hq hval
   have Hown := Lib.hid hown; clear hown
   have HK := Lib.hid (show sz ((k : Nat) : Int).natAbs ≤ 2 from by
    have := qsz_int (x := (k : Int)) (by omega) (by omega)
    rw [qsz_cast] at this; omega)
   go_wp2_with fail
   refine wp_region_par (k := 9) (D := [11, 12, 13, 14, 15, 16, 17, 18, 19]) (T := [[], [], [1], [], [], [3, 4], [3, 4, 5], [1, 2, 3, 4, 5, 6], [1, 2, 3, 4, 5, 6, 7], [0, 1, 2, 3, 4, 5, 6, 7, 8], [0, 1, 2, 3, 4, 5, 6, 7, 8, 9]]) (EK := [3, 4, 0]) (EV := [?e3x0, ?e3x1, ?e3x2]) (VL := [(kv ?v3x0), (kv ?v3x1), (fun γ => γ 2), (kv ?v3x3), (kv ?v3x4), (kv ?v3x5), (kv ?v3x6), (fun γ => γ 7), (fun γ => γ 8)]) (FL := fun γ w' => [True, True, IsZ w' (γ 2) (k : Int), True, True, True, True, IsZ w' (γ 7) (pd (cz l) (k - 1)).num, NewZ w' (γ 8) (wr.heap.size) ((pd (cz l) (k - 1)).num) 28]) ?hE3 (by kernel_rfl) (by kernel_rfl) (by rfl) (by kernel_rfl) ?hloc3 ?hmono3 ?hstep3 ?htail3
   case hE3 => refine ⟨?_, ?_, ?_, trivial⟩ <;> (simp only [List.getElem?_toArray, List.getElem?_cons_succ, List.getElem?_cons_zero]; rfl)
   case hstep3 =>
    refine ⟨⟨⟨⟨⟨⟨⟨⟨⟨trivial, ?_⟩, ?_⟩, ?_⟩, ?_⟩, ?_⟩, ?_⟩, ?_⟩, ?_⟩, ?_⟩
    ·intro γ w' he hf; clear hf; refine ⟨trivial, ?_⟩; intro R hR
     have hc := he.cells
     go_simp
     (try go_ints); (try (rw [if_neg (by omega)])); (try (rw [if_pos (by omega)])); (try go_simp); (try go_ints)
     refine hR _ _ (Ext.refl _) ?_ trivial
     rfl
    ·intro γ w' he hf; clear hf; refine ⟨trivial, ?_⟩; intro R hR
     have hc := he.cells
     go_simp
     (try go_ints); (try (rw [if_neg (by omega)])); (try (rw [if_pos (by omega)])); (try go_simp); (try go_ints)
     refine hR _ _ (Ext.refl _) ?_ trivial
     rfl
    ·intro γ w' he hf; clear hf; refine ⟨trivial, ?_⟩; intro R hR
     go_simp
     refine Calls.mono (show Calls _ _ _ w' (Gives w' fun r w'' => IsZ w'' (r) (k : Int)) from of_z (k : Int) w' (by omega) (by omega)) ?_
     rintro e w2 ⟨v, rfl, hv, hx⟩
     exact ⟨v, rfl, hR v w2 hx rfl hv⟩
    ·intro γ w' he hf; clear hf; refine ⟨trivial, ?_⟩; intro R hR
     have hc := he.cells
     go_simp
     (try go_ints); (try (rw [if_neg (by omega)])); (try (rw [if_pos (by omega)])); (try go_simp); (try go_ints)
     refine hR _ _ (Ext.refl _) ?_ trivial
     rfl
    ·intro γ w' he hf; clear hf; refine ⟨trivial, ?_⟩; intro R hR
     have hc := he.cells
     go_simp
     (try go_ints); (try (rw [if_neg (by omega)])); (try (rw [if_pos (by omega)])); (try go_simp); (try go_ints)
     refine hR _ _ (Ext.refl _) ?_ trivial
     rfl
    ·intro γ w' he hf; clear hf; refine ⟨trivial, ?_⟩; intro R hR
     have hc := he.cells
     go_simp
     (try go_ints); (try (rw [if_neg (by omega)])); (try (rw [if_pos (by omega)])); (try go_simp); (try go_ints)
     refine hR _ _ (Ext.refl _) ?_ trivial
     rfl
    ·intro γ w' he hf; clear hf; refine ⟨trivial, ?_⟩; intro R hR
     have hc := he.cells
     have cq0 := he.cell q0
     have cq1 := he.cell q1
     go_simp
     (try go_ints); (try (rw [if_neg (by omega)])); (try (rw [if_pos (by omega)])); (try go_simp); (try go_ints)
     refine hR _ _ (Ext.refl _) ?_ trivial
     rfl
    ·intro γ w' he hf; have f2 : IsZ w' (γ 2) (k : Int) := hf 2 (by decide); clear hf; refine ⟨trivial, ?_⟩; intro R hR
     go_simp
     refine Calls.mono (show Calls _ _ _ w' (Gives w' fun r w'' => IsZ w'' (r) (pd (cz l) (k - 1)).num) from Hq.out.2 ▸ mul_z _ _ _ _ w' (f2.has (by have := HK.out; omega)) (Hq.out.1.kd (hx.trans he).kd)) ?_
     rintro e w2 ⟨v, rfl, hv, hx⟩
     exact ⟨v, rfl, hR v w2 hx rfl hv⟩
    ·intro γ w' he hf; have f2 : IsZ w' (γ 2) (k : Int) := hf 2 (by decide); have f7 : IsZ w' (γ 7) (pd (cz l) (k - 1)).num := hf 7 (by decide); clear hf; refine ⟨trivial, ?_⟩; intro R hR
     refine IsZ.el f7 fun b5 A5 n5 c5 e7 f7' => ?_
     clear f7
     go_simp
     exact hR _ _ ((Ext.refl _).alloc _) rfl (NewZ.mk f7' (Nat.le_trans (by simp) he.size) _)
   case hloc3 =>
    exact ⟨⟨⟨⟨⟨⟨⟨⟨⟨trivial, (fun γ γ' h => ⟨rfl, fun _ => rfl⟩)⟩, (fun γ γ' h => ⟨rfl, fun _ => rfl⟩)⟩, (fun γ γ' h => ⟨h 2 rfl, fun w' => (congrArg (fun a => IsZ w' (a) (k : Int)) (h 2 rfl))⟩)⟩, (fun γ γ' h => ⟨rfl, fun _ => rfl⟩)⟩, (fun γ γ' h => ⟨rfl, fun _ => rfl⟩)⟩, (fun γ γ' h => ⟨rfl, fun _ => rfl⟩)⟩, (fun γ γ' h => ⟨rfl, fun _ => rfl⟩)⟩, (fun γ γ' h => ⟨h 7 rfl, fun w' => (congrArg (fun a => IsZ w' (a) (pd (cz l) (k - 1)).num) (h 7 rfl))⟩)⟩, (fun γ γ' h => ⟨h 8 rfl, fun w' => (congrArg (fun a => NewZ w' (a) (wr.heap.size) ((pd (cz l) (k - 1)).num) 28) (h 8 rfl))⟩)⟩
   case hmono3 =>
    exact ⟨⟨⟨⟨⟨⟨⟨⟨⟨trivial, (fun γ wA w' e h => h)⟩, (fun γ wA w' e h => h)⟩, (fun γ wA w' e h => (show IsZ wA (γ 2) (k : Int) from h).ext e)⟩, (fun γ wA w' e h => h)⟩, (fun γ wA w' e h => h)⟩, (fun γ wA w' e h => h)⟩, (fun γ wA w' e h => h)⟩, (fun γ wA w' e h => (show IsZ wA (γ 7) (pd (cz l) (k - 1)).num from h).ext e)⟩, (fun γ wA w' e h => (show NewZ wA (γ 8) (wr.heap.size) ((pd (cz l) (k - 1)).num) 28 from h).ext e)⟩
   intro γ w1 hx1 hF
   have p2 : IsZ w1 (γ 2) (k : Int) := Each.get hF 2 (by decide)
   have p7 : IsZ w1 (γ 7) (pd (cz l) (k - 1)).num := Each.get hF 7 (by decide)
   have p8 : NewZ w1 (γ 8) (wr.heap.size) ((pd (cz l) (k - 1)).num) 28 := Each.get hF 8 (by decide)
   clear hF
   simp only [fillAll, gV, kv, List.getD_cons_zero, List.getD_cons_succ, Act.put, List.setIfInBounds_toArray, List.set_cons_zero, List.set_cons_succ, List.toList_toArray, List.drop_succ_cons, List.drop_zero, List.drop_nil, Nat.zero_add, Nat.reduceAdd]
   generalize γ 2 = g2 at *
   generalize γ 7 = g7 at *
   generalize γ 8 = g8 at *
   clear γ
   have hs := hx.size
   have hs1 := hx1.size
   refine wpList_append_run rfl _ _ 23 rfl u3 g8 rfl rfl (append_zz w1 _ _ w.heap.size _ _ _ _ (Hown.out.ext hx1) p8 (by rw [lzf_len]; omega) (by omega)) ?_
   rintro v' w2 ⟨hown, U⟩
   replace hx := (Hown.out.ext hx1).from_ U (hx.trans hx1) (Nat.le_refl _)
   have Hown' := Lib.hid hown; clear hown U p8 p7 p2
   go_wp2
   go_roundw
   case rel => exact ⟨k + 1, by omega, by omega, by go_num, by
    have := Hown'.out
    rw [← lzf_succ, show k - 1 + 1 = k + 1 - 1 from by omega] at this
    exact this, hx⟩
   case measure => simp [intOf]; omega
  ·have hz : Sup (k - 1) (pd (cz l)) := fun i hi => by unfold pd; rw [cz_ge (by omega)]; exact Rat.mul_zero _
   have hco := cz_lzf (pd_zi (ZI.cz l)) hz
   obtain ⟨A2, c2, h1, h2, h3, h4⟩ := hown.row
   rw [lzf_len] at h1 h2
   have hT := trimmed_zs w.heap.size A2 c2 _ wr (by rw [lzf_len]; exact h2) h3 h4
   rw [lzf_len, ← h1] at hT
   have Hrow := Lib.hid (And.intro h4 (And.intro hco (And.intro h2 h3)))
   clear h1 h2 h3 h4 hco hz hown
   go_wp2_with fail
   refine Calls.mono hT ?_
   rintro e w2 ⟨rfl, rfl⟩
   go_wp2
   go_ret
   exact Gives.mk (IsZP.of_trim (ZsV.trim Hrow.out.1 (by rw [lzf_len]; exact Hrow.out.2.2.1) Hrow.out.2.2.2) Hrow.out.2.1) hx
end Go.Proofs.YtfacbpnegkjcgaaGreatDoor
namespace Go.Hp
open Go.RowKit
end Go.Hp
namespace Go.Proofs.YtfacbpnegkjcgaaGreatDoor
open Go.RowKit Go.Hp
end Go.Proofs.YtfacbpnegkjcgaaGreatDoor
namespace Go.Hp
open Go.RowKit
theorem Rows_.fresh {base : Nat} {t t' : TypeId} {w w' : World} {v u : Value} {us : List Value} {ls : List (List Rat)} {l : List Rat} (h : Rows_ base t t' w v us ls) (hu : OwnQ w.heap.size t' w' u l) : ∀ i (h : i < us.length), ∀ g ∈ blk us[i], g ∉ blk u := by
 intro i hi g hg hu'
 have h1 := (OwnR.blk_ge (h.row i hi (by have := h.len; omega)) g hg).2
 have h2 := (OwnR.blk_ge hu g hu').1
 omega
theorem OwnQ.lower {base base' : Nat} {e : TypeId} {w : World} {v : Value} {l : List Rat} (h : OwnQ base e w v l) (hb : base' ≤ base) : OwnQ base' e w v l := by
 obtain ⟨ess, h1, h2, ⟨h3, h4⟩, h5⟩ := h
 refine ⟨ess, h1, h2, ⟨h3, ?_⟩, h5⟩
 rcases h4 with h4 | ⟨g, cap, cur, a, b, c⟩
 ·exact .inl h4
 ·exact .inr ⟨g, cap, cur, a, by omega, c⟩
/-- The elements of a row of fractions, cell by cell. -/
theorem QsV.news {base n d : Nat} {w : World} {E : Option Addr} {l : List Rat} (h : QsV base w (.slice E n d) l) (h0 : 0 < l.length) :
  ∃ a : Addr, E = some a ∧ ∃ ess : List (Array Value), ess.length = l.length ∧ (∀ c ∈ ess, c.size = 4) ∧ (∀ j u, (ess.flatMap Array.toList)[j]? = some u → w.cell? (a.add j) = some u) ∧ (∀ u ∈ ess.flatMap Array.toList, u.oneCell' = true ∧ isDig u = false) ∧ ∀ j (hj : j < l.length) (h' : j < ess.length), IsQ w (.agg ess[j]) l[j] := by
 obtain ⟨A, c, e, _, _, hA⟩ := h
 injection e with e1 e2 e3
 subst e1
 obtain ⟨g, o, rfl, _, hc⟩ := hA h0
 obtain ⟨f, hf⟩ : ∃ f : Nat → Array Value, ∀ j (hj : j < l.length), (f j).size = 4 ∧ (∀ i, i < 4 → w.cell? ⟨g, o + j * 4 + i, none⟩ = (f j)[i]?) ∧ IsQ w (.agg (f j)) l[j] :=
  ⟨fun j => if hj : j < l.length then Classical.choose (hc j hj) else #[], fun j hj => by dsimp only; rw [dif_pos hj]; exact Classical.choose_spec (hc j hj)⟩
 have hsz : ∀ c ∈ (List.range l.length).map f, c.size = 4 := fun c hc' => by
  obtain ⟨j, hj, rfl⟩ := List.mem_map.1 hc'
  exact (hf j (List.mem_range.1 hj)).1
 refine ⟨_, rfl, (List.range l.length).map f, by simp, hsz, fun j u hj => ?_, fun u hu => ?_, fun j hj h' => by simpa using (hf j hj).2.2⟩
 ·have hlt : j < (((List.range l.length).map f).flatMap Array.toList).length := by
   rcases Nat.lt_or_ge j (((List.range l.length).map f).flatMap Array.toList).length with q | q
   ·exact q
   ·rw [List.getElem?_eq_none q] at hj; cases hj
  rw [flat_len hsz] at hlt
  simp only [List.length_map, List.length_range] at hlt
  have hg := flat_get hsz (j := j / 4) (i := j % 4) (by simp; omega) (by omega)
  rw [show j / 4 * 4 + j % 4 = j by omega, hj] at hg
  have ea : (⟨g, o, none⟩ : Addr).add j = ⟨g, o + j, none⟩ := by unfold Addr.add; split <;> simp_all
  rw [ea, show o + j = o + (j / 4) * 4 + j % 4 by omega, (hf (j / 4) (by omega)).2.1 _ (by omega)]
  simpa using hg.symm
 ·obtain ⟨c, hc', hu'⟩ := List.mem_flatMap.1 hu
  obtain ⟨j, hj, rfl⟩ := List.mem_map.1 hc'
  have ho := IsQ.one (hf j (List.mem_range.1 hj)).2.2
  exact ⟨ho.1 u hu', all_list.1 ho.2.1 u hu'⟩
end Go.Hp
namespace Go.Proofs.YtfacbpnegkjcgaaGreatDoor
open Go.RowKit Go.Hp
theorem info_ratrow : (Tryz.prog.info? 95).map (fun i => (i.zero, i.size, i.bytes)) = some (some (.slice none 0 0), 1, 24) := by kernel_rfl
theorem append_rows (W : World) (base ty g : Nat) (v u : Value) (us : List Value) (ls : List (List Rat)) (l : List Rat) (h : Rows_ base 95 61 W v us ls) (hu : OwnQ base 61 W u l) (hf : ∀ i (h : i < us.length), ∀ g ∈ blk us[i], g ∉ blk u) (hn : us.length ≤ 1099511627776) (hb : base ≤ W.heap.size) (hg : g = W.heap.size) :
  ∃ v' w', (Builtin.append_ #[94, 94] ty #[v, .slice (some ⟨g, 0, none⟩) 1 1]).run Tryz.prog (W.alloc (.cells #[u] 95)) = .ok v' w' ∧ (Rows_ base 95 61 w' v' (us ++ [u]) (ls ++ [l]) ∧ Upd (blk v) (W.alloc (.cells #[u] 95)) w') := by
 subst hg
 obtain ⟨i0, hi, hz0, hz1, hz2⟩ := info_parts info_ratrow
 obtain ⟨v', w', a, b, U⟩ := Rows_.append (P := Tryz.prog) h hu (by decide) hf 94 ty i0 _ 24 Tryz.underlying94 hi hz0 hz1 hz2 rfl (by simp [nodig, isDig, Value.cells]) (small_len hn) (by omega) hb
 exact ⟨v', w', a, b, U⟩
set_option maxRecDepth 4000 in
theorem append_copy (W : World) (base ty n d : Nat) (a1 : Addr) (E : Option Addr) (l : List Rat) (h : QsV base W (.slice E n d) l) (hn : n = l.length) (h0 : 0 < l.length) (hl : l.length ≤ 1099511627776) :
  ∃ v' w', (Builtin.append_ #[95, 95] ty #[.slice (some a1) 0 0, .slice E n d]).run Tryz.prog W = .ok v' w' ∧ (OwnQ W.heap.size 61 w' v' l ∧ Ext W w') := by
 subst hn
 obtain ⟨a, rfl, ess, h1, h2, h3, h4, h5⟩ := h.news h0
 obtain ⟨i0, hi, hz0, hz1, hz2⟩ := info_parts info_rat
 have hlen := flat_len h2
 have hs : i0.size = 4 := hz1
 have hr := run_append_grow (P := Tryz.prog) W 95 ty 61 i0 _ Tryz.underlying95 hi hz0 a1 0 0 [] (by simp) (by simp) a l.length d (ess.flatMap Array.toList) (by rw [hlen, h1, hs]) h3 (by omega) (by omega) (growslice_fits (by omega) (by rw [hz2]; omega))
 simp only [Nat.zero_add, Array.empty_append] at hr
 refine ⟨_, _, hr, ?_, (Ext.refl W).drew.alloc _⟩
 have hge := grownCap_ge W l.length 0 61
 have hm : l.length ≤ maxLen := by simp only [maxLen]; omega
 have hcm := grownCap_le_maxLen W l.length 0 61 hm
 refine ⟨ess, h1, h2, ⟨by rw [hlen, h1], .inr ⟨W.heap.size, _, _, rfl, Nat.le_refl _, ⟨heap_alloc_new W.drew _, ?_⟩, hge, hcm, ?_, ?_⟩⟩, fun j a b => (h5 j a b).ext ((Ext.refl W).drew.alloc _)⟩
 ·rw [all_list]
  intro u hu
  simp only [Array.toList_append, List.mem_append] at hu
  rcases hu with hu | hu
  ·exact (h4 u (by simpa using hu)).2
  ·simp only [Builtin.zeroCells, Array.toList_map, Array.toList_range, List.mem_map, List.mem_range] at hu
   obtain ⟨j, hj, rfl⟩ := hu
   have hzl : nodig (Value.agg #[.bool false, .slice none 0 0, .bool false, .slice none 0 0]).cells = true := by simp [nodig, isDig, Value.cells]
   have : j % (Value.agg #[.bool false, .slice none 0 0, .bool false, .slice none 0 0]).cells.size < (Value.agg #[.bool false, .slice none 0 0, .bool false, .slice none 0 0]).cells.size := Nat.mod_lt _ (by decide)
   rw [getElem!_pos (Value.agg #[.bool false, .slice none 0 0, .bool false, .slice none 0 0]).cells _ this]
   exact all_list.1 hzl _ (by simp)
 ·have hzs : (Value.agg #[.bool false, .slice none 0 0, .bool false, .slice none 0 0]).cells.size = 4 := rfl
  simp only [Array.size_append, List.size_toArray, size_zeroCells, hzs, hlen, h1]
  rw [← Nat.add_mul]
  congr 1
  omega
 ·simp only [Array.toList_append]
  rw [← h1, ← hlen]
  exact List.take_left
theorem at_negg (v : Value) (l : List Int) (k : Int) (w : World) (hv : HzV 0 w v l) (hk : k < 0) : Calls Tryz.prog 88 #[v, .int .i64 k] w (Gives w fun r w' => IsZ w' r 0) := by
 obtain ⟨A, c, rfl, hl, hc, hA⟩ := hv
 clear hA
 have hk' : ¬ 0 ≤ k := by omega
 go_enter Tryz.func88, Tryz.ntmps88
 go_wp2_with fail
 refine Calls.mono (of_r 0 _ (by omega) (by omega)) ?_
 rintro e w1 ⟨r, rfl, hr, hx1⟩
 obtain ⟨b5, A5, n5, c5, rfl⟩ := hr.cells
 have hc1 := hx1.cells
 have hf1 := hx1.frozens
 have Hfin := Lib.hid (fin_z hr hx1.a1 (NoDig.at_ hx1 (g := w.heap.size + 0) (by simp) (by simp [isDig])) (by omega))
 clear hr
 go_wp2
 refine bodyPost_ret (v := .agg #[.bool b5, .slice A5 n5 c5]) (by simp [results, Tryz.results88, go_sem, hc1]) rfl ?_
 exact Hfin.out
/-- A row of Sylvester's matrix. -/
def sylr (m : Nat) (F : Nat → Rat) (i k : Nat) : Rat := if k ≤ m + i then F (m + i - k) else 0
set_option maxRecDepth 20000 in
set_option maxHeartbeats 4000000 in
theorem row_r (v : Value) (l : List Int) (m i n : Nat) (w : World) (hv : HzV 0 w v l) (hs : ∀ i, qsz (cz l i) ≤ 274877906944) (hm : m ≤ 1000000) (hi : i ≤ 1000000) (hn : n ≤ 1000000) :
  Calls Tryz.prog 80 #[v, .int .i64 (m : Nat), .int .i64 (i : Nat), .int .i64 (n : Nat)] w (Gives w fun r w' => OwnQ w.heap.size 61 w' r ((List.range n).map (sylr m (cz l) i))) := by
 have HV := Lib.hid hv
 obtain ⟨A, c, rfl⟩ := hv.len
 clear hv
 have HS := Lib.hid hs; clear hs
 obtain ⟨F, hF⟩ : ∃ F, F = cz l := ⟨_, rfl⟩
 have hA : ∀ W (x : Ext w W) k, (k < n → Calls Tryz.prog 88 #[.slice A l.length c, .int .i64 ((m : Int) - ((k : Int) - i))] W (Gives W fun r w' => HasZ w' r (sylr m (cz l) i k).num)) := fun W x k hk => by
  unfold sylr
  by_cases h : k ≤ m + i
  ·rw [if_pos h, show (m : Int) - ((k : Int) - i) = ((m + i - k : Nat) : Int) by omega]
   exact Gives.imp (at_rz _ l (m + i - k) W (HV.out.ext x) (by omega)) fun _ _ h => h.has (by have := HS.out (m + i - k); have := qz_num this; omega)
  ·rw [if_neg h]
   exact Gives.imp (at_negg _ l _ W (HV.out.ext x) (by omega)) fun _ _ h => h.has (by decide)
 have hz : ∀ k, ((sylr m (cz l) i k).num : Rat) = sylr m (cz l) i k := fun k => by
  unfold sylr
  split
  ·exact ((ZI.cz l).num _).symm
  ·rfl
 have HA := Lib.hid (And.intro hA hz); clear hA hz HV HS hF
 go_enter Tryz.func80, Tryz.ntmps80
 go_wp2
 go_loopw [9, 10] (fun ov iv wr => ∃ (k : Nat), k ≤ n ∧ iv = .int .i64 k ∧ OwnQ w.heap.size 61 wr ov ((List.range k).map (sylr m (cz l) i)) ∧ Ext w wr) (fun _ iv _ => n - (intOf iv).toNat)
 case atStart => exact ⟨0, Nat.zero_le _, rfl, OwnR.nil _ _ _ _ _, Ext.refl _⟩
 case round =>
  obtain ⟨k, hk, rfl, hown, hx⟩ := hrel
  by_cases hkn : k < n
  ·have Hown0 := Lib.hid hown; clear hown
   go_wp2_with fail
   refine Calls.mono (HA.out.1 _ hx k hkn) ?_
   rintro e w2 ⟨r2, rfl, hr2, hx2⟩
   replace hx := hx.trans hx2
   go_wp2_with fail
   refine Calls.mono (whole_rq _ _ _ hr2) ?_
   rintro e w3 ⟨r3, rfl, hr3, hx3⟩
   rw [HA.out.2 k] at hr3
   obtain ⟨b5, A5, n5, c5, b6, A6, n6, c6, rfl⟩ := hr3.cells
   have Hr := Lib.hid hr3; clear hr3 hr2
   have Hown := Lib.hid (Hown0.out.ext (hx2.trans hx3)); clear Hown0
   replace hx := hx.trans hx3
   clear hx2 hx3
   have hsz := hx.size
   go_wp2_with (at_builtin; refine wpList_append_run rfl _ _ 95 rfl u9 (.slice (some ⟨w3.heap.size, 0, none⟩) 1 1) rfl rfl (append_rq w3 w.heap.size _ _ _ _ _ Hown.out Hr.out (by first | (rw [List.length_map, List.length_range]; omega) | omega) hsz rfl) ?_)
   first | intro v' w5 hown U | rintro v' w5 ⟨hown, U⟩
   replace hx := (Hown.out.ext ((Ext.refl w3).alloc _)).from_ U (hx.alloc _) (Nat.le_refl _)
   have Hown' := Lib.hid hown; clear hown U
   go_wp2
   go_roundw
   case rel => exact ⟨k + 1, by omega, by go_num, by rw [range_succ_map]; exact Hown'.out, hx⟩
   case measure => simp [intOf] <;> omega
  ·obtain rfl : k = n := by omega
   obtain ⟨A2, c2, rfl⟩ := OwnR.len hown
   have Hown := Lib.hid hown; clear hown
   go_wp2
   go_ret
   exact Gives.mk Hown.out hx
end Go.Proofs.YtfacbpnegkjcgaaGreatDoor
namespace Go.Proofs.YtfacbpnegkjcgaaGreatDoor
open Go.RowKit Go.Hp
def RL (n : Nat) (M : Nat → Nat → Rat) (k : Nat) : List (List Rat) := (List.range k).map fun i => (List.range n).map (M i)
theorem RL_len (n : Nat) (M : Nat → Nat → Rat) (k : Nat) : (RL n M k).length = k := by simp [RL]
theorem RL_succ (n : Nat) (M : Nat → Nat → Rat) (k : Nat) : RL n M (k + 1) = RL n M k ++ [(List.range n).map (M k)] := range_succ_map _ k
theorem RL_get (n : Nat) (M : Nat → Nat → Rat) (k i : Nat) (h : i < (RL n M k).length) : (RL n M k)[i] = (List.range n).map (M i) := by simp [RL]
theorem elimTo_qsz {n c i S : Nat} {M : Nat → Nat → Rat} (hs : ∀ r k, r < n → k < n → qsz (M r k) + 1 ≤ S) (hc : c < n) : ∀ r k, r < n → k < n → qsz (elimTo c i M r k) + 1 ≤ 4 * S := fun r k hr hk => by
 have a1 := hs r k hr hk
 have a2 := hs r c hr hc
 have a3 := hs c c hc hc
 have a4 := hs c k hc hk
 have a5 := elim_qsz (s := S - 1) (x := M r k) (y := M r c) (z := M c c) (u := M c k) (by omega) (by omega) (by omega) (by omega)
 unfold elimTo
 split <;> omega
set_option maxRecDepth 20000 in
set_option maxHeartbeats 8000000 in
theorem determinant_r (v : Value) (us : List Value) (n : Nat) (M : Nat → Nat → Rat) (S : Nat) (w : World) (hv : Rows_ 0 95 61 w v us (RL n M n)) (hs : ∀ i j, i < n → j < n → qsz (M i j) ≤ S) (hb : n ≤ 1000) (hS : (S + 1) * 4 ^ (n + 1) ≤ 68719476736) :
    Calls Tryz.prog 81 #[v] w (Gives w fun r w' => IsQ w' r (det n M)) := by
  have HV := Lib.hid hv
  obtain ⟨A, c, rfl⟩ := hv.shape
  rw [RL_len] at HV ⊢
  clear hv
  obtain ⟨D, hD⟩ : ∃ D, D = det n M := ⟨_, rfl⟩
  rw [← hD]
  have HD := Lib.hid hD; clear hD
  go_enter Tryz.func81, Tryz.ntmps81
  have ez := Box.new w 61 #[.bool false, .slice none 0 0, .bool false, .slice none 0 0] (by simp [isDig])
  have hx := (Ext.refl w).alloc (.cells #[.bool false, .slice none 0 0, .bool false, .slice none 0 0] 61)
  have hsz : w.heap.size + 1 ≤ (w.alloc (.cells #[.bool false, .slice none 0 0, .bool false, .slice none 0 0] 61)).heap.size := by rw [World.size_alloc]; exact Nat.le_refl _
  go_wp2
  generalize w.alloc (.cells #[.bool false, .slice none 0 0, .bool false, .slice none 0 0] 61) = w0 at *
  go_loopw [3, 4] (fun ov iv wr => ∃ (k : Nat) (us' : List Value), k ≤ n ∧ iv = .int .i64 k ∧ Rows_ (w.heap.size + 1) 95 61 wr ov us' (RL n M k) ∧ Box wr w.heap.size 61 #[.bool false, .slice none 0 0, .bool false, .slice none 0 0] ∧ Ext w wr ∧ w.heap.size + 1 ≤ wr.heap.size) (fun _ iv _ => n - (intOf iv).toNat)
  case atStart => exact ⟨0, [], Nat.zero_le _, rfl, Rows_.nil _ _ _ _, ez, hx, by omega⟩
  case round =>
    clear ez hx hsz
    obtain ⟨k, us', hk, rfl, hown, ez, hx, hsz⟩ := hrel
    by_cases hkn : k < n
    · obtain ⟨g, E, d, rfl, q0, hq⟩ := HV.out.at_ (i := k) (by rw [RL_len]; exact hkn)
      rw [RL_get, List.length_map, List.length_range] at q0
      rw [RL_get] at hq
      rw [List.length_map, List.length_range] at hq
      replace q0 := (hx.alloc (.cells #[] 61)).cell q0
      have Hq := Lib.hid (hq.ext (hx.alloc (.cells #[] 61))); clear hq
      have Hown := Lib.hid hown; clear hown
      go_wp2_with (at_builtin; refine wpList_append_run rfl _ _ 95 rfl (.slice (some ⟨wr.heap.size, 0, none⟩) 0 0) (.slice E n d) rfl rfl (append_copy (wr.alloc (.cells #[] 61)) 0 _ n d _ E _ Hq.out (by simp) (by simp; omega) (by simp; omega)) ?_)
      first | intro v' w5 hown U | rintro v' w5 ⟨hown, U⟩
      obtain ⟨A9, c9, e9⟩ := OwnR.len hown
      rw [List.length_map, List.length_range] at e9
      subst e9
      have hown0 := Hown.out
      replace hx := (hx.alloc (.cells #[] 61)).trans U
      have hxo := ((Ext.refl wr).alloc (.cells #[] 61)).trans U
      replace ez := ez.ext hxo
      have hf : ∀ i (h : i < us'.length), ∀ g ∈ blk us'[i], g ∉ blk (.slice A9 n c9) := hown0.fresh (hown.lower (by first | omega | (simp; omega)))
      have Hown' := Lib.hid (hown0.ext hxo)
      have hu := hown.lower (base' := w.heap.size + 1) (by first | omega | (simp; omega))
      have hlen : us'.length ≤ 1099511627776 := by rw [hown0.len, RL_len]; omega
      have hs5 := hxo.size
      have Hu := Lib.hid (And.intro hu (And.intro hf hlen))
      clear hown U hown0 hf hu hlen q0 Hown
      go_wp2_with (at_builtin; refine wpList_append_run rfl _ _ 94 rfl u3 (.slice (some ⟨w5.heap.size, 0, none⟩) 1 1) rfl rfl (append_rows w5 (w.heap.size + 1) _ _ _ (.slice A9 n c9) us' _ _ Hown'.out Hu.out.1 Hu.out.2.1 Hu.out.2.2 (by omega) rfl) ?_)
      first | intro v2 w6 hown U | rintro v2 w6 ⟨hown, U⟩
      have hx5 := hx.size
      have xa := (Ext.refl w5).alloc (.cells #[.slice A9 n c9] 95)
      have hbl : ∀ g ∈ blk u3, w.heap.size + 1 ≤ g := fun g hg => (OwnR.blk_ge Hown'.out.out g hg).1
      replace ez := (ez.ext xa).upd U (fun hg => by have := hbl _ hg; omega)
      replace hx := U.from_ (hx.trans xa) (fun g hg => by have := hbl g hg; omega)
      have hs6 : w.heap.size + 1 ≤ w6.heap.size := Nat.lt_of_lt_of_le ez.lt (Nat.le_refl _)
      rw [← RL_succ] at hown
      have Hown := Lib.hid hown; clear hown U hbl xa Hown' Hu
      go_wp2
      go_roundw
      case rel => exact ⟨k + 1, _, by omega, by go_num, Hown.out, ez, hx, hs6⟩
      case measure => simp [intOf] <;> omega
    · obtain rfl : n = k := by omega
      by_cases h0 : n = 0
      · obtain ⟨A2, c2, rfl⟩ := hown.shape
        rw [RL_len]
        have H0 := Lib.hid h0
        go_wp2_with fail
        refine Calls.mono (of_rq 1 _ (by omega) (by omega)) ?_
        rintro e w2 ⟨r2, rfl, hr2, hx2⟩
        obtain ⟨b5, A5, n5, c5, b6, A6, n6, c6, rfl⟩ := hr2.cells
        obtain ⟨W3, eW3, eb, x3⟩ := Box.made w2 61 #[.bool b5, .slice A5 n5 c5, .bool b6, .slice A6 n6 c6] (by simp [isDig])
        have eb0 := BoxQ.mk eb (hr2.ext x3)
        replace ez := ez.ext (hx2.trans x3)
        replace hx := hx.trans (hx2.trans x3)
        clear eb hr2 hown hsz
        go_wp2
        rw [← eW3]
        clear eW3 hx2 x3
        generalize w2.heap.size = gb at *
        go_loopw [6] (fun iv wr => iv = .int .i64 0 ∧ BoxQ wr gb 61 (((1 : Int) : Rat)) ∧ Box wr w.heap.size 61 #[.bool false, .slice none 0 0, .bool false, .slice none 0 0] ∧ Ext w wr) (fun iv _ => n - (intOf iv).toNat)
        case atStart => exact ⟨rfl, eb0, ez, hx⟩
        case round =>
          clear eb0 ez hx
          obtain ⟨rfl, ⟨b7, A7, n7, c7, b8, A8, n8, c8, eb, hr⟩, ez, hx⟩ := hrel
          have hn0 : ¬ (0 : Int) < (n : Int) := by omega
          have e1 : D = ((1 : Int) : Rat) := by rw [HD.out, H0.out]; rfl
          have E1 := Lib.hid e1; clear e1 h0
          obtain ⟨cez0, cez1, cez2, cez3⟩ := ez.cells4
          have fez := ez.frozen
          obtain ⟨ceb0, ceb1, ceb2, ceb3⟩ := eb.cells4
          have feb := eb.frozen
          have Hr := Lib.hid hr; clear hr
          go_wp2
          have hr := Hr.out
          obtain ⟨W9, eW, ez', U⟩ := ez.put4 (.bool b7) (.slice A7 n7 c7) (.bool b8) (.slice A8 n8 c8) rfl rfl rfl rfl
          rw [← eW]
          clear eW ez
          replace hr := hr.kd U.kd
          replace hx := U.from_ hx (by simp <;> omega)
          have ez := ez'
          clear U ez'
          clear cez0 cez1 cez2 cez3 fez
          obtain ⟨cez0, cez1, cez2, cez3⟩ := ez.cells4
          have fez := ez.frozen
          refine bodyPost_ret (v := .agg #[.bool b7, .slice A7 n7 c7, .bool b8, .slice A8 n8 c8]) (by simp [results, Tryz.results81, go_sem, cez0, cez1, cez2, cez3]) rfl ?_
          exact Gives.mk (by rw [E1.out]; exact hr) hx
      · obtain ⟨gA, cap, gs, cs, rfl, hmx⟩ := Rows_.mx hown (by decide) (RL_len _ _ _) (by omega) (fun i h => RL_get _ _ _ i h)
        have Hmx0 := Lib.hid hmx; clear hown hmx
        go_wp2_with fail
        refine Calls.mono (of_rq 1 _ (by omega) (by omega)) ?_
        rintro e w2 ⟨r2, rfl, hr2, hx2⟩
        obtain ⟨b5, A5, n5, c5, b6, A6, n6, c6, rfl⟩ := hr2.cells
        obtain ⟨W3, eW3, eb, x3⟩ := Box.made w2 61 #[.bool b5, .slice A5 n5 c5, .bool b6, .slice A6 n6 c6] (by simp [isDig])
        have eb0 := BoxQ.mk eb (hr2.ext x3)
        have hmx := Hmx0.out.ext (hx2.trans x3)
        have hlt := (Hmx0.out.ext hx2).lt
        replace ez := ez.ext (hx2.trans x3)
        replace hx := hx.trans (hx2.trans x3)
        clear eb hr2 Hmx0 hsz
        go_wp2
        rw [← eW3]
        clear eW3 hx2 x3
        generalize w2.heap.size = gb at *
        have hbase := hmx.ge
        obtain ⟨B, hB0, hB1, hB2⟩ : ∃ B : Nat → Nat, B 0 = S + 1 ∧ (∀ c, B (c + 1) = 4 * B c) ∧ ∀ c, c ≤ n → B c ≤ 17179869184 :=
          ⟨fun c => (S + 1) * 4 ^ c, by simp, fun c => by simp only [Nat.pow_succ]; rw [← Nat.mul_assoc, Nat.mul_comm], fun c hc => by
            have e1 : (S + 1) * 4 ^ c ≤ (S + 1) * 4 ^ n := Nat.mul_le_mul_left _ (Nat.pow_le_pow_right (by decide) hc)
            rw [Nat.pow_succ, ← Nat.mul_assoc] at hS
            show (S + 1) * 4 ^ c ≤ 17179869184
            omega⟩
        have hs0 : ∀ i j, i < n → j < n → qsz (M i j) + 1 ≤ B 0 := fun i j hi hj => by rw [hB0]; have := hs i j hi hj; omega
        have q1 : qsz 1 ≤ B 0 := by rw [hB0]; have : qsz 1 = 1 := by decide
                                    omega
        have HB := Lib.hid (And.intro hB1 hB2)
        have H00 := Lib.hid (show 1 * det (n - 0) (subm 0 M) = D ∧ (∀ i j, i < n → j < n → qsz (M i j) + 1 ≤ B 0) ∧ qsz 1 ≤ B 0 from ⟨by rw [HD.out, Rat.one_mul]; exact det_congr fun i j _ _ => by unfold subm; rw [Nat.zero_add, Nat.zero_add], hs0, q1⟩)
        have hlA := hlt.1
        have hlg := hlt.2
        clear hB0 hB1 hB2 hs hS hs0 q1 hlt HV hk hkn h0
        go_loopw [6] (fun iv wr => ∃ (j0 : Nat) (gs cs : Nat → Nat) (Mc : Nat → Nat → Rat) (o : Rat), j0 ≤ n ∧ iv = .int .i64 j0 ∧ Mx (w.heap.size + 1) gA 95 61 wr n gs cs Mc ∧ (∀ i, i < n → gs i < gb) ∧ BoxQ wr gb 61 o ∧ Box wr w.heap.size 61 #[.bool false, .slice none 0 0, .bool false, .slice none 0 0] ∧ Ext w wr ∧ Hid (o * det (n - j0) (subm j0 Mc) = D ∧ (∀ i j, i < n → j < n → qsz (Mc i j) + 1 ≤ B j0) ∧ qsz o ≤ B j0)) (fun iv _ => n - (intOf iv).toNat)
        case atStart => exact ⟨0, gs, cs, M, 1, Nat.zero_le _, rfl, hmx, hlg, eb0, ez, hx, H00⟩
        case round =>
          clear eb0 ez hx hmx hlg H00
          obtain ⟨j0, gs, cs, Mc, o, hj, rfl, hmx, hlg, eb, ez, hx, HM⟩ := hrel
          by_cases hjn : j0 < n
          · have Hlg := Lib.hid hlg; clear hlg
            go_wp2
            go_loopw [7] (fun pv wx => ∃ p, j0 ≤ p ∧ p ≤ n ∧ pv = .int .i64 p ∧ (∀ i, j0 ≤ i → i < p → Mc i j0 = 0) ∧ Mx (w.heap.size + 1) gA 95 61 wx n gs cs Mc ∧ BoxQ wx gb 61 o ∧ Box wx w.heap.size 61 #[.bool false, .slice none 0 0, .bool false, .slice none 0 0] ∧ Ext w wx) (fun pv _ => n - (intOf pv).toNat)
            case atStart => exact ⟨j0, Nat.le_refl _, hj, rfl, fun i a b => by omega, hmx, eb, ez, hx⟩
            case round =>
              clear hmx eb ez hx
              obtain ⟨p, hp1, hp2, rfl, hz, hmx, eb, ez, hx⟩ := hrel
              have Hz := Lib.hid hz; clear hz
              by_cases hpn : p < n
              · have hd0 := hmx.head hpn
                obtain ⟨b1, A1, m1, c1, b2, A2, m2, c2, q0, q1, q2, q3, hq⟩ := hmx.at_ hpn hjn
                have Hmx := Lib.hid hmx; have Hq := Lib.hid hq; clear hmx hq
                go_wp2_with fail
                refine Calls.mono (sign_rq _ (Mc p j0) _ (Hq.out.has (by have := HM.out.2.1 p j0 hpn hjn; have := HB.out.2 j0 hj; omega))) ?_
                rintro e w5 ⟨r5, rfl, rfl, hx5⟩
                have hmx := Hmx.out.ext hx5
                replace eb := eb.ext hx5
                replace ez := ez.ext hx5
                replace hx := hx.trans hx5
                clear q0 q1 q2 q3 hd0 hx5 Hmx Hq
                by_cases h0 : Mc p j0 = 0
                · have b0 := sgn_b1 h0
                  have H0 := Lib.hid h0; clear h0
                  go_wp2
                  go_roundw
                  case rel => exact ⟨p + 1, by omega, by omega, by go_num, fun i a b => by
                    by_cases e : i = p
                    · subst e; exact H0.out
                    · exact Hz.out i a (by omega), hmx, eb, ez, hx⟩
                  case measure => simp [intOf] <;> omega
                · have b0 := sgn_b0 h0
                  have hpe : ((p : Int) == (n : Int)) = false := beq_eq_false_iff_ne.2 (by omega)
                  have H0 := Lib.hid h0; clear h0
                  by_cases hpc : p = j0
                  · obtain rfl : j0 = p := by omega
                    have HM2 := Lib.hid (And.intro HM.out.1 (And.intro HM.out.2.1 (And.intro HM.out.2.2 H0.out)))
                    clear H0 HM Hz hp1 hp2 hpc
                    obtain ⟨b3, A3, n3, c3, b4, A4, n4, c4, eb, hbq⟩ := eb
                    have hd0 := hmx.head hjn
                    obtain ⟨b1, A1, m1, c1, b2, A2, m2, c2, q0, q1, q2, q3, hq⟩ := hmx.at_ hjn hjn
                    have Hb := Lib.hid hbq; have Hq := Lib.hid hq; have Hmx := Lib.hid hmx; clear hbq hq hmx
                    obtain ⟨ceb0, ceb1, ceb2, ceb3⟩ := eb.cells4
                    have feb := eb.frozen
                    go_wp2_with fail
                    refine wp_region_par (k := 9) (D := [75, 76, 77, 78, 79, 80, 81, 82, 83]) (T := [[], [], [], [1, 2], [1, 2, 3], [], [1, 2, 3, 4, 5], [1, 2, 3, 4, 5, 6], [0, 1, 2, 3, 4, 5, 6, 7], [0, 1, 2, 3, 4, 5, 6, 7, 8]]) (EK := [5, 3, 6]) (EV := [?e1x0, ?e1x1, ?e1x2]) (VL := [(kv ?v1x0), (kv ?v1x1), (kv ?v1x2), (kv ?v1x3), (kv ?v1x4), (kv ?v1x5), (kv ?v1x6), (kv ?v1x7), (fun γ => γ 8)]) (FL := fun γ w' => [True, True, True, True, True, True, True, True, IsQ w' (γ 8) (o * Mc j0 j0)]) ?hE1 (by kernel_rfl) (by kernel_rfl) (by rfl) (by kernel_rfl) ?hloc1 ?hmono1 ?hstep1 ?htail1
                    case hE1 => refine ⟨?_, ?_, ?_, trivial⟩ <;> (simp only [List.getElem?_toArray, List.getElem?_cons_succ, List.getElem?_cons_zero]; rfl)
                    case hstep1 =>
                      refine ⟨⟨⟨⟨⟨⟨⟨⟨⟨trivial, ?_⟩, ?_⟩, ?_⟩, ?_⟩, ?_⟩, ?_⟩, ?_⟩, ?_⟩, ?_⟩
                      · intro γ w' he hf; clear hf; refine ⟨trivial, ?_⟩; intro R hR
                        have hc := he.cells
                        have cq0 := he.cell ceb0
                        have cq1 := he.cell ceb1
                        have cq2 := he.cell ceb2
                        have cq3 := he.cell ceb3
                        have cq4 := he.cell hd0
                        have cq5 := he.cell q0
                        have cq6 := he.cell q1
                        have cq7 := he.cell q2
                        have cq8 := he.cell q3
                        go_simp
                        (try go_ints); (try (rw [if_neg (by omega)])); (try (rw [if_pos (by omega)])); (try go_simp); (try go_ints)
                        refine hR _ _ (Ext.refl _) ?_ trivial
                        rfl
                      · intro γ w' he hf; clear hf; refine ⟨trivial, ?_⟩; intro R hR
                        have hc := he.cells
                        go_simp
                        (try go_ints); (try (rw [if_neg (by omega)])); (try (rw [if_pos (by omega)])); (try go_simp); (try go_ints)
                        refine hR _ _ (Ext.refl _) ?_ trivial
                        rfl
                      · intro γ w' he hf; clear hf; refine ⟨trivial, ?_⟩; intro R hR
                        have hc := he.cells
                        go_simp
                        (try go_ints); (try (rw [if_neg (by omega)])); (try (rw [if_pos (by omega)])); (try go_simp); (try go_ints)
                        refine hR _ _ (Ext.refl _) ?_ trivial
                        rfl
                      · intro γ w' he hf; clear hf; refine ⟨trivial, ?_⟩; intro R hR
                        have hc := he.cells
                        go_simp
                        (try go_ints); (try (rw [if_neg (by omega)])); (try (rw [if_pos (by omega)])); (try go_simp); (try go_ints)
                        refine hR _ _ (Ext.refl _) ?_ trivial
                        rfl
                      · intro γ w' he hf; clear hf; refine ⟨trivial, ?_⟩; intro R hR
                        have hc := he.cells
                        have cq0 := he.cell ceb0
                        have cq1 := he.cell ceb1
                        have cq2 := he.cell ceb2
                        have cq3 := he.cell ceb3
                        have cq4 := he.cell hd0
                        have cq5 := he.cell q0
                        have cq6 := he.cell q1
                        have cq7 := he.cell q2
                        have cq8 := he.cell q3
                        go_simp
                        (try go_ints); (try (rw [if_neg (by omega)])); (try (rw [if_pos (by omega)])); (try go_simp); (try go_ints)
                        refine hR _ _ (Ext.refl _) ?_ trivial
                        rfl
                      · intro γ w' he hf; clear hf; refine ⟨trivial, ?_⟩; intro R hR
                        have hc := he.cells
                        go_simp
                        (try go_ints); (try (rw [if_neg (by omega)])); (try (rw [if_pos (by omega)])); (try go_simp); (try go_ints)
                        refine hR _ _ (Ext.refl _) ?_ trivial
                        rfl
                      · intro γ w' he hf; clear hf; refine ⟨trivial, ?_⟩; intro R hR
                        have hc := he.cells
                        go_simp
                        (try go_ints); (try (rw [if_neg (by omega)])); (try (rw [if_pos (by omega)])); (try go_simp); (try go_ints)
                        refine hR _ _ (Ext.refl _) ?_ trivial
                        rfl
                      · intro γ w' he hf; clear hf; refine ⟨trivial, ?_⟩; intro R hR
                        have hc := he.cells
                        have cq0 := he.cell ceb0
                        have cq1 := he.cell ceb1
                        have cq2 := he.cell ceb2
                        have cq3 := he.cell ceb3
                        have cq4 := he.cell hd0
                        have cq5 := he.cell q0
                        have cq6 := he.cell q1
                        have cq7 := he.cell q2
                        have cq8 := he.cell q3
                        go_simp
                        (try go_ints); (try (rw [if_neg (by omega)])); (try (rw [if_pos (by omega)])); (try go_simp); (try go_ints)
                        refine hR _ _ (Ext.refl _) ?_ trivial
                        rfl
                      · intro γ w' he hf; clear hf; refine ⟨trivial, ?_⟩; intro R hR
                        go_simp
                        refine Calls.mono (show Calls _ _ _ w' (Gives w' fun r w'' => IsQ w'' (r) (o * Mc j0 j0)) from mul_rq _ _ _ _ w' ((Hb.out.ext he).has (by have := HM2.out.2.2.1; have := HB.out.2 j0 hj; omega)) ((Hq.out.ext he).has (by have := HM2.out.2.1 j0 j0 hjn hjn; have := HB.out.2 j0 hj; omega))) ?_
                        rintro e w2 ⟨v, rfl, hv, hx⟩
                        exact ⟨v, rfl, hR v w2 hx rfl hv⟩
                    case hloc1 =>
                      exact ⟨⟨⟨⟨⟨⟨⟨⟨⟨trivial, (fun γ γ' h => ⟨rfl, fun _ => rfl⟩)⟩, (fun γ γ' h => ⟨rfl, fun _ => rfl⟩)⟩, (fun γ γ' h => ⟨rfl, fun _ => rfl⟩)⟩, (fun γ γ' h => ⟨rfl, fun _ => rfl⟩)⟩, (fun γ γ' h => ⟨rfl, fun _ => rfl⟩)⟩, (fun γ γ' h => ⟨rfl, fun _ => rfl⟩)⟩, (fun γ γ' h => ⟨rfl, fun _ => rfl⟩)⟩, (fun γ γ' h => ⟨rfl, fun _ => rfl⟩)⟩, (fun γ γ' h => ⟨h 8 rfl, fun w' => (congrArg (fun a => IsQ w' (a) (o * Mc j0 j0)) (h 8 rfl))⟩)⟩
                    case hmono1 =>
                      exact ⟨⟨⟨⟨⟨⟨⟨⟨⟨trivial, (fun γ wA w' e h => h)⟩, (fun γ wA w' e h => h)⟩, (fun γ wA w' e h => h)⟩, (fun γ wA w' e h => h)⟩, (fun γ wA w' e h => h)⟩, (fun γ wA w' e h => h)⟩, (fun γ wA w' e h => h)⟩, (fun γ wA w' e h => h)⟩, (fun γ wA w' e h => (show IsQ wA (γ 8) (o * Mc j0 j0) from h).ext e)⟩
                    intro γ w7 hx7 hF
                    have p8 : IsQ w7 (γ 8) (o * Mc j0 j0) := Each.get hF 8 (by decide)
                    clear hF
                    simp only [fillAll, gV, kv, List.getD_cons_zero, List.getD_cons_succ, Act.put, List.setIfInBounds_toArray, List.set_cons_zero, List.set_cons_succ, List.toList_toArray, List.drop_succ_cons, List.drop_zero, List.drop_nil, Nat.zero_add, Nat.reduceAdd]
                    generalize γ 8 = g8 at *
                    clear γ
                    clear ceb0 ceb1 ceb2 ceb3 feb hd0 q0 q1 q2 q3 Hb Hq
                    have hmx := Hmx.out.ext hx7
                    replace eb := eb.ext hx7
                    replace ez := ez.ext hx7
                    replace hx := hx.trans hx7
                    clear hx7 Hmx
                    obtain ⟨b3, A3, n3, c3, b4, A4, n4, c4, rfl⟩ := p8.cells
                    obtain ⟨ceb0, ceb1, ceb2, ceb3⟩ := eb.cells4
                    have feb := eb.frozen
                    have Hmx := Lib.hid hmx; clear hmx
                    have Hp8 := Lib.hid p8; clear p8
                    go_wp2
                    have hr8 := Hp8.out
                    have hmx := Hmx.out
                    obtain ⟨W7, eW, eb', U⟩ := eb.put4 (.bool b3) (.slice A3 n3 c3) (.bool b4) (.slice A4 n4 c4) rfl rfl rfl rfl
                    rw [← eW]
                    clear eW eb ceb0 ceb1 ceb2 ceb3 feb
                    have eb := BoxQ.mk eb' (hr8.kd U.kd)
                    replace hmx := hmx.off U (by omega) (fun i hi => by have := Hlg.out i hi; omega)
                    replace ez := ez.upd U (by simp <;> omega)
                    replace hx := U.from_ hx (by simp <;> omega)
                    clear U eb' hr8 Hp8 Hmx
                    go_loopw [8] (fun iv wx => ∃ i, j0 + 1 ≤ i ∧ i ≤ n ∧ iv = .int .i64 i ∧ Mx (w.heap.size + 1) gA 95 61 wx n gs cs (elimTo j0 i Mc) ∧ BoxQ wx gb 61 (o * Mc j0 j0) ∧ Box wx w.heap.size 61 #[.bool false, .slice none 0 0, .bool false, .slice none 0 0] ∧ Ext w wx) (fun iv _ => n - (intOf iv).toNat)
                    case atStart => exact ⟨j0 + 1, Nat.le_refl _, by omega, by go_num, by rw [elimTo_start]; exact hmx, eb, ez, hx⟩
                    case round =>
                      clear hmx eb ez hx
                      obtain ⟨i, hi1, hi2, rfl, hmx, eb, ez, hx⟩ := hrel
                      by_cases hin : i < n
                      · have hdi := hmx.head hin
                        have hdj := hmx.head hjn
                        obtain ⟨b1, A1, m1, c1, b2, A2, m2, c2, r0, r1, r2, r3, hri⟩ := hmx.at_ hin hjn
                        obtain ⟨b3, A3, m3, c3, b4, A4, m4, c4, s0, s1, s2, s3, hsj⟩ := hmx.at_ hjn hjn
                        rw [elimTo_at] at hri
                        rw [elimTo_row] at hsj
                        have HT := Lib.hid (elim_qsz (s := B j0) (x := Mc i j0) (y := Mc i j0) (z := Mc j0 j0) (u := Mc j0 j0) (by have := HM2.out.2.1 i j0 hin hjn; omega) (by have := HM2.out.2.1 i j0 hin hjn; omega) (by have := HM2.out.2.1 j0 j0 hjn hjn; omega) (by have := HM2.out.2.1 j0 j0 hjn hjn; omega))
                        have Hri := Lib.hid hri; have Hsj := Lib.hid hsj; have Hmx := Lib.hid hmx; clear hri hsj hmx
                        go_wp2_with fail
                        refine wp_region_par (k := 16) (D := [92, 93, 94, 95, 96, 97, 98, 99, 100, 101, 102, 103, 104, 105, 106, 9]) (T := [[], [], [0, 1], [0, 1, 2], [], [0, 1, 2, 3, 4], [0, 1, 2, 3, 4, 5], [], [], [7, 8], [7, 8, 9], [], [7, 8, 9, 10, 11], [7, 8, 9, 10, 11, 12], [0, 1, 2, 3, 4, 5, 6, 7, 8, 9, 10, 11, 12, 13], [], [0, 1, 2, 3, 4, 5, 6, 7, 8, 9, 10, 11, 12, 13, 14, 15]]) (EK := [3, 8, 6]) (EV := [?e2x0, ?e2x1, ?e2x2]) (VL := [(kv ?v2x0), (kv ?v2x1), (kv ?v2x2), (kv ?v2x3), (kv ?v2x4), (kv ?v2x5), (kv ?v2x6), (kv ?v2x7), (kv ?v2x8), (kv ?v2x9), (kv ?v2x10), (kv ?v2x11), (kv ?v2x12), (kv ?v2x13), (fun γ => γ 14), (fun γ => γ 15)]) (FL := fun γ w' => [True, True, True, True, True, True, True, True, True, True, True, True, True, True, IsQ w' (γ 14) (Mc i j0 / Mc j0 j0), NewAt w' (γ 15) wr.heap.size #[.bool false, .slice none 0 0, .bool false, .slice none 0 0] 61]) ?hE2 (by kernel_rfl) (by kernel_rfl) (by rfl) (by kernel_rfl) ?hloc2 ?hmono2 ?hstep2 ?htail2
                        case hE2 => refine ⟨?_, ?_, ?_, trivial⟩ <;> (simp only [List.getElem?_toArray, List.getElem?_cons_succ, List.getElem?_cons_zero]; rfl)
                        case hstep2 =>
                          refine ⟨⟨⟨⟨⟨⟨⟨⟨⟨⟨⟨⟨⟨⟨⟨⟨trivial, ?_⟩, ?_⟩, ?_⟩, ?_⟩, ?_⟩, ?_⟩, ?_⟩, ?_⟩, ?_⟩, ?_⟩, ?_⟩, ?_⟩, ?_⟩, ?_⟩, ?_⟩, ?_⟩
                          · intro γ w' he hf; clear hf; refine ⟨trivial, ?_⟩; intro R hR
                            have hc := he.cells
                            go_simp
                            (try go_ints); (try (rw [if_neg (by omega)])); (try (rw [if_pos (by omega)])); (try go_simp); (try go_ints)
                            refine hR _ _ (Ext.refl _) ?_ trivial
                            rfl
                          · intro γ w' he hf; clear hf; refine ⟨trivial, ?_⟩; intro R hR
                            have hc := he.cells
                            go_simp
                            (try go_ints); (try (rw [if_neg (by omega)])); (try (rw [if_pos (by omega)])); (try go_simp); (try go_ints)
                            refine hR _ _ (Ext.refl _) ?_ trivial
                            rfl
                          · intro γ w' he hf; clear hf; refine ⟨trivial, ?_⟩; intro R hR
                            have hc := he.cells
                            go_simp
                            (try go_ints); (try (rw [if_neg (by omega)])); (try (rw [if_pos (by omega)])); (try go_simp); (try go_ints)
                            refine hR _ _ (Ext.refl _) ?_ trivial
                            rfl
                          · intro γ w' he hf; clear hf; refine ⟨trivial, ?_⟩; intro R hR
                            have hc := he.cells
                            have cq0 := he.cell hdi
                            have cq1 := he.cell hdj
                            have cq2 := he.cell r0
                            have cq3 := he.cell r1
                            have cq4 := he.cell r2
                            have cq5 := he.cell r3
                            have cq6 := he.cell s0
                            have cq7 := he.cell s1
                            have cq8 := he.cell s2
                            have cq9 := he.cell s3
                            go_simp
                            (try go_ints); (try (rw [if_neg (by omega)])); (try (rw [if_pos (by omega)])); (try go_simp); (try go_ints)
                            refine hR _ _ (Ext.refl _) ?_ trivial
                            rfl
                          · intro γ w' he hf; clear hf; refine ⟨trivial, ?_⟩; intro R hR
                            have hc := he.cells
                            go_simp
                            (try go_ints); (try (rw [if_neg (by omega)])); (try (rw [if_pos (by omega)])); (try go_simp); (try go_ints)
                            refine hR _ _ (Ext.refl _) ?_ trivial
                            rfl
                          · intro γ w' he hf; clear hf; refine ⟨trivial, ?_⟩; intro R hR
                            have hc := he.cells
                            go_simp
                            (try go_ints); (try (rw [if_neg (by omega)])); (try (rw [if_pos (by omega)])); (try go_simp); (try go_ints)
                            refine hR _ _ (Ext.refl _) ?_ trivial
                            rfl
                          · intro γ w' he hf; clear hf; refine ⟨trivial, ?_⟩; intro R hR
                            have hc := he.cells
                            have cq0 := he.cell hdi
                            have cq1 := he.cell hdj
                            have cq2 := he.cell r0
                            have cq3 := he.cell r1
                            have cq4 := he.cell r2
                            have cq5 := he.cell r3
                            have cq6 := he.cell s0
                            have cq7 := he.cell s1
                            have cq8 := he.cell s2
                            have cq9 := he.cell s3
                            go_simp
                            (try go_ints); (try (rw [if_neg (by omega)])); (try (rw [if_pos (by omega)])); (try go_simp); (try go_ints)
                            refine hR _ _ (Ext.refl _) ?_ trivial
                            rfl
                          · intro γ w' he hf; clear hf; refine ⟨trivial, ?_⟩; intro R hR
                            have hc := he.cells
                            go_simp
                            (try go_ints); (try (rw [if_neg (by omega)])); (try (rw [if_pos (by omega)])); (try go_simp); (try go_ints)
                            refine hR _ _ (Ext.refl _) ?_ trivial
                            rfl
                          · intro γ w' he hf; clear hf; refine ⟨trivial, ?_⟩; intro R hR
                            have hc := he.cells
                            go_simp
                            (try go_ints); (try (rw [if_neg (by omega)])); (try (rw [if_pos (by omega)])); (try go_simp); (try go_ints)
                            refine hR _ _ (Ext.refl _) ?_ trivial
                            rfl
                          · intro γ w' he hf; clear hf; refine ⟨trivial, ?_⟩; intro R hR
                            have hc := he.cells
                            go_simp
                            (try go_ints); (try (rw [if_neg (by omega)])); (try (rw [if_pos (by omega)])); (try go_simp); (try go_ints)
                            refine hR _ _ (Ext.refl _) ?_ trivial
                            rfl
                          · intro γ w' he hf; clear hf; refine ⟨trivial, ?_⟩; intro R hR
                            have hc := he.cells
                            have cq0 := he.cell hdi
                            have cq1 := he.cell hdj
                            have cq2 := he.cell r0
                            have cq3 := he.cell r1
                            have cq4 := he.cell r2
                            have cq5 := he.cell r3
                            have cq6 := he.cell s0
                            have cq7 := he.cell s1
                            have cq8 := he.cell s2
                            have cq9 := he.cell s3
                            go_simp
                            (try go_ints); (try (rw [if_neg (by omega)])); (try (rw [if_pos (by omega)])); (try go_simp); (try go_ints)
                            refine hR _ _ (Ext.refl _) ?_ trivial
                            rfl
                          · intro γ w' he hf; clear hf; refine ⟨trivial, ?_⟩; intro R hR
                            have hc := he.cells
                            go_simp
                            (try go_ints); (try (rw [if_neg (by omega)])); (try (rw [if_pos (by omega)])); (try go_simp); (try go_ints)
                            refine hR _ _ (Ext.refl _) ?_ trivial
                            rfl
                          · intro γ w' he hf; clear hf; refine ⟨trivial, ?_⟩; intro R hR
                            have hc := he.cells
                            go_simp
                            (try go_ints); (try (rw [if_neg (by omega)])); (try (rw [if_pos (by omega)])); (try go_simp); (try go_ints)
                            refine hR _ _ (Ext.refl _) ?_ trivial
                            rfl
                          · intro γ w' he hf; clear hf; refine ⟨trivial, ?_⟩; intro R hR
                            have hc := he.cells
                            have cq0 := he.cell hdi
                            have cq1 := he.cell hdj
                            have cq2 := he.cell r0
                            have cq3 := he.cell r1
                            have cq4 := he.cell r2
                            have cq5 := he.cell r3
                            have cq6 := he.cell s0
                            have cq7 := he.cell s1
                            have cq8 := he.cell s2
                            have cq9 := he.cell s3
                            go_simp
                            (try go_ints); (try (rw [if_neg (by omega)])); (try (rw [if_pos (by omega)])); (try go_simp); (try go_ints)
                            refine hR _ _ (Ext.refl _) ?_ trivial
                            rfl
                          · intro γ w' he hf; clear hf; refine ⟨trivial, ?_⟩; intro R hR
                            go_simp
                            refine Calls.mono (show Calls _ _ _ w' (Gives w' fun r w'' => IsQ w'' (r) (Mc i j0 / Mc j0 j0)) from ratio_rq _ _ _ _ w' ((Hri.out.ext he).has (by have := HM2.out.2.1 i j0 hin hjn; have := HB.out.2 j0 hj; omega)) ((Hsj.out.ext he).has (by have := HM2.out.2.1 j0 j0 hjn hjn; have := HB.out.2 j0 hj; omega))) ?_
                            rintro e w2 ⟨v, rfl, hv, hx⟩
                            exact ⟨v, rfl, hR v w2 hx rfl hv⟩
                          · intro γ w' he hf; clear hf; refine ⟨trivial, ?_⟩; intro R hR
                            go_simp
                            exact hR _ _ ((Ext.refl _).alloc _) rfl (NewAt.mk (Nat.le_trans (by simp) he.size) (by simp [isDig]))
                        case hloc2 =>
                          exact ⟨⟨⟨⟨⟨⟨⟨⟨⟨⟨⟨⟨⟨⟨⟨⟨trivial, (fun γ γ' h => ⟨rfl, fun _ => rfl⟩)⟩, (fun γ γ' h => ⟨rfl, fun _ => rfl⟩)⟩, (fun γ γ' h => ⟨rfl, fun _ => rfl⟩)⟩, (fun γ γ' h => ⟨rfl, fun _ => rfl⟩)⟩, (fun γ γ' h => ⟨rfl, fun _ => rfl⟩)⟩, (fun γ γ' h => ⟨rfl, fun _ => rfl⟩)⟩, (fun γ γ' h => ⟨rfl, fun _ => rfl⟩)⟩, (fun γ γ' h => ⟨rfl, fun _ => rfl⟩)⟩, (fun γ γ' h => ⟨rfl, fun _ => rfl⟩)⟩, (fun γ γ' h => ⟨rfl, fun _ => rfl⟩)⟩, (fun γ γ' h => ⟨rfl, fun _ => rfl⟩)⟩, (fun γ γ' h => ⟨rfl, fun _ => rfl⟩)⟩, (fun γ γ' h => ⟨rfl, fun _ => rfl⟩)⟩, (fun γ γ' h => ⟨rfl, fun _ => rfl⟩)⟩, (fun γ γ' h => ⟨h 14 rfl, fun w' => (congrArg (fun a => IsQ w' (a) (Mc i j0 / Mc j0 j0)) (h 14 rfl))⟩)⟩, (fun γ γ' h => ⟨h 15 rfl, fun w' => (congrArg (fun a => NewAt w' (a) wr.heap.size #[.bool false, .slice none 0 0, .bool false, .slice none 0 0] 61) (h 15 rfl))⟩)⟩
                        case hmono2 =>
                          exact ⟨⟨⟨⟨⟨⟨⟨⟨⟨⟨⟨⟨⟨⟨⟨⟨trivial, (fun γ wA w' e h => h)⟩, (fun γ wA w' e h => h)⟩, (fun γ wA w' e h => h)⟩, (fun γ wA w' e h => h)⟩, (fun γ wA w' e h => h)⟩, (fun γ wA w' e h => h)⟩, (fun γ wA w' e h => h)⟩, (fun γ wA w' e h => h)⟩, (fun γ wA w' e h => h)⟩, (fun γ wA w' e h => h)⟩, (fun γ wA w' e h => h)⟩, (fun γ wA w' e h => h)⟩, (fun γ wA w' e h => h)⟩, (fun γ wA w' e h => h)⟩, (fun γ wA w' e h => (show IsQ wA (γ 14) (Mc i j0 / Mc j0 j0) from h).ext e)⟩, (fun γ wA w' e h => (show NewAt wA (γ 15) wr.heap.size #[.bool false, .slice none 0 0, .bool false, .slice none 0 0] 61 from h).ext e)⟩
                        intro γ w8 hx8 hF
                        have p14 : IsQ w8 (γ 14) (Mc i j0 / Mc j0 j0) := Each.get hF 14 (by decide)
                        have p15 : NewAt w8 (γ 15) wr.heap.size #[.bool false, .slice none 0 0, .bool false, .slice none 0 0] 61 := Each.get hF 15 (by decide)
                        clear hF
                        simp only [fillAll, gV, kv, List.getD_cons_zero, List.getD_cons_succ, Act.put, List.setIfInBounds_toArray, List.set_cons_zero, List.set_cons_succ, List.toList_toArray, List.drop_succ_cons, List.drop_zero, List.drop_nil, Nat.zero_add, Nat.reduceAdd]
                        generalize γ 14 = g14 at *
                        generalize γ 15 = g15 at *
                        clear γ
                        clear hdi hdj r0 r1 r2 r3 s0 s1 s2 s3 Hri Hsj
                        obtain ⟨b7, A7, n7, c7, b8, A8, n8, c8, rfl⟩ := p14.cells
                        obtain ⟨gt, rfl, hgt, et⟩ := p15
                        have hbt : gb < gt := Nat.lt_of_lt_of_le eb.lt hgt
                        have hmx := Hmx.out.ext hx8
                        replace eb := eb.ext hx8
                        replace ez := ez.ext hx8
                        replace hx := hx.trans hx8
                        have Hmx2 := Lib.hid hmx; have Hp14 := Lib.hid p14
                        clear hx8 Hmx p14 hmx
                        obtain ⟨cet0, cet1, cet2, cet3⟩ := et.cells4
                        have fet := et.frozen
                        go_upto_region 23 with (fail)
                        have hmx := Hmx2.out
                        have p14 := Hp14.out
                        obtain ⟨W9, eW, et', U⟩ := et.put4 (.bool b7) (.slice A7 n7 c7) (.bool b8) (.slice A8 n8 c8) rfl rfl rfl rfl
                        rw [← eW]
                        clear eW et cet0 cet1 cet2 cet3 fet
                        have Ht := Lib.hid (p14.kd U.kd)
                        replace hmx := hmx.off U (by omega) (fun i hi => by have := Hlg.out i hi; omega)
                        replace eb := eb.upd U (by simp <;> omega)
                        replace ez := ez.upd U (by simp <;> omega)
                        replace hx := U.from_ hx (by simp <;> omega)
                        have et := et'
                        clear U et' p14 Hmx2 Hp14 hgt
                        have Hmx2 := Lib.hid hmx; clear hmx
                        obtain ⟨cet0, cet1, cet2, cet3⟩ := et.cells4
                        have fet := et.frozen
                        go_wp2_with fail
                        refine Calls.mono (sign_rq _ (Mc i j0 / Mc j0 j0) _ (Ht.out.has (by have := HT.out.1; have := HB.out.2 j0 hj; omega))) ?_
                        rintro e w9 ⟨r9, rfl, rfl, hx9⟩
                        have hmx := Hmx2.out.ext hx9
                        have eT := (BoxQ.mk et Ht.out).ext hx9
                        replace eb := eb.ext hx9
                        replace ez := ez.ext hx9
                        replace hx := hx.trans hx9
                        clear cet0 cet1 cet2 cet3 fet Ht Hmx2 hx9 et
                        by_cases ht : Mc i j0 / Mc j0 j0 = 0
                        · have bt := sgn_b1 ht
                          have HT0 := Lib.hid ht; clear ht
                          go_wp2
                          go_roundw
                          case rel => exact ⟨i + 1, by omega, by omega, by go_num, by rw [elimTo_skip _ HT0.out]; exact hmx, eb, ez, hx⟩
                          case measure => simp [intOf] <;> omega
                        · have bt := sgn_b0 ht
                          clear ht
                          go_wp2
                          go_loopw [10] (fun kv wy => ∃ k, j0 ≤ k ∧ k ≤ n ∧ kv = .int .i64 k ∧ Mx (w.heap.size + 1) gA 95 61 wy n gs cs (elimIn j0 i k Mc) ∧ BoxQ wy gb 61 (o * Mc j0 j0) ∧ BoxQ wy gt 61 (Mc i j0 / Mc j0 j0) ∧ Box wy w.heap.size 61 #[.bool false, .slice none 0 0, .bool false, .slice none 0 0] ∧ Ext w wy) (fun kv _ => n - (intOf kv).toNat)
                          case atStart => exact ⟨j0, Nat.le_refl _, hj, rfl, by rw [elimIn_start]; exact hmx, eb, eT, ez, hx⟩
                          case round =>
                            clear hmx eb eT ez hx
                            obtain ⟨k, hk1, hk2, rfl, hmx, eb, ⟨b7, A7, n7, c7, b8, A8, n8, c8, et, hqt⟩, ez, hx⟩ := hrel
                            by_cases hkn : k < n
                            · have hdi := hmx.head hin
                              have hdj := hmx.head hjn
                              obtain ⟨b1, A1, m1, c1, b2, A2, m2, c2, r0, r1, r2, r3, hri⟩ := hmx.at_ hin hkn
                              obtain ⟨b3, A3, m3, c3, b4, A4, m4, c4, s0, s1, s2, s3, hsj⟩ := hmx.at_ hjn hkn
                              rw [elimIn_at] at hri
                              rw [elimIn_row] at hsj
                              have HQ := Lib.hid (show qsz (Mc i k) ≤ 17179869184 ∧ qsz (Mc j0 k) ≤ 17179869184 ∧ qsz (Mc i j0 / Mc j0 j0) ≤ 2 * 17179869184 ∧ qsz (Mc i j0 / Mc j0 j0 * Mc j0 k) ≤ 3 * 17179869184 from by
                                have a1 := HM2.out.2.1 i k hin hkn
                                have a2 := HM2.out.2.1 i j0 hin hjn
                                have a3 := HM2.out.2.1 j0 j0 hjn hjn
                                have a4 := HM2.out.2.1 j0 k hjn hkn
                                have a5 := HB.out.2 j0 hj
                                have a6 := elim_qsz (s := B j0) (x := Mc i k) (y := Mc i j0) (z := Mc j0 j0) (u := Mc j0 k) (by omega) (by omega) (by omega) (by omega)
                                omega)
                              have Hri := Lib.hid hri; have Hsj := Lib.hid hsj; have Hmx := Lib.hid hmx; have Hqt := Lib.hid hqt; clear hri hsj hmx hqt
                              obtain ⟨cet0, cet1, cet2, cet3⟩ := et.cells4
                              have fet := et.frozen
                              go_wp2_with fail
                              refine wp_region_par (k := 23) (D := [117, 118, 119, 120, 121, 122, 123, 124, 125, 126, 127, 128, 129, 130, 131, 132, 133, 134, 135, 136, 137, 138, 139]) (T := [[], [], [0, 1], [0, 1, 2], [], [], [], [5, 6], [5, 6, 7], [], [5, 6, 7, 8, 9], [5, 6, 7, 8, 9, 10], [], [], [], [13, 14], [13, 14, 15], [], [13, 14, 15, 16, 17], [13, 14, 15, 16, 17, 18], [12, 13, 14, 15, 16, 17, 18, 19], [5, 6, 7, 8, 9, 10, 11, 12, 13, 14, 15, 16, 17, 18, 19, 20], [0, 1, 2, 3, 4, 5, 6, 7, 8, 9, 10, 11, 12, 13, 14, 15, 16, 17, 18, 19, 20, 21], [0, 1, 2, 3, 4, 5, 6, 7, 8, 9, 10, 11, 12, 13, 14, 15, 16, 17, 18, 19, 20, 21, 22]]) (EK := [3, 8, 10, 9, 6]) (EV := [?e3x0, ?e3x1, ?e3x2, ?e3x3, ?e3x4]) (VL := [(kv ?v3x0), (kv ?v3x1), (kv ?v3x2), (kv ?v3x3), (kv ?v3x4), (kv ?v3x5), (kv ?v3x6), (kv ?v3x7), (kv ?v3x8), (kv ?v3x9), (kv ?v3x10), (kv ?v3x11), (kv ?v3x12), (kv ?v3x13), (kv ?v3x14), (kv ?v3x15), (kv ?v3x16), (kv ?v3x17), (kv ?v3x18), (kv ?v3x19), (fun γ => γ 20), (fun γ => γ 21), (kv ?v3x22)]) (FL := fun γ w' => [True, True, True, True, True, True, True, True, True, True, True, True, True, True, True, True, True, True, True, True, IsQ w' (γ 20) (Mc i j0 / Mc j0 j0 * Mc j0 k), IsQ w' (γ 21) (Mc i k - Mc i j0 / Mc j0 j0 * Mc j0 k), True]) ?hE3 (by kernel_rfl) (by kernel_rfl) (by rfl) (by kernel_rfl) ?hloc3 ?hmono3 ?hstep3 ?htail3
                              case hE3 => refine ⟨?_, ?_, ?_, ?_, ?_, trivial⟩ <;> (simp only [List.getElem?_toArray, List.getElem?_cons_succ, List.getElem?_cons_zero]; rfl)
                              case hstep3 =>
                                refine ⟨⟨⟨⟨⟨⟨⟨⟨⟨⟨⟨⟨⟨⟨⟨⟨⟨⟨⟨⟨⟨⟨⟨trivial, ?_⟩, ?_⟩, ?_⟩, ?_⟩, ?_⟩, ?_⟩, ?_⟩, ?_⟩, ?_⟩, ?_⟩, ?_⟩, ?_⟩, ?_⟩, ?_⟩, ?_⟩, ?_⟩, ?_⟩, ?_⟩, ?_⟩, ?_⟩, ?_⟩, ?_⟩, ?_⟩
                                · intro γ w' he hf; clear hf; refine ⟨trivial, ?_⟩; intro R hR
                                  have hc := he.cells
                                  go_simp
                                  (try go_ints); (try (rw [if_neg (by omega)])); (try (rw [if_pos (by omega)])); (try go_simp); (try go_ints)
                                  refine hR _ _ (Ext.refl _) ?_ trivial
                                  rfl
                                · intro γ w' he hf; clear hf; refine ⟨trivial, ?_⟩; intro R hR
                                  have hc := he.cells
                                  go_simp
                                  (try go_ints); (try (rw [if_neg (by omega)])); (try (rw [if_pos (by omega)])); (try go_simp); (try go_ints)
                                  refine hR _ _ (Ext.refl _) ?_ trivial
                                  rfl
                                · intro γ w' he hf; clear hf; refine ⟨trivial, ?_⟩; intro R hR
                                  have hc := he.cells
                                  go_simp
                                  (try go_ints); (try (rw [if_neg (by omega)])); (try (rw [if_pos (by omega)])); (try go_simp); (try go_ints)
                                  refine hR _ _ (Ext.refl _) ?_ trivial
                                  rfl
                                · intro γ w' he hf; clear hf; refine ⟨trivial, ?_⟩; intro R hR
                                  have hc := he.cells
                                  have cq0 := he.cell hdi
                                  have cq1 := he.cell hdj
                                  have cq2 := he.cell r0
                                  have cq3 := he.cell r1
                                  have cq4 := he.cell r2
                                  have cq5 := he.cell r3
                                  have cq6 := he.cell s0
                                  have cq7 := he.cell s1
                                  have cq8 := he.cell s2
                                  have cq9 := he.cell s3
                                  have cq10 := he.cell cet0
                                  have cq11 := he.cell cet1
                                  have cq12 := he.cell cet2
                                  have cq13 := he.cell cet3
                                  go_simp
                                  (try go_ints); (try (rw [if_neg (by omega)])); (try (rw [if_pos (by omega)])); (try go_simp); (try go_ints)
                                  refine hR _ _ (Ext.refl _) ?_ trivial
                                  rfl
                                · intro γ w' he hf; clear hf; refine ⟨trivial, ?_⟩; intro R hR
                                  have hc := he.cells
                                  go_simp
                                  (try go_ints); (try (rw [if_neg (by omega)])); (try (rw [if_pos (by omega)])); (try go_simp); (try go_ints)
                                  refine hR _ _ (Ext.refl _) ?_ trivial
                                  rfl
                                · intro γ w' he hf; clear hf; refine ⟨trivial, ?_⟩; intro R hR
                                  have hc := he.cells
                                  go_simp
                                  (try go_ints); (try (rw [if_neg (by omega)])); (try (rw [if_pos (by omega)])); (try go_simp); (try go_ints)
                                  refine hR _ _ (Ext.refl _) ?_ trivial
                                  rfl
                                · intro γ w' he hf; clear hf; refine ⟨trivial, ?_⟩; intro R hR
                                  have hc := he.cells
                                  go_simp
                                  (try go_ints); (try (rw [if_neg (by omega)])); (try (rw [if_pos (by omega)])); (try go_simp); (try go_ints)
                                  refine hR _ _ (Ext.refl _) ?_ trivial
                                  rfl
                                · intro γ w' he hf; clear hf; refine ⟨trivial, ?_⟩; intro R hR
                                  have hc := he.cells
                                  go_simp
                                  (try go_ints); (try (rw [if_neg (by omega)])); (try (rw [if_pos (by omega)])); (try go_simp); (try go_ints)
                                  refine hR _ _ (Ext.refl _) ?_ trivial
                                  rfl
                                · intro γ w' he hf; clear hf; refine ⟨trivial, ?_⟩; intro R hR
                                  have hc := he.cells
                                  have cq0 := he.cell hdi
                                  have cq1 := he.cell hdj
                                  have cq2 := he.cell r0
                                  have cq3 := he.cell r1
                                  have cq4 := he.cell r2
                                  have cq5 := he.cell r3
                                  have cq6 := he.cell s0
                                  have cq7 := he.cell s1
                                  have cq8 := he.cell s2
                                  have cq9 := he.cell s3
                                  have cq10 := he.cell cet0
                                  have cq11 := he.cell cet1
                                  have cq12 := he.cell cet2
                                  have cq13 := he.cell cet3
                                  go_simp
                                  (try go_ints); (try (rw [if_neg (by omega)])); (try (rw [if_pos (by omega)])); (try go_simp); (try go_ints)
                                  refine hR _ _ (Ext.refl _) ?_ trivial
                                  rfl
                                · intro γ w' he hf; clear hf; refine ⟨trivial, ?_⟩; intro R hR
                                  have hc := he.cells
                                  go_simp
                                  (try go_ints); (try (rw [if_neg (by omega)])); (try (rw [if_pos (by omega)])); (try go_simp); (try go_ints)
                                  refine hR _ _ (Ext.refl _) ?_ trivial
                                  rfl
                                · intro γ w' he hf; clear hf; refine ⟨trivial, ?_⟩; intro R hR
                                  have hc := he.cells
                                  go_simp
                                  (try go_ints); (try (rw [if_neg (by omega)])); (try (rw [if_pos (by omega)])); (try go_simp); (try go_ints)
                                  refine hR _ _ (Ext.refl _) ?_ trivial
                                  rfl
                                · intro γ w' he hf; clear hf; refine ⟨trivial, ?_⟩; intro R hR
                                  have hc := he.cells
                                  have cq0 := he.cell hdi
                                  have cq1 := he.cell hdj
                                  have cq2 := he.cell r0
                                  have cq3 := he.cell r1
                                  have cq4 := he.cell r2
                                  have cq5 := he.cell r3
                                  have cq6 := he.cell s0
                                  have cq7 := he.cell s1
                                  have cq8 := he.cell s2
                                  have cq9 := he.cell s3
                                  have cq10 := he.cell cet0
                                  have cq11 := he.cell cet1
                                  have cq12 := he.cell cet2
                                  have cq13 := he.cell cet3
                                  go_simp
                                  (try go_ints); (try (rw [if_neg (by omega)])); (try (rw [if_pos (by omega)])); (try go_simp); (try go_ints)
                                  refine hR _ _ (Ext.refl _) ?_ trivial
                                  rfl
                                · intro γ w' he hf; clear hf; refine ⟨trivial, ?_⟩; intro R hR
                                  have hc := he.cells
                                  have cq0 := he.cell hdi
                                  have cq1 := he.cell hdj
                                  have cq2 := he.cell r0
                                  have cq3 := he.cell r1
                                  have cq4 := he.cell r2
                                  have cq5 := he.cell r3
                                  have cq6 := he.cell s0
                                  have cq7 := he.cell s1
                                  have cq8 := he.cell s2
                                  have cq9 := he.cell s3
                                  have cq10 := he.cell cet0
                                  have cq11 := he.cell cet1
                                  have cq12 := he.cell cet2
                                  have cq13 := he.cell cet3
                                  go_simp
                                  (try go_ints); (try (rw [if_neg (by omega)])); (try (rw [if_pos (by omega)])); (try go_simp); (try go_ints)
                                  refine hR _ _ (Ext.refl _) ?_ trivial
                                  rfl
                                · intro γ w' he hf; clear hf; refine ⟨trivial, ?_⟩; intro R hR
                                  have hc := he.cells
                                  go_simp
                                  (try go_ints); (try (rw [if_neg (by omega)])); (try (rw [if_pos (by omega)])); (try go_simp); (try go_ints)
                                  refine hR _ _ (Ext.refl _) ?_ trivial
                                  rfl
                                · intro γ w' he hf; clear hf; refine ⟨trivial, ?_⟩; intro R hR
                                  have hc := he.cells
                                  go_simp
                                  (try go_ints); (try (rw [if_neg (by omega)])); (try (rw [if_pos (by omega)])); (try go_simp); (try go_ints)
                                  refine hR _ _ (Ext.refl _) ?_ trivial
                                  rfl
                                · intro γ w' he hf; clear hf; refine ⟨trivial, ?_⟩; intro R hR
                                  have hc := he.cells
                                  go_simp
                                  (try go_ints); (try (rw [if_neg (by omega)])); (try (rw [if_pos (by omega)])); (try go_simp); (try go_ints)
                                  refine hR _ _ (Ext.refl _) ?_ trivial
                                  rfl
                                · intro γ w' he hf; clear hf; refine ⟨trivial, ?_⟩; intro R hR
                                  have hc := he.cells
                                  have cq0 := he.cell hdi
                                  have cq1 := he.cell hdj
                                  have cq2 := he.cell r0
                                  have cq3 := he.cell r1
                                  have cq4 := he.cell r2
                                  have cq5 := he.cell r3
                                  have cq6 := he.cell s0
                                  have cq7 := he.cell s1
                                  have cq8 := he.cell s2
                                  have cq9 := he.cell s3
                                  have cq10 := he.cell cet0
                                  have cq11 := he.cell cet1
                                  have cq12 := he.cell cet2
                                  have cq13 := he.cell cet3
                                  go_simp
                                  (try go_ints); (try (rw [if_neg (by omega)])); (try (rw [if_pos (by omega)])); (try go_simp); (try go_ints)
                                  refine hR _ _ (Ext.refl _) ?_ trivial
                                  rfl
                                · intro γ w' he hf; clear hf; refine ⟨trivial, ?_⟩; intro R hR
                                  have hc := he.cells
                                  go_simp
                                  (try go_ints); (try (rw [if_neg (by omega)])); (try (rw [if_pos (by omega)])); (try go_simp); (try go_ints)
                                  refine hR _ _ (Ext.refl _) ?_ trivial
                                  rfl
                                · intro γ w' he hf; clear hf; refine ⟨trivial, ?_⟩; intro R hR
                                  have hc := he.cells
                                  go_simp
                                  (try go_ints); (try (rw [if_neg (by omega)])); (try (rw [if_pos (by omega)])); (try go_simp); (try go_ints)
                                  refine hR _ _ (Ext.refl _) ?_ trivial
                                  rfl
                                · intro γ w' he hf; clear hf; refine ⟨trivial, ?_⟩; intro R hR
                                  have hc := he.cells
                                  have cq0 := he.cell hdi
                                  have cq1 := he.cell hdj
                                  have cq2 := he.cell r0
                                  have cq3 := he.cell r1
                                  have cq4 := he.cell r2
                                  have cq5 := he.cell r3
                                  have cq6 := he.cell s0
                                  have cq7 := he.cell s1
                                  have cq8 := he.cell s2
                                  have cq9 := he.cell s3
                                  have cq10 := he.cell cet0
                                  have cq11 := he.cell cet1
                                  have cq12 := he.cell cet2
                                  have cq13 := he.cell cet3
                                  go_simp
                                  (try go_ints); (try (rw [if_neg (by omega)])); (try (rw [if_pos (by omega)])); (try go_simp); (try go_ints)
                                  refine hR _ _ (Ext.refl _) ?_ trivial
                                  rfl
                                · intro γ w' he hf; clear hf; refine ⟨trivial, ?_⟩; intro R hR
                                  go_simp
                                  refine Calls.mono (show Calls _ _ _ w' (Gives w' fun r w'' => IsQ w'' (r) (Mc i j0 / Mc j0 j0 * Mc j0 k)) from mul_rq _ _ _ _ w' ((Hqt.out.ext he).has (by have := HQ.out.2.2.1; omega)) ((Hsj.out.ext he).has (by have := HQ.out.2.1; omega))) ?_
                                  rintro e w2 ⟨v, rfl, hv, hx⟩
                                  exact ⟨v, rfl, hR v w2 hx rfl hv⟩
                                · intro γ w' he hf; have f20 : IsQ w' (γ 20) (Mc i j0 / Mc j0 j0 * Mc j0 k) := hf 20 (by decide); clear hf; refine ⟨trivial, ?_⟩; intro R hR
                                  go_simp
                                  refine Calls.mono (show Calls _ _ _ w' (Gives w' fun r w'' => IsQ w'' (r) (Mc i k - Mc i j0 / Mc j0 j0 * Mc j0 k)) from sub_rq _ _ _ _ w' ((Hri.out.ext he).has (by have := HQ.out.1; omega)) (f20.has (by have := HQ.out.2.2.2; omega)) (by have := HQ.out.1; have := HQ.out.2.2.2; omega)) ?_
                                  rintro e w2 ⟨v, rfl, hv, hx⟩
                                  exact ⟨v, rfl, hR v w2 hx rfl hv⟩
                                · intro γ w' he hf; have f20 : IsQ w' (γ 20) (Mc i j0 / Mc j0 j0 * Mc j0 k) := hf 20 (by decide); have f21 : IsQ w' (γ 21) (Mc i k - Mc i j0 / Mc j0 j0 * Mc j0 k) := hf 21 (by decide); clear hf; refine ⟨trivial, ?_⟩; intro R hR
                                  have hc := he.cells
                                  go_simp
                                  (try go_ints); (try (rw [if_neg (by omega)])); (try (rw [if_pos (by omega)])); (try go_simp); (try go_ints)
                                  refine hR _ _ (Ext.refl _) ?_ trivial
                                  rfl
                              case hloc3 =>
                                exact ⟨⟨⟨⟨⟨⟨⟨⟨⟨⟨⟨⟨⟨⟨⟨⟨⟨⟨⟨⟨⟨⟨⟨trivial, (fun γ γ' h => ⟨rfl, fun _ => rfl⟩)⟩, (fun γ γ' h => ⟨rfl, fun _ => rfl⟩)⟩, (fun γ γ' h => ⟨rfl, fun _ => rfl⟩)⟩, (fun γ γ' h => ⟨rfl, fun _ => rfl⟩)⟩, (fun γ γ' h => ⟨rfl, fun _ => rfl⟩)⟩, (fun γ γ' h => ⟨rfl, fun _ => rfl⟩)⟩, (fun γ γ' h => ⟨rfl, fun _ => rfl⟩)⟩, (fun γ γ' h => ⟨rfl, fun _ => rfl⟩)⟩, (fun γ γ' h => ⟨rfl, fun _ => rfl⟩)⟩, (fun γ γ' h => ⟨rfl, fun _ => rfl⟩)⟩, (fun γ γ' h => ⟨rfl, fun _ => rfl⟩)⟩, (fun γ γ' h => ⟨rfl, fun _ => rfl⟩)⟩, (fun γ γ' h => ⟨rfl, fun _ => rfl⟩)⟩, (fun γ γ' h => ⟨rfl, fun _ => rfl⟩)⟩, (fun γ γ' h => ⟨rfl, fun _ => rfl⟩)⟩, (fun γ γ' h => ⟨rfl, fun _ => rfl⟩)⟩, (fun γ γ' h => ⟨rfl, fun _ => rfl⟩)⟩, (fun γ γ' h => ⟨rfl, fun _ => rfl⟩)⟩, (fun γ γ' h => ⟨rfl, fun _ => rfl⟩)⟩, (fun γ γ' h => ⟨rfl, fun _ => rfl⟩)⟩, (fun γ γ' h => ⟨h 20 rfl, fun w' => (congrArg (fun a => IsQ w' (a) (Mc i j0 / Mc j0 j0 * Mc j0 k)) (h 20 rfl))⟩)⟩, (fun γ γ' h => ⟨h 21 rfl, fun w' => (congrArg (fun a => IsQ w' (a) (Mc i k - Mc i j0 / Mc j0 j0 * Mc j0 k)) (h 21 rfl))⟩)⟩, (fun γ γ' h => ⟨rfl, fun _ => rfl⟩)⟩
                              case hmono3 =>
                                exact ⟨⟨⟨⟨⟨⟨⟨⟨⟨⟨⟨⟨⟨⟨⟨⟨⟨⟨⟨⟨⟨⟨⟨trivial, (fun γ wA w' e h => h)⟩, (fun γ wA w' e h => h)⟩, (fun γ wA w' e h => h)⟩, (fun γ wA w' e h => h)⟩, (fun γ wA w' e h => h)⟩, (fun γ wA w' e h => h)⟩, (fun γ wA w' e h => h)⟩, (fun γ wA w' e h => h)⟩, (fun γ wA w' e h => h)⟩, (fun γ wA w' e h => h)⟩, (fun γ wA w' e h => h)⟩, (fun γ wA w' e h => h)⟩, (fun γ wA w' e h => h)⟩, (fun γ wA w' e h => h)⟩, (fun γ wA w' e h => h)⟩, (fun γ wA w' e h => h)⟩, (fun γ wA w' e h => h)⟩, (fun γ wA w' e h => h)⟩, (fun γ wA w' e h => h)⟩, (fun γ wA w' e h => h)⟩, (fun γ wA w' e h => (show IsQ wA (γ 20) (Mc i j0 / Mc j0 j0 * Mc j0 k) from h).ext e)⟩, (fun γ wA w' e h => (show IsQ wA (γ 21) (Mc i k - Mc i j0 / Mc j0 j0 * Mc j0 k) from h).ext e)⟩, (fun γ wA w' e h => h)⟩
                              intro γ w10 hx10 hF
                              have p20 : IsQ w10 (γ 20) (Mc i j0 / Mc j0 j0 * Mc j0 k) := Each.get hF 20 (by decide)
                              have p21 : IsQ w10 (γ 21) (Mc i k - Mc i j0 / Mc j0 j0 * Mc j0 k) := Each.get hF 21 (by decide)
                              clear hF
                              simp only [fillAll, gV, kv, List.getD_cons_zero, List.getD_cons_succ, Act.put, List.setIfInBounds_toArray, List.set_cons_zero, List.set_cons_succ, List.toList_toArray, List.drop_succ_cons, List.drop_zero, List.drop_nil, Nat.zero_add, Nat.reduceAdd]
                              generalize γ 20 = g20 at *
                              generalize γ 21 = g21 at *
                              clear γ
                              clear hdi hdj s0 s1 s2 s3 cet0 cet1 cet2 cet3 fet Hri Hsj p20 HQ
                              replace r0 := hx10.cell r0
                              replace r1 := hx10.cell r1
                              replace r2 := hx10.cell r2
                              replace r3 := hx10.cell r3
                              have eT := (BoxQ.mk et Hqt.out).ext hx10
                              have hmx := Hmx.out.ext hx10
                              replace eb := eb.ext hx10
                              replace ez := ez.ext hx10
                              replace hx := hx.trans hx10
                              have hrf := hmx.rowfrozen hin
                              have Hmx2 := Lib.hid hmx
                              obtain ⟨b5, A5, n5, c5, b6, A6, n6, c6, rfl⟩ := p21.cells
                              have Hp21 := Lib.hid p21
                              clear hx10 Hmx Hqt et hmx p21
                              go_wp2
                              obtain ⟨W11, eW, hmx, U⟩ := Hmx2.out.put hin hkn Hp21.out
                              rw [← eW]
                              have hgi := Hlg.out i hin
                              have hbi := (Hmx2.out.row i hin).1
                              clear eW r0 r1 r2 r3 hrf Hmx2 Hp21
                              replace eb := eb.upd U (by simp <;> omega)
                              replace eT := eT.upd U (by simp <;> omega)
                              replace ez := ez.upd U (by simp <;> omega)
                              replace hx := U.from_ hx (by simp <;> omega)
                              clear U
                              have Hm := Lib.hid hmx; clear hmx
                              go_roundw
                              case rel => exact ⟨k + 1, by omega, by omega, by go_num, by rw [elimIn_succ Mc (by omega) hk1]; exact Hm.out, eb, eT, ez, hx⟩
                              case measure => simp [intOf] <;> omega
                            · obtain rfl : n = k := by omega
                              have Hm := Lib.hid (hmx.congr fun r j _ hj => elimIn_end Mc hj); clear hmx
                              clear et hqt
                              go_wp2
                              go_roundw
                              case rel => exact ⟨i + 1, by omega, by omega, by go_num, Hm.out, eb, ez, hx⟩
                              case measure => simp [intOf] <;> omega
                      · obtain rfl : n = i := by omega
                        have Hm := Lib.hid hmx; clear hmx
                        go_wp2
                        go_roundw
                        case rel => exact ⟨j0 + 1, gs, cs, elimTo j0 n Mc, o * Mc j0 j0, by omega, by go_num, Hm.out, Hlg.out, eb, ez, hx, Lib.hid ⟨by rw [Rat.mul_assoc, ← elim_step Mc hjn HM2.out.2.2.2]; exact HM2.out.1, by rw [HB.out.1]; exact elimTo_qsz HM2.out.2.1 hjn, by
                          have a1 := qsz_mul o (Mc j0 j0)
                          have a2 := HM2.out.2.1 j0 j0 hjn hjn
                          have a3 := HM2.out.2.2.1
                          rw [HB.out.1]; omega⟩⟩
                        case measure => simp [intOf] <;> omega
                  · have hjp : j0 < p := by omega
                    have hd1 := hmx.head hjn
                    have hd2 := hmx.head hpn
                    have fA := hmx.frozen
                    have Hmx := Lib.hid hmx; clear hmx
                    go_wp2_with fail
                    go_region
                    obtain ⟨W6, eW, U, gs2, cs2, hmx2, hg2⟩ := Hmx.out.swap hjn hpn (by omega)
                    rw [← eW]
                    clear eW hd1 hd2 fA Hmx
                    replace eb := (eb.upd U (by simp <;> omega)).ext ((Ext.refl W6).drew)
                    replace ez := (ez.upd U (by simp <;> omega)).ext ((Ext.refl W6).drew)
                    replace hx := (U.from_ hx (by simp <;> omega)).trans ((Ext.refl W6).drew)
                    have hmx := hmx2.ext ((Ext.refl W6).drew)
                    clear hmx2
                    have hlg2 : ∀ i, i < n → gs2 i < gb := fun i hi => by obtain ⟨j, hj, e⟩ := hg2 i hi; rw [e]; exact Hlg.out j hj
                    clear U hg2
                    generalize W6.drew = W7 at *
                    obtain ⟨b7, A7, n7, c7, b8, A8, n8, c8, eb, hbq⟩ := eb
                    have Hb := Lib.hid hbq; have Hmx := Lib.hid hmx; clear hbq hmx
                    obtain ⟨ceb0, ceb1, ceb2, ceb3⟩ := eb.cells4
                    have feb := eb.frozen
                    go_wp2_with fail
                    refine Calls.mono (neg_rq _ o _ (Hb.out.has (by have := HM.out.2.2; have := HB.out.2 j0 hj; omega))) ?_
                    rintro e w8 ⟨r8, rfl, hr8, hx8⟩
                    obtain ⟨b7, A7, n7, c7, b8, A8, n8, c8, rfl⟩ := hr8.cells
                    have hmx := Hmx.out.ext hx8
                    clear ceb0 ceb1 ceb2 ceb3 feb Hb Hmx
                    replace eb := eb.ext hx8
                    replace ez := ez.ext hx8
                    replace hx := hx.trans hx8
                    clear hx8
                    have Hmx := Lib.hid hmx; have Hr8 := Lib.hid hr8; clear hmx hr8
                    obtain ⟨ceb0, ceb1, ceb2, ceb3⟩ := eb.cells4
                    have feb := eb.frozen
                    go_upto_region 18 with (fail)
                    have hmx := Hmx.out
                    obtain ⟨W9, eW, eb', U⟩ := eb.put4 (.bool b7) (.slice A7 n7 c7) (.bool b8) (.slice A8 n8 c8) rfl rfl rfl rfl
                    rw [← eW]
                    clear eW eb ceb0 ceb1 ceb2 ceb3 feb
                    have eb := BoxQ.mk eb' (Hr8.out.kd U.kd)
                    replace hmx := hmx.off U (by omega) (fun i hi => by have := hlg2 i hi; omega)
                    replace ez := ez.upd U (by simp <;> omega)
                    replace hx := U.from_ hx (by simp <;> omega)
                    clear U eb' Hr8 Hmx
                    obtain ⟨Mp, hMp⟩ : ∃ Mp, Mp = swr Mc j0 p := ⟨_, rfl⟩
                    have HM2 := Lib.hid (show -o * det (n - j0) (subm j0 Mp) = D ∧ (∀ i j, i < n → j < n → qsz (Mp i j) + 1 ≤ B j0) ∧ qsz (-o) ≤ B j0 ∧ ¬ Mp j0 j0 = 0 from by
                      refine ⟨?_, fun i j hi hj' => ?_, ?_, ?_⟩
                      · rw [hMp, elim_swap Mc hjp hpn, ← HM.out.1]; grind
                      · rw [hMp]; unfold swr
                        split
                        · exact HM.out.2.1 p j hpn hj'
                        · split
                          · exact HM.out.2.1 j0 j hjn hj'
                          · exact HM.out.2.1 i j hi hj'
                      · rw [qsz_neg]; exact HM.out.2.2
                      · rw [hMp]; unfold swr; rw [if_pos rfl]; exact H0.out)
                    rw [← hMp] at hmx
                    clear hMp H0 HM Hz Hlg hp1 hp2 hpc hjp hpn
                    have Hlg := Lib.hid hlg2; clear hlg2
                    clear b0
                    generalize -o = o2 at *
                    obtain ⟨b3, A3, n3, c3, b4, A4, n4, c4, eb, hbq⟩ := eb
                    have hd0 := hmx.head hjn
                    obtain ⟨b1, A1, m1, c1, b2, A2, m2, c2, q0, q1, q2, q3, hq⟩ := hmx.at_ hjn hjn
                    have Hb := Lib.hid hbq; have Hq := Lib.hid hq; have Hmx := Lib.hid hmx; clear hbq hq hmx
                    obtain ⟨ceb0, ceb1, ceb2, ceb3⟩ := eb.cells4
                    have feb := eb.frozen
                    go_wp2_with fail
                    refine wp_region_par (k := 9) (D := [75, 76, 77, 78, 79, 80, 81, 82, 83]) (T := [[], [], [], [1, 2], [1, 2, 3], [], [1, 2, 3, 4, 5], [1, 2, 3, 4, 5, 6], [0, 1, 2, 3, 4, 5, 6, 7], [0, 1, 2, 3, 4, 5, 6, 7, 8]]) (EK := [5, 3, 6]) (EV := [?e4x0, ?e4x1, ?e4x2]) (VL := [(kv ?v4x0), (kv ?v4x1), (kv ?v4x2), (kv ?v4x3), (kv ?v4x4), (kv ?v4x5), (kv ?v4x6), (kv ?v4x7), (fun γ => γ 8)]) (FL := fun γ w' => [True, True, True, True, True, True, True, True, IsQ w' (γ 8) (o2 * Mp j0 j0)]) ?hE4 (by kernel_rfl) (by kernel_rfl) (by rfl) (by kernel_rfl) ?hloc4 ?hmono4 ?hstep4 ?htail4
                    case hE4 => refine ⟨?_, ?_, ?_, trivial⟩ <;> (simp only [List.getElem?_toArray, List.getElem?_cons_succ, List.getElem?_cons_zero]; rfl)
                    case hstep4 =>
                      refine ⟨⟨⟨⟨⟨⟨⟨⟨⟨trivial, ?_⟩, ?_⟩, ?_⟩, ?_⟩, ?_⟩, ?_⟩, ?_⟩, ?_⟩, ?_⟩
                      · intro γ w' he hf; clear hf; refine ⟨trivial, ?_⟩; intro R hR
                        have hc := he.cells
                        have cq0 := he.cell ceb0
                        have cq1 := he.cell ceb1
                        have cq2 := he.cell ceb2
                        have cq3 := he.cell ceb3
                        have cq4 := he.cell hd0
                        have cq5 := he.cell q0
                        have cq6 := he.cell q1
                        have cq7 := he.cell q2
                        have cq8 := he.cell q3
                        go_simp
                        (try go_ints); (try (rw [if_neg (by omega)])); (try (rw [if_pos (by omega)])); (try go_simp); (try go_ints)
                        refine hR _ _ (Ext.refl _) ?_ trivial
                        rfl
                      · intro γ w' he hf; clear hf; refine ⟨trivial, ?_⟩; intro R hR
                        have hc := he.cells
                        go_simp
                        (try go_ints); (try (rw [if_neg (by omega)])); (try (rw [if_pos (by omega)])); (try go_simp); (try go_ints)
                        refine hR _ _ (Ext.refl _) ?_ trivial
                        rfl
                      · intro γ w' he hf; clear hf; refine ⟨trivial, ?_⟩; intro R hR
                        have hc := he.cells
                        go_simp
                        (try go_ints); (try (rw [if_neg (by omega)])); (try (rw [if_pos (by omega)])); (try go_simp); (try go_ints)
                        refine hR _ _ (Ext.refl _) ?_ trivial
                        rfl
                      · intro γ w' he hf; clear hf; refine ⟨trivial, ?_⟩; intro R hR
                        have hc := he.cells
                        go_simp
                        (try go_ints); (try (rw [if_neg (by omega)])); (try (rw [if_pos (by omega)])); (try go_simp); (try go_ints)
                        refine hR _ _ (Ext.refl _) ?_ trivial
                        rfl
                      · intro γ w' he hf; clear hf; refine ⟨trivial, ?_⟩; intro R hR
                        have hc := he.cells
                        have cq0 := he.cell ceb0
                        have cq1 := he.cell ceb1
                        have cq2 := he.cell ceb2
                        have cq3 := he.cell ceb3
                        have cq4 := he.cell hd0
                        have cq5 := he.cell q0
                        have cq6 := he.cell q1
                        have cq7 := he.cell q2
                        have cq8 := he.cell q3
                        go_simp
                        (try go_ints); (try (rw [if_neg (by omega)])); (try (rw [if_pos (by omega)])); (try go_simp); (try go_ints)
                        refine hR _ _ (Ext.refl _) ?_ trivial
                        rfl
                      · intro γ w' he hf; clear hf; refine ⟨trivial, ?_⟩; intro R hR
                        have hc := he.cells
                        go_simp
                        (try go_ints); (try (rw [if_neg (by omega)])); (try (rw [if_pos (by omega)])); (try go_simp); (try go_ints)
                        refine hR _ _ (Ext.refl _) ?_ trivial
                        rfl
                      · intro γ w' he hf; clear hf; refine ⟨trivial, ?_⟩; intro R hR
                        have hc := he.cells
                        go_simp
                        (try go_ints); (try (rw [if_neg (by omega)])); (try (rw [if_pos (by omega)])); (try go_simp); (try go_ints)
                        refine hR _ _ (Ext.refl _) ?_ trivial
                        rfl
                      · intro γ w' he hf; clear hf; refine ⟨trivial, ?_⟩; intro R hR
                        have hc := he.cells
                        have cq0 := he.cell ceb0
                        have cq1 := he.cell ceb1
                        have cq2 := he.cell ceb2
                        have cq3 := he.cell ceb3
                        have cq4 := he.cell hd0
                        have cq5 := he.cell q0
                        have cq6 := he.cell q1
                        have cq7 := he.cell q2
                        have cq8 := he.cell q3
                        go_simp
                        (try go_ints); (try (rw [if_neg (by omega)])); (try (rw [if_pos (by omega)])); (try go_simp); (try go_ints)
                        refine hR _ _ (Ext.refl _) ?_ trivial
                        rfl
                      · intro γ w' he hf; clear hf; refine ⟨trivial, ?_⟩; intro R hR
                        go_simp
                        refine Calls.mono (show Calls _ _ _ w' (Gives w' fun r w'' => IsQ w'' (r) (o2 * Mp j0 j0)) from mul_rq _ _ _ _ w' ((Hb.out.ext he).has (by have := HM2.out.2.2.1; have := HB.out.2 j0 hj; omega)) ((Hq.out.ext he).has (by have := HM2.out.2.1 j0 j0 hjn hjn; have := HB.out.2 j0 hj; omega))) ?_
                        rintro e w2 ⟨v, rfl, hv, hx⟩
                        exact ⟨v, rfl, hR v w2 hx rfl hv⟩
                    case hloc4 =>
                      exact ⟨⟨⟨⟨⟨⟨⟨⟨⟨trivial, (fun γ γ' h => ⟨rfl, fun _ => rfl⟩)⟩, (fun γ γ' h => ⟨rfl, fun _ => rfl⟩)⟩, (fun γ γ' h => ⟨rfl, fun _ => rfl⟩)⟩, (fun γ γ' h => ⟨rfl, fun _ => rfl⟩)⟩, (fun γ γ' h => ⟨rfl, fun _ => rfl⟩)⟩, (fun γ γ' h => ⟨rfl, fun _ => rfl⟩)⟩, (fun γ γ' h => ⟨rfl, fun _ => rfl⟩)⟩, (fun γ γ' h => ⟨rfl, fun _ => rfl⟩)⟩, (fun γ γ' h => ⟨h 8 rfl, fun w' => (congrArg (fun a => IsQ w' (a) (o2 * Mp j0 j0)) (h 8 rfl))⟩)⟩
                    case hmono4 =>
                      exact ⟨⟨⟨⟨⟨⟨⟨⟨⟨trivial, (fun γ wA w' e h => h)⟩, (fun γ wA w' e h => h)⟩, (fun γ wA w' e h => h)⟩, (fun γ wA w' e h => h)⟩, (fun γ wA w' e h => h)⟩, (fun γ wA w' e h => h)⟩, (fun γ wA w' e h => h)⟩, (fun γ wA w' e h => h)⟩, (fun γ wA w' e h => (show IsQ wA (γ 8) (o2 * Mp j0 j0) from h).ext e)⟩
                    intro γ w7 hx7 hF
                    have p8 : IsQ w7 (γ 8) (o2 * Mp j0 j0) := Each.get hF 8 (by decide)
                    clear hF
                    simp only [fillAll, gV, kv, List.getD_cons_zero, List.getD_cons_succ, Act.put, List.setIfInBounds_toArray, List.set_cons_zero, List.set_cons_succ, List.toList_toArray, List.drop_succ_cons, List.drop_zero, List.drop_nil, Nat.zero_add, Nat.reduceAdd]
                    generalize γ 8 = g8 at *
                    clear γ
                    clear ceb0 ceb1 ceb2 ceb3 feb hd0 q0 q1 q2 q3 Hb Hq
                    have hmx := Hmx.out.ext hx7
                    replace eb := eb.ext hx7
                    replace ez := ez.ext hx7
                    replace hx := hx.trans hx7
                    clear hx7 Hmx
                    obtain ⟨b3, A3, n3, c3, b4, A4, n4, c4, rfl⟩ := p8.cells
                    obtain ⟨ceb0, ceb1, ceb2, ceb3⟩ := eb.cells4
                    have feb := eb.frozen
                    have Hmx := Lib.hid hmx; clear hmx
                    have Hp8 := Lib.hid p8; clear p8
                    go_wp2
                    have hr8 := Hp8.out
                    have hmx := Hmx.out
                    obtain ⟨W7, eW, eb', U⟩ := eb.put4 (.bool b3) (.slice A3 n3 c3) (.bool b4) (.slice A4 n4 c4) rfl rfl rfl rfl
                    rw [← eW]
                    clear eW eb ceb0 ceb1 ceb2 ceb3 feb
                    have eb := BoxQ.mk eb' (hr8.kd U.kd)
                    replace hmx := hmx.off U (by omega) (fun i hi => by have := Hlg.out i hi; omega)
                    replace ez := ez.upd U (by simp <;> omega)
                    replace hx := U.from_ hx (by simp <;> omega)
                    clear U eb' hr8 Hp8 Hmx
                    go_loopw [8] (fun iv wx => ∃ i, j0 + 1 ≤ i ∧ i ≤ n ∧ iv = .int .i64 i ∧ Mx (w.heap.size + 1) gA 95 61 wx n gs2 cs2 (elimTo j0 i Mp) ∧ BoxQ wx gb 61 (o2 * Mp j0 j0) ∧ Box wx w.heap.size 61 #[.bool false, .slice none 0 0, .bool false, .slice none 0 0] ∧ Ext w wx) (fun iv _ => n - (intOf iv).toNat)
                    case atStart => exact ⟨j0 + 1, Nat.le_refl _, by omega, by go_num, by rw [elimTo_start]; exact hmx, eb, ez, hx⟩
                    case round =>
                      clear hmx eb ez hx
                      obtain ⟨i, hi1, hi2, rfl, hmx, eb, ez, hx⟩ := hrel
                      by_cases hin : i < n
                      · have hdi := hmx.head hin
                        have hdj := hmx.head hjn
                        obtain ⟨b1, A1, m1, c1, b2, A2, m2, c2, r0, r1, r2, r3, hri⟩ := hmx.at_ hin hjn
                        obtain ⟨b3, A3, m3, c3, b4, A4, m4, c4, s0, s1, s2, s3, hsj⟩ := hmx.at_ hjn hjn
                        rw [elimTo_at] at hri
                        rw [elimTo_row] at hsj
                        have HT := Lib.hid (elim_qsz (s := B j0) (x := Mp i j0) (y := Mp i j0) (z := Mp j0 j0) (u := Mp j0 j0) (by have := HM2.out.2.1 i j0 hin hjn; omega) (by have := HM2.out.2.1 i j0 hin hjn; omega) (by have := HM2.out.2.1 j0 j0 hjn hjn; omega) (by have := HM2.out.2.1 j0 j0 hjn hjn; omega))
                        have Hri := Lib.hid hri; have Hsj := Lib.hid hsj; have Hmx := Lib.hid hmx; clear hri hsj hmx
                        go_wp2_with fail
                        refine wp_region_par (k := 16) (D := [92, 93, 94, 95, 96, 97, 98, 99, 100, 101, 102, 103, 104, 105, 106, 9]) (T := [[], [], [0, 1], [0, 1, 2], [], [0, 1, 2, 3, 4], [0, 1, 2, 3, 4, 5], [], [], [7, 8], [7, 8, 9], [], [7, 8, 9, 10, 11], [7, 8, 9, 10, 11, 12], [0, 1, 2, 3, 4, 5, 6, 7, 8, 9, 10, 11, 12, 13], [], [0, 1, 2, 3, 4, 5, 6, 7, 8, 9, 10, 11, 12, 13, 14, 15]]) (EK := [3, 8, 6]) (EV := [?e5x0, ?e5x1, ?e5x2]) (VL := [(kv ?v5x0), (kv ?v5x1), (kv ?v5x2), (kv ?v5x3), (kv ?v5x4), (kv ?v5x5), (kv ?v5x6), (kv ?v5x7), (kv ?v5x8), (kv ?v5x9), (kv ?v5x10), (kv ?v5x11), (kv ?v5x12), (kv ?v5x13), (fun γ => γ 14), (fun γ => γ 15)]) (FL := fun γ w' => [True, True, True, True, True, True, True, True, True, True, True, True, True, True, IsQ w' (γ 14) (Mp i j0 / Mp j0 j0), NewAt w' (γ 15) wr.heap.size #[.bool false, .slice none 0 0, .bool false, .slice none 0 0] 61]) ?hE5 (by kernel_rfl) (by kernel_rfl) (by rfl) (by kernel_rfl) ?hloc5 ?hmono5 ?hstep5 ?htail5
                        case hE5 => refine ⟨?_, ?_, ?_, trivial⟩ <;> (simp only [List.getElem?_toArray, List.getElem?_cons_succ, List.getElem?_cons_zero]; rfl)
                        case hstep5 =>
                          refine ⟨⟨⟨⟨⟨⟨⟨⟨⟨⟨⟨⟨⟨⟨⟨⟨trivial, ?_⟩, ?_⟩, ?_⟩, ?_⟩, ?_⟩, ?_⟩, ?_⟩, ?_⟩, ?_⟩, ?_⟩, ?_⟩, ?_⟩, ?_⟩, ?_⟩, ?_⟩, ?_⟩
                          · intro γ w' he hf; clear hf; refine ⟨trivial, ?_⟩; intro R hR
                            have hc := he.cells
                            go_simp
                            (try go_ints); (try (rw [if_neg (by omega)])); (try (rw [if_pos (by omega)])); (try go_simp); (try go_ints)
                            refine hR _ _ (Ext.refl _) ?_ trivial
                            rfl
                          · intro γ w' he hf; clear hf; refine ⟨trivial, ?_⟩; intro R hR
                            have hc := he.cells
                            go_simp
                            (try go_ints); (try (rw [if_neg (by omega)])); (try (rw [if_pos (by omega)])); (try go_simp); (try go_ints)
                            refine hR _ _ (Ext.refl _) ?_ trivial
                            rfl
                          · intro γ w' he hf; clear hf; refine ⟨trivial, ?_⟩; intro R hR
                            have hc := he.cells
                            go_simp
                            (try go_ints); (try (rw [if_neg (by omega)])); (try (rw [if_pos (by omega)])); (try go_simp); (try go_ints)
                            refine hR _ _ (Ext.refl _) ?_ trivial
                            rfl
                          · intro γ w' he hf; clear hf; refine ⟨trivial, ?_⟩; intro R hR
                            have hc := he.cells
                            have cq0 := he.cell hdi
                            have cq1 := he.cell hdj
                            have cq2 := he.cell r0
                            have cq3 := he.cell r1
                            have cq4 := he.cell r2
                            have cq5 := he.cell r3
                            have cq6 := he.cell s0
                            have cq7 := he.cell s1
                            have cq8 := he.cell s2
                            have cq9 := he.cell s3
                            go_simp
                            (try go_ints); (try (rw [if_neg (by omega)])); (try (rw [if_pos (by omega)])); (try go_simp); (try go_ints)
                            refine hR _ _ (Ext.refl _) ?_ trivial
                            rfl
                          · intro γ w' he hf; clear hf; refine ⟨trivial, ?_⟩; intro R hR
                            have hc := he.cells
                            go_simp
                            (try go_ints); (try (rw [if_neg (by omega)])); (try (rw [if_pos (by omega)])); (try go_simp); (try go_ints)
                            refine hR _ _ (Ext.refl _) ?_ trivial
                            rfl
                          · intro γ w' he hf; clear hf; refine ⟨trivial, ?_⟩; intro R hR
                            have hc := he.cells
                            go_simp
                            (try go_ints); (try (rw [if_neg (by omega)])); (try (rw [if_pos (by omega)])); (try go_simp); (try go_ints)
                            refine hR _ _ (Ext.refl _) ?_ trivial
                            rfl
                          · intro γ w' he hf; clear hf; refine ⟨trivial, ?_⟩; intro R hR
                            have hc := he.cells
                            have cq0 := he.cell hdi
                            have cq1 := he.cell hdj
                            have cq2 := he.cell r0
                            have cq3 := he.cell r1
                            have cq4 := he.cell r2
                            have cq5 := he.cell r3
                            have cq6 := he.cell s0
                            have cq7 := he.cell s1
                            have cq8 := he.cell s2
                            have cq9 := he.cell s3
                            go_simp
                            (try go_ints); (try (rw [if_neg (by omega)])); (try (rw [if_pos (by omega)])); (try go_simp); (try go_ints)
                            refine hR _ _ (Ext.refl _) ?_ trivial
                            rfl
                          · intro γ w' he hf; clear hf; refine ⟨trivial, ?_⟩; intro R hR
                            have hc := he.cells
                            go_simp
                            (try go_ints); (try (rw [if_neg (by omega)])); (try (rw [if_pos (by omega)])); (try go_simp); (try go_ints)
                            refine hR _ _ (Ext.refl _) ?_ trivial
                            rfl
                          · intro γ w' he hf; clear hf; refine ⟨trivial, ?_⟩; intro R hR
                            have hc := he.cells
                            go_simp
                            (try go_ints); (try (rw [if_neg (by omega)])); (try (rw [if_pos (by omega)])); (try go_simp); (try go_ints)
                            refine hR _ _ (Ext.refl _) ?_ trivial
                            rfl
                          · intro γ w' he hf; clear hf; refine ⟨trivial, ?_⟩; intro R hR
                            have hc := he.cells
                            go_simp
                            (try go_ints); (try (rw [if_neg (by omega)])); (try (rw [if_pos (by omega)])); (try go_simp); (try go_ints)
                            refine hR _ _ (Ext.refl _) ?_ trivial
                            rfl
                          · intro γ w' he hf; clear hf; refine ⟨trivial, ?_⟩; intro R hR
                            have hc := he.cells
                            have cq0 := he.cell hdi
                            have cq1 := he.cell hdj
                            have cq2 := he.cell r0
                            have cq3 := he.cell r1
                            have cq4 := he.cell r2
                            have cq5 := he.cell r3
                            have cq6 := he.cell s0
                            have cq7 := he.cell s1
                            have cq8 := he.cell s2
                            have cq9 := he.cell s3
                            go_simp
                            (try go_ints); (try (rw [if_neg (by omega)])); (try (rw [if_pos (by omega)])); (try go_simp); (try go_ints)
                            refine hR _ _ (Ext.refl _) ?_ trivial
                            rfl
                          · intro γ w' he hf; clear hf; refine ⟨trivial, ?_⟩; intro R hR
                            have hc := he.cells
                            go_simp
                            (try go_ints); (try (rw [if_neg (by omega)])); (try (rw [if_pos (by omega)])); (try go_simp); (try go_ints)
                            refine hR _ _ (Ext.refl _) ?_ trivial
                            rfl
                          · intro γ w' he hf; clear hf; refine ⟨trivial, ?_⟩; intro R hR
                            have hc := he.cells
                            go_simp
                            (try go_ints); (try (rw [if_neg (by omega)])); (try (rw [if_pos (by omega)])); (try go_simp); (try go_ints)
                            refine hR _ _ (Ext.refl _) ?_ trivial
                            rfl
                          · intro γ w' he hf; clear hf; refine ⟨trivial, ?_⟩; intro R hR
                            have hc := he.cells
                            have cq0 := he.cell hdi
                            have cq1 := he.cell hdj
                            have cq2 := he.cell r0
                            have cq3 := he.cell r1
                            have cq4 := he.cell r2
                            have cq5 := he.cell r3
                            have cq6 := he.cell s0
                            have cq7 := he.cell s1
                            have cq8 := he.cell s2
                            have cq9 := he.cell s3
                            go_simp
                            (try go_ints); (try (rw [if_neg (by omega)])); (try (rw [if_pos (by omega)])); (try go_simp); (try go_ints)
                            refine hR _ _ (Ext.refl _) ?_ trivial
                            rfl
                          · intro γ w' he hf; clear hf; refine ⟨trivial, ?_⟩; intro R hR
                            go_simp
                            refine Calls.mono (show Calls _ _ _ w' (Gives w' fun r w'' => IsQ w'' (r) (Mp i j0 / Mp j0 j0)) from ratio_rq _ _ _ _ w' ((Hri.out.ext he).has (by have := HM2.out.2.1 i j0 hin hjn; have := HB.out.2 j0 hj; omega)) ((Hsj.out.ext he).has (by have := HM2.out.2.1 j0 j0 hjn hjn; have := HB.out.2 j0 hj; omega))) ?_
                            rintro e w2 ⟨v, rfl, hv, hx⟩
                            exact ⟨v, rfl, hR v w2 hx rfl hv⟩
                          · intro γ w' he hf; clear hf; refine ⟨trivial, ?_⟩; intro R hR
                            go_simp
                            exact hR _ _ ((Ext.refl _).alloc _) rfl (NewAt.mk (Nat.le_trans (by simp) he.size) (by simp [isDig]))
                        case hloc5 =>
                          exact ⟨⟨⟨⟨⟨⟨⟨⟨⟨⟨⟨⟨⟨⟨⟨⟨trivial, (fun γ γ' h => ⟨rfl, fun _ => rfl⟩)⟩, (fun γ γ' h => ⟨rfl, fun _ => rfl⟩)⟩, (fun γ γ' h => ⟨rfl, fun _ => rfl⟩)⟩, (fun γ γ' h => ⟨rfl, fun _ => rfl⟩)⟩, (fun γ γ' h => ⟨rfl, fun _ => rfl⟩)⟩, (fun γ γ' h => ⟨rfl, fun _ => rfl⟩)⟩, (fun γ γ' h => ⟨rfl, fun _ => rfl⟩)⟩, (fun γ γ' h => ⟨rfl, fun _ => rfl⟩)⟩, (fun γ γ' h => ⟨rfl, fun _ => rfl⟩)⟩, (fun γ γ' h => ⟨rfl, fun _ => rfl⟩)⟩, (fun γ γ' h => ⟨rfl, fun _ => rfl⟩)⟩, (fun γ γ' h => ⟨rfl, fun _ => rfl⟩)⟩, (fun γ γ' h => ⟨rfl, fun _ => rfl⟩)⟩, (fun γ γ' h => ⟨rfl, fun _ => rfl⟩)⟩, (fun γ γ' h => ⟨h 14 rfl, fun w' => (congrArg (fun a => IsQ w' (a) (Mp i j0 / Mp j0 j0)) (h 14 rfl))⟩)⟩, (fun γ γ' h => ⟨h 15 rfl, fun w' => (congrArg (fun a => NewAt w' (a) wr.heap.size #[.bool false, .slice none 0 0, .bool false, .slice none 0 0] 61) (h 15 rfl))⟩)⟩
                        case hmono5 =>
                          exact ⟨⟨⟨⟨⟨⟨⟨⟨⟨⟨⟨⟨⟨⟨⟨⟨trivial, (fun γ wA w' e h => h)⟩, (fun γ wA w' e h => h)⟩, (fun γ wA w' e h => h)⟩, (fun γ wA w' e h => h)⟩, (fun γ wA w' e h => h)⟩, (fun γ wA w' e h => h)⟩, (fun γ wA w' e h => h)⟩, (fun γ wA w' e h => h)⟩, (fun γ wA w' e h => h)⟩, (fun γ wA w' e h => h)⟩, (fun γ wA w' e h => h)⟩, (fun γ wA w' e h => h)⟩, (fun γ wA w' e h => h)⟩, (fun γ wA w' e h => h)⟩, (fun γ wA w' e h => (show IsQ wA (γ 14) (Mp i j0 / Mp j0 j0) from h).ext e)⟩, (fun γ wA w' e h => (show NewAt wA (γ 15) wr.heap.size #[.bool false, .slice none 0 0, .bool false, .slice none 0 0] 61 from h).ext e)⟩
                        intro γ w8 hx8 hF
                        have p14 : IsQ w8 (γ 14) (Mp i j0 / Mp j0 j0) := Each.get hF 14 (by decide)
                        have p15 : NewAt w8 (γ 15) wr.heap.size #[.bool false, .slice none 0 0, .bool false, .slice none 0 0] 61 := Each.get hF 15 (by decide)
                        clear hF
                        simp only [fillAll, gV, kv, List.getD_cons_zero, List.getD_cons_succ, Act.put, List.setIfInBounds_toArray, List.set_cons_zero, List.set_cons_succ, List.toList_toArray, List.drop_succ_cons, List.drop_zero, List.drop_nil, Nat.zero_add, Nat.reduceAdd]
                        generalize γ 14 = g14 at *
                        generalize γ 15 = g15 at *
                        clear γ
                        clear hdi hdj r0 r1 r2 r3 s0 s1 s2 s3 Hri Hsj
                        obtain ⟨b7, A7, n7, c7, b8, A8, n8, c8, rfl⟩ := p14.cells
                        obtain ⟨gt, rfl, hgt, et⟩ := p15
                        have hbt : gb < gt := Nat.lt_of_lt_of_le eb.lt hgt
                        have hmx := Hmx.out.ext hx8
                        replace eb := eb.ext hx8
                        replace ez := ez.ext hx8
                        replace hx := hx.trans hx8
                        have Hmx2 := Lib.hid hmx; have Hp14 := Lib.hid p14
                        clear hx8 Hmx p14 hmx
                        obtain ⟨cet0, cet1, cet2, cet3⟩ := et.cells4
                        have fet := et.frozen
                        go_upto_region 23 with (fail)
                        have hmx := Hmx2.out
                        have p14 := Hp14.out
                        obtain ⟨W9, eW, et', U⟩ := et.put4 (.bool b7) (.slice A7 n7 c7) (.bool b8) (.slice A8 n8 c8) rfl rfl rfl rfl
                        rw [← eW]
                        clear eW et cet0 cet1 cet2 cet3 fet
                        have Ht := Lib.hid (p14.kd U.kd)
                        replace hmx := hmx.off U (by omega) (fun i hi => by have := Hlg.out i hi; omega)
                        replace eb := eb.upd U (by simp <;> omega)
                        replace ez := ez.upd U (by simp <;> omega)
                        replace hx := U.from_ hx (by simp <;> omega)
                        have et := et'
                        clear U et' p14 Hmx2 Hp14 hgt
                        have Hmx2 := Lib.hid hmx; clear hmx
                        obtain ⟨cet0, cet1, cet2, cet3⟩ := et.cells4
                        have fet := et.frozen
                        go_wp2_with fail
                        refine Calls.mono (sign_rq _ (Mp i j0 / Mp j0 j0) _ (Ht.out.has (by have := HT.out.1; have := HB.out.2 j0 hj; omega))) ?_
                        rintro e w9 ⟨r9, rfl, rfl, hx9⟩
                        have hmx := Hmx2.out.ext hx9
                        have eT := (BoxQ.mk et Ht.out).ext hx9
                        replace eb := eb.ext hx9
                        replace ez := ez.ext hx9
                        replace hx := hx.trans hx9
                        clear cet0 cet1 cet2 cet3 fet Ht Hmx2 hx9 et
                        by_cases ht : Mp i j0 / Mp j0 j0 = 0
                        · have bt := sgn_b1 ht
                          have HT0 := Lib.hid ht; clear ht
                          go_wp2
                          go_roundw
                          case rel => exact ⟨i + 1, by omega, by omega, by go_num, by rw [elimTo_skip _ HT0.out]; exact hmx, eb, ez, hx⟩
                          case measure => simp [intOf] <;> omega
                        · have bt := sgn_b0 ht
                          clear ht
                          go_wp2
                          go_loopw [10] (fun kv wy => ∃ k, j0 ≤ k ∧ k ≤ n ∧ kv = .int .i64 k ∧ Mx (w.heap.size + 1) gA 95 61 wy n gs2 cs2 (elimIn j0 i k Mp) ∧ BoxQ wy gb 61 (o2 * Mp j0 j0) ∧ BoxQ wy gt 61 (Mp i j0 / Mp j0 j0) ∧ Box wy w.heap.size 61 #[.bool false, .slice none 0 0, .bool false, .slice none 0 0] ∧ Ext w wy) (fun kv _ => n - (intOf kv).toNat)
                          case atStart => exact ⟨j0, Nat.le_refl _, hj, rfl, by rw [elimIn_start]; exact hmx, eb, eT, ez, hx⟩
                          case round =>
                            clear hmx eb eT ez hx
                            obtain ⟨k, hk1, hk2, rfl, hmx, eb, ⟨b7, A7, n7, c7, b8, A8, n8, c8, et, hqt⟩, ez, hx⟩ := hrel
                            by_cases hkn : k < n
                            · have hdi := hmx.head hin
                              have hdj := hmx.head hjn
                              obtain ⟨b1, A1, m1, c1, b2, A2, m2, c2, r0, r1, r2, r3, hri⟩ := hmx.at_ hin hkn
                              obtain ⟨b3, A3, m3, c3, b4, A4, m4, c4, s0, s1, s2, s3, hsj⟩ := hmx.at_ hjn hkn
                              rw [elimIn_at] at hri
                              rw [elimIn_row] at hsj
                              have HQ := Lib.hid (show qsz (Mp i k) ≤ 17179869184 ∧ qsz (Mp j0 k) ≤ 17179869184 ∧ qsz (Mp i j0 / Mp j0 j0) ≤ 2 * 17179869184 ∧ qsz (Mp i j0 / Mp j0 j0 * Mp j0 k) ≤ 3 * 17179869184 from by
                                have a1 := HM2.out.2.1 i k hin hkn
                                have a2 := HM2.out.2.1 i j0 hin hjn
                                have a3 := HM2.out.2.1 j0 j0 hjn hjn
                                have a4 := HM2.out.2.1 j0 k hjn hkn
                                have a5 := HB.out.2 j0 hj
                                have a6 := elim_qsz (s := B j0) (x := Mp i k) (y := Mp i j0) (z := Mp j0 j0) (u := Mp j0 k) (by omega) (by omega) (by omega) (by omega)
                                omega)
                              have Hri := Lib.hid hri; have Hsj := Lib.hid hsj; have Hmx := Lib.hid hmx; have Hqt := Lib.hid hqt; clear hri hsj hmx hqt
                              obtain ⟨cet0, cet1, cet2, cet3⟩ := et.cells4
                              have fet := et.frozen
                              go_wp2_with fail
                              refine wp_region_par (k := 23) (D := [117, 118, 119, 120, 121, 122, 123, 124, 125, 126, 127, 128, 129, 130, 131, 132, 133, 134, 135, 136, 137, 138, 139]) (T := [[], [], [0, 1], [0, 1, 2], [], [], [], [5, 6], [5, 6, 7], [], [5, 6, 7, 8, 9], [5, 6, 7, 8, 9, 10], [], [], [], [13, 14], [13, 14, 15], [], [13, 14, 15, 16, 17], [13, 14, 15, 16, 17, 18], [12, 13, 14, 15, 16, 17, 18, 19], [5, 6, 7, 8, 9, 10, 11, 12, 13, 14, 15, 16, 17, 18, 19, 20], [0, 1, 2, 3, 4, 5, 6, 7, 8, 9, 10, 11, 12, 13, 14, 15, 16, 17, 18, 19, 20, 21], [0, 1, 2, 3, 4, 5, 6, 7, 8, 9, 10, 11, 12, 13, 14, 15, 16, 17, 18, 19, 20, 21, 22]]) (EK := [3, 8, 10, 9, 6]) (EV := [?e6x0, ?e6x1, ?e6x2, ?e6x3, ?e6x4]) (VL := [(kv ?v6x0), (kv ?v6x1), (kv ?v6x2), (kv ?v6x3), (kv ?v6x4), (kv ?v6x5), (kv ?v6x6), (kv ?v6x7), (kv ?v6x8), (kv ?v6x9), (kv ?v6x10), (kv ?v6x11), (kv ?v6x12), (kv ?v6x13), (kv ?v6x14), (kv ?v6x15), (kv ?v6x16), (kv ?v6x17), (kv ?v6x18), (kv ?v6x19), (fun γ => γ 20), (fun γ => γ 21), (kv ?v6x22)]) (FL := fun γ w' => [True, True, True, True, True, True, True, True, True, True, True, True, True, True, True, True, True, True, True, True, IsQ w' (γ 20) (Mp i j0 / Mp j0 j0 * Mp j0 k), IsQ w' (γ 21) (Mp i k - Mp i j0 / Mp j0 j0 * Mp j0 k), True]) ?hE6 (by kernel_rfl) (by kernel_rfl) (by rfl) (by kernel_rfl) ?hloc6 ?hmono6 ?hstep6 ?htail6
                              case hE6 => refine ⟨?_, ?_, ?_, ?_, ?_, trivial⟩ <;> (simp only [List.getElem?_toArray, List.getElem?_cons_succ, List.getElem?_cons_zero]; rfl)
                              case hstep6 =>
                                refine ⟨⟨⟨⟨⟨⟨⟨⟨⟨⟨⟨⟨⟨⟨⟨⟨⟨⟨⟨⟨⟨⟨⟨trivial, ?_⟩, ?_⟩, ?_⟩, ?_⟩, ?_⟩, ?_⟩, ?_⟩, ?_⟩, ?_⟩, ?_⟩, ?_⟩, ?_⟩, ?_⟩, ?_⟩, ?_⟩, ?_⟩, ?_⟩, ?_⟩, ?_⟩, ?_⟩, ?_⟩, ?_⟩, ?_⟩
                                · intro γ w' he hf; clear hf; refine ⟨trivial, ?_⟩; intro R hR
                                  have hc := he.cells
                                  go_simp
                                  (try go_ints); (try (rw [if_neg (by omega)])); (try (rw [if_pos (by omega)])); (try go_simp); (try go_ints)
                                  refine hR _ _ (Ext.refl _) ?_ trivial
                                  rfl
                                · intro γ w' he hf; clear hf; refine ⟨trivial, ?_⟩; intro R hR
                                  have hc := he.cells
                                  go_simp
                                  (try go_ints); (try (rw [if_neg (by omega)])); (try (rw [if_pos (by omega)])); (try go_simp); (try go_ints)
                                  refine hR _ _ (Ext.refl _) ?_ trivial
                                  rfl
                                · intro γ w' he hf; clear hf; refine ⟨trivial, ?_⟩; intro R hR
                                  have hc := he.cells
                                  go_simp
                                  (try go_ints); (try (rw [if_neg (by omega)])); (try (rw [if_pos (by omega)])); (try go_simp); (try go_ints)
                                  refine hR _ _ (Ext.refl _) ?_ trivial
                                  rfl
                                · intro γ w' he hf; clear hf; refine ⟨trivial, ?_⟩; intro R hR
                                  have hc := he.cells
                                  have cq0 := he.cell hdi
                                  have cq1 := he.cell hdj
                                  have cq2 := he.cell r0
                                  have cq3 := he.cell r1
                                  have cq4 := he.cell r2
                                  have cq5 := he.cell r3
                                  have cq6 := he.cell s0
                                  have cq7 := he.cell s1
                                  have cq8 := he.cell s2
                                  have cq9 := he.cell s3
                                  have cq10 := he.cell cet0
                                  have cq11 := he.cell cet1
                                  have cq12 := he.cell cet2
                                  have cq13 := he.cell cet3
                                  go_simp
                                  (try go_ints); (try (rw [if_neg (by omega)])); (try (rw [if_pos (by omega)])); (try go_simp); (try go_ints)
                                  refine hR _ _ (Ext.refl _) ?_ trivial
                                  rfl
                                · intro γ w' he hf; clear hf; refine ⟨trivial, ?_⟩; intro R hR
                                  have hc := he.cells
                                  go_simp
                                  (try go_ints); (try (rw [if_neg (by omega)])); (try (rw [if_pos (by omega)])); (try go_simp); (try go_ints)
                                  refine hR _ _ (Ext.refl _) ?_ trivial
                                  rfl
                                · intro γ w' he hf; clear hf; refine ⟨trivial, ?_⟩; intro R hR
                                  have hc := he.cells
                                  go_simp
                                  (try go_ints); (try (rw [if_neg (by omega)])); (try (rw [if_pos (by omega)])); (try go_simp); (try go_ints)
                                  refine hR _ _ (Ext.refl _) ?_ trivial
                                  rfl
                                · intro γ w' he hf; clear hf; refine ⟨trivial, ?_⟩; intro R hR
                                  have hc := he.cells
                                  go_simp
                                  (try go_ints); (try (rw [if_neg (by omega)])); (try (rw [if_pos (by omega)])); (try go_simp); (try go_ints)
                                  refine hR _ _ (Ext.refl _) ?_ trivial
                                  rfl
                                · intro γ w' he hf; clear hf; refine ⟨trivial, ?_⟩; intro R hR
                                  have hc := he.cells
                                  go_simp
                                  (try go_ints); (try (rw [if_neg (by omega)])); (try (rw [if_pos (by omega)])); (try go_simp); (try go_ints)
                                  refine hR _ _ (Ext.refl _) ?_ trivial
                                  rfl
                                · intro γ w' he hf; clear hf; refine ⟨trivial, ?_⟩; intro R hR
                                  have hc := he.cells
                                  have cq0 := he.cell hdi
                                  have cq1 := he.cell hdj
                                  have cq2 := he.cell r0
                                  have cq3 := he.cell r1
                                  have cq4 := he.cell r2
                                  have cq5 := he.cell r3
                                  have cq6 := he.cell s0
                                  have cq7 := he.cell s1
                                  have cq8 := he.cell s2
                                  have cq9 := he.cell s3
                                  have cq10 := he.cell cet0
                                  have cq11 := he.cell cet1
                                  have cq12 := he.cell cet2
                                  have cq13 := he.cell cet3
                                  go_simp
                                  (try go_ints); (try (rw [if_neg (by omega)])); (try (rw [if_pos (by omega)])); (try go_simp); (try go_ints)
                                  refine hR _ _ (Ext.refl _) ?_ trivial
                                  rfl
                                · intro γ w' he hf; clear hf; refine ⟨trivial, ?_⟩; intro R hR
                                  have hc := he.cells
                                  go_simp
                                  (try go_ints); (try (rw [if_neg (by omega)])); (try (rw [if_pos (by omega)])); (try go_simp); (try go_ints)
                                  refine hR _ _ (Ext.refl _) ?_ trivial
                                  rfl
                                · intro γ w' he hf; clear hf; refine ⟨trivial, ?_⟩; intro R hR
                                  have hc := he.cells
                                  go_simp
                                  (try go_ints); (try (rw [if_neg (by omega)])); (try (rw [if_pos (by omega)])); (try go_simp); (try go_ints)
                                  refine hR _ _ (Ext.refl _) ?_ trivial
                                  rfl
                                · intro γ w' he hf; clear hf; refine ⟨trivial, ?_⟩; intro R hR
                                  have hc := he.cells
                                  have cq0 := he.cell hdi
                                  have cq1 := he.cell hdj
                                  have cq2 := he.cell r0
                                  have cq3 := he.cell r1
                                  have cq4 := he.cell r2
                                  have cq5 := he.cell r3
                                  have cq6 := he.cell s0
                                  have cq7 := he.cell s1
                                  have cq8 := he.cell s2
                                  have cq9 := he.cell s3
                                  have cq10 := he.cell cet0
                                  have cq11 := he.cell cet1
                                  have cq12 := he.cell cet2
                                  have cq13 := he.cell cet3
                                  go_simp
                                  (try go_ints); (try (rw [if_neg (by omega)])); (try (rw [if_pos (by omega)])); (try go_simp); (try go_ints)
                                  refine hR _ _ (Ext.refl _) ?_ trivial
                                  rfl
                                · intro γ w' he hf; clear hf; refine ⟨trivial, ?_⟩; intro R hR
                                  have hc := he.cells
                                  have cq0 := he.cell hdi
                                  have cq1 := he.cell hdj
                                  have cq2 := he.cell r0
                                  have cq3 := he.cell r1
                                  have cq4 := he.cell r2
                                  have cq5 := he.cell r3
                                  have cq6 := he.cell s0
                                  have cq7 := he.cell s1
                                  have cq8 := he.cell s2
                                  have cq9 := he.cell s3
                                  have cq10 := he.cell cet0
                                  have cq11 := he.cell cet1
                                  have cq12 := he.cell cet2
                                  have cq13 := he.cell cet3
                                  go_simp
                                  (try go_ints); (try (rw [if_neg (by omega)])); (try (rw [if_pos (by omega)])); (try go_simp); (try go_ints)
                                  refine hR _ _ (Ext.refl _) ?_ trivial
                                  rfl
                                · intro γ w' he hf; clear hf; refine ⟨trivial, ?_⟩; intro R hR
                                  have hc := he.cells
                                  go_simp
                                  (try go_ints); (try (rw [if_neg (by omega)])); (try (rw [if_pos (by omega)])); (try go_simp); (try go_ints)
                                  refine hR _ _ (Ext.refl _) ?_ trivial
                                  rfl
                                · intro γ w' he hf; clear hf; refine ⟨trivial, ?_⟩; intro R hR
                                  have hc := he.cells
                                  go_simp
                                  (try go_ints); (try (rw [if_neg (by omega)])); (try (rw [if_pos (by omega)])); (try go_simp); (try go_ints)
                                  refine hR _ _ (Ext.refl _) ?_ trivial
                                  rfl
                                · intro γ w' he hf; clear hf; refine ⟨trivial, ?_⟩; intro R hR
                                  have hc := he.cells
                                  go_simp
                                  (try go_ints); (try (rw [if_neg (by omega)])); (try (rw [if_pos (by omega)])); (try go_simp); (try go_ints)
                                  refine hR _ _ (Ext.refl _) ?_ trivial
                                  rfl
                                · intro γ w' he hf; clear hf; refine ⟨trivial, ?_⟩; intro R hR
                                  have hc := he.cells
                                  have cq0 := he.cell hdi
                                  have cq1 := he.cell hdj
                                  have cq2 := he.cell r0
                                  have cq3 := he.cell r1
                                  have cq4 := he.cell r2
                                  have cq5 := he.cell r3
                                  have cq6 := he.cell s0
                                  have cq7 := he.cell s1
                                  have cq8 := he.cell s2
                                  have cq9 := he.cell s3
                                  have cq10 := he.cell cet0
                                  have cq11 := he.cell cet1
                                  have cq12 := he.cell cet2
                                  have cq13 := he.cell cet3
                                  go_simp
                                  (try go_ints); (try (rw [if_neg (by omega)])); (try (rw [if_pos (by omega)])); (try go_simp); (try go_ints)
                                  refine hR _ _ (Ext.refl _) ?_ trivial
                                  rfl
                                · intro γ w' he hf; clear hf; refine ⟨trivial, ?_⟩; intro R hR
                                  have hc := he.cells
                                  go_simp
                                  (try go_ints); (try (rw [if_neg (by omega)])); (try (rw [if_pos (by omega)])); (try go_simp); (try go_ints)
                                  refine hR _ _ (Ext.refl _) ?_ trivial
                                  rfl
                                · intro γ w' he hf; clear hf; refine ⟨trivial, ?_⟩; intro R hR
                                  have hc := he.cells
                                  go_simp
                                  (try go_ints); (try (rw [if_neg (by omega)])); (try (rw [if_pos (by omega)])); (try go_simp); (try go_ints)
                                  refine hR _ _ (Ext.refl _) ?_ trivial
                                  rfl
                                · intro γ w' he hf; clear hf; refine ⟨trivial, ?_⟩; intro R hR
                                  have hc := he.cells
                                  have cq0 := he.cell hdi
                                  have cq1 := he.cell hdj
                                  have cq2 := he.cell r0
                                  have cq3 := he.cell r1
                                  have cq4 := he.cell r2
                                  have cq5 := he.cell r3
                                  have cq6 := he.cell s0
                                  have cq7 := he.cell s1
                                  have cq8 := he.cell s2
                                  have cq9 := he.cell s3
                                  have cq10 := he.cell cet0
                                  have cq11 := he.cell cet1
                                  have cq12 := he.cell cet2
                                  have cq13 := he.cell cet3
                                  go_simp
                                  (try go_ints); (try (rw [if_neg (by omega)])); (try (rw [if_pos (by omega)])); (try go_simp); (try go_ints)
                                  refine hR _ _ (Ext.refl _) ?_ trivial
                                  rfl
                                · intro γ w' he hf; clear hf; refine ⟨trivial, ?_⟩; intro R hR
                                  go_simp
                                  refine Calls.mono (show Calls _ _ _ w' (Gives w' fun r w'' => IsQ w'' (r) (Mp i j0 / Mp j0 j0 * Mp j0 k)) from mul_rq _ _ _ _ w' ((Hqt.out.ext he).has (by have := HQ.out.2.2.1; omega)) ((Hsj.out.ext he).has (by have := HQ.out.2.1; omega))) ?_
                                  rintro e w2 ⟨v, rfl, hv, hx⟩
                                  exact ⟨v, rfl, hR v w2 hx rfl hv⟩
                                · intro γ w' he hf; have f20 : IsQ w' (γ 20) (Mp i j0 / Mp j0 j0 * Mp j0 k) := hf 20 (by decide); clear hf; refine ⟨trivial, ?_⟩; intro R hR
                                  go_simp
                                  refine Calls.mono (show Calls _ _ _ w' (Gives w' fun r w'' => IsQ w'' (r) (Mp i k - Mp i j0 / Mp j0 j0 * Mp j0 k)) from sub_rq _ _ _ _ w' ((Hri.out.ext he).has (by have := HQ.out.1; omega)) (f20.has (by have := HQ.out.2.2.2; omega)) (by have := HQ.out.1; have := HQ.out.2.2.2; omega)) ?_
                                  rintro e w2 ⟨v, rfl, hv, hx⟩
                                  exact ⟨v, rfl, hR v w2 hx rfl hv⟩
                                · intro γ w' he hf; have f20 : IsQ w' (γ 20) (Mp i j0 / Mp j0 j0 * Mp j0 k) := hf 20 (by decide); have f21 : IsQ w' (γ 21) (Mp i k - Mp i j0 / Mp j0 j0 * Mp j0 k) := hf 21 (by decide); clear hf; refine ⟨trivial, ?_⟩; intro R hR
                                  have hc := he.cells
                                  go_simp
                                  (try go_ints); (try (rw [if_neg (by omega)])); (try (rw [if_pos (by omega)])); (try go_simp); (try go_ints)
                                  refine hR _ _ (Ext.refl _) ?_ trivial
                                  rfl
                              case hloc6 =>
                                exact ⟨⟨⟨⟨⟨⟨⟨⟨⟨⟨⟨⟨⟨⟨⟨⟨⟨⟨⟨⟨⟨⟨⟨trivial, (fun γ γ' h => ⟨rfl, fun _ => rfl⟩)⟩, (fun γ γ' h => ⟨rfl, fun _ => rfl⟩)⟩, (fun γ γ' h => ⟨rfl, fun _ => rfl⟩)⟩, (fun γ γ' h => ⟨rfl, fun _ => rfl⟩)⟩, (fun γ γ' h => ⟨rfl, fun _ => rfl⟩)⟩, (fun γ γ' h => ⟨rfl, fun _ => rfl⟩)⟩, (fun γ γ' h => ⟨rfl, fun _ => rfl⟩)⟩, (fun γ γ' h => ⟨rfl, fun _ => rfl⟩)⟩, (fun γ γ' h => ⟨rfl, fun _ => rfl⟩)⟩, (fun γ γ' h => ⟨rfl, fun _ => rfl⟩)⟩, (fun γ γ' h => ⟨rfl, fun _ => rfl⟩)⟩, (fun γ γ' h => ⟨rfl, fun _ => rfl⟩)⟩, (fun γ γ' h => ⟨rfl, fun _ => rfl⟩)⟩, (fun γ γ' h => ⟨rfl, fun _ => rfl⟩)⟩, (fun γ γ' h => ⟨rfl, fun _ => rfl⟩)⟩, (fun γ γ' h => ⟨rfl, fun _ => rfl⟩)⟩, (fun γ γ' h => ⟨rfl, fun _ => rfl⟩)⟩, (fun γ γ' h => ⟨rfl, fun _ => rfl⟩)⟩, (fun γ γ' h => ⟨rfl, fun _ => rfl⟩)⟩, (fun γ γ' h => ⟨rfl, fun _ => rfl⟩)⟩, (fun γ γ' h => ⟨h 20 rfl, fun w' => (congrArg (fun a => IsQ w' (a) (Mp i j0 / Mp j0 j0 * Mp j0 k)) (h 20 rfl))⟩)⟩, (fun γ γ' h => ⟨h 21 rfl, fun w' => (congrArg (fun a => IsQ w' (a) (Mp i k - Mp i j0 / Mp j0 j0 * Mp j0 k)) (h 21 rfl))⟩)⟩, (fun γ γ' h => ⟨rfl, fun _ => rfl⟩)⟩
                              case hmono6 =>
                                exact ⟨⟨⟨⟨⟨⟨⟨⟨⟨⟨⟨⟨⟨⟨⟨⟨⟨⟨⟨⟨⟨⟨⟨trivial, (fun γ wA w' e h => h)⟩, (fun γ wA w' e h => h)⟩, (fun γ wA w' e h => h)⟩, (fun γ wA w' e h => h)⟩, (fun γ wA w' e h => h)⟩, (fun γ wA w' e h => h)⟩, (fun γ wA w' e h => h)⟩, (fun γ wA w' e h => h)⟩, (fun γ wA w' e h => h)⟩, (fun γ wA w' e h => h)⟩, (fun γ wA w' e h => h)⟩, (fun γ wA w' e h => h)⟩, (fun γ wA w' e h => h)⟩, (fun γ wA w' e h => h)⟩, (fun γ wA w' e h => h)⟩, (fun γ wA w' e h => h)⟩, (fun γ wA w' e h => h)⟩, (fun γ wA w' e h => h)⟩, (fun γ wA w' e h => h)⟩, (fun γ wA w' e h => h)⟩, (fun γ wA w' e h => (show IsQ wA (γ 20) (Mp i j0 / Mp j0 j0 * Mp j0 k) from h).ext e)⟩, (fun γ wA w' e h => (show IsQ wA (γ 21) (Mp i k - Mp i j0 / Mp j0 j0 * Mp j0 k) from h).ext e)⟩, (fun γ wA w' e h => h)⟩
                              intro γ w10 hx10 hF
                              have p20 : IsQ w10 (γ 20) (Mp i j0 / Mp j0 j0 * Mp j0 k) := Each.get hF 20 (by decide)
                              have p21 : IsQ w10 (γ 21) (Mp i k - Mp i j0 / Mp j0 j0 * Mp j0 k) := Each.get hF 21 (by decide)
                              clear hF
                              simp only [fillAll, gV, kv, List.getD_cons_zero, List.getD_cons_succ, Act.put, List.setIfInBounds_toArray, List.set_cons_zero, List.set_cons_succ, List.toList_toArray, List.drop_succ_cons, List.drop_zero, List.drop_nil, Nat.zero_add, Nat.reduceAdd]
                              generalize γ 20 = g20 at *
                              generalize γ 21 = g21 at *
                              clear γ
                              clear hdi hdj s0 s1 s2 s3 cet0 cet1 cet2 cet3 fet Hri Hsj p20 HQ
                              replace r0 := hx10.cell r0
                              replace r1 := hx10.cell r1
                              replace r2 := hx10.cell r2
                              replace r3 := hx10.cell r3
                              have eT := (BoxQ.mk et Hqt.out).ext hx10
                              have hmx := Hmx.out.ext hx10
                              replace eb := eb.ext hx10
                              replace ez := ez.ext hx10
                              replace hx := hx.trans hx10
                              have hrf := hmx.rowfrozen hin
                              have Hmx2 := Lib.hid hmx
                              obtain ⟨b5, A5, n5, c5, b6, A6, n6, c6, rfl⟩ := p21.cells
                              have Hp21 := Lib.hid p21
                              clear hx10 Hmx Hqt et hmx p21
                              go_wp2
                              obtain ⟨W11, eW, hmx, U⟩ := Hmx2.out.put hin hkn Hp21.out
                              rw [← eW]
                              have hgi := Hlg.out i hin
                              have hbi := (Hmx2.out.row i hin).1
                              clear eW r0 r1 r2 r3 hrf Hmx2 Hp21
                              replace eb := eb.upd U (by simp <;> omega)
                              replace eT := eT.upd U (by simp <;> omega)
                              replace ez := ez.upd U (by simp <;> omega)
                              replace hx := U.from_ hx (by simp <;> omega)
                              clear U
                              have Hm := Lib.hid hmx; clear hmx
                              go_roundw
                              case rel => exact ⟨k + 1, by omega, by omega, by go_num, by rw [elimIn_succ Mp (by omega) hk1]; exact Hm.out, eb, eT, ez, hx⟩
                              case measure => simp [intOf] <;> omega
                            · obtain rfl : n = k := by omega
                              have Hm := Lib.hid (hmx.congr fun r j _ hj => elimIn_end Mp hj); clear hmx
                              clear et hqt
                              go_wp2
                              go_roundw
                              case rel => exact ⟨i + 1, by omega, by omega, by go_num, Hm.out, eb, ez, hx⟩
                              case measure => simp [intOf] <;> omega
                      · obtain rfl : n = i := by omega
                        have Hm := Lib.hid hmx; clear hmx
                        go_wp2
                        go_roundw
                        case rel => exact ⟨j0 + 1, gs2, cs2, elimTo j0 n Mp, o2 * Mp j0 j0, by omega, by go_num, Hm.out, Hlg.out, eb, ez, hx, Lib.hid ⟨by rw [Rat.mul_assoc, ← elim_step Mp hjn HM2.out.2.2.2]; exact HM2.out.1, by rw [HB.out.1]; exact elimTo_qsz HM2.out.2.1 hjn, by
                          have a1 := qsz_mul o2 (Mp j0 j0)
                          have a2 := HM2.out.2.1 j0 j0 hjn hjn
                          have a3 := HM2.out.2.2.1
                          rw [HB.out.1]; omega⟩⟩
                        case measure => simp [intOf] <;> omega
              · obtain rfl : n = p := by omega
                have e1 : D = ((0 : Int) : Rat) := by rw [← HM.out.1, elim_zero hjn Hz.out]; exact Rat.mul_zero _
                have E1 := Lib.hid e1; clear e1
                go_wp2_with fail
                refine Calls.mono (of_rq 0 _ (by omega) (by omega)) ?_
                rintro e w6 ⟨r6, rfl, hr, hx6⟩
                obtain ⟨b7, A7, n7, c7, b8, A8, n8, c8, rfl⟩ := hr.cells
                replace ez := ez.ext hx6
                replace hx := hx.trans hx6
                clear hx6 hmx eb
                obtain ⟨cez0, cez1, cez2, cez3⟩ := ez.cells4
                have fez := ez.frozen
                have Hr := Lib.hid hr; clear hr
                go_wp2
                have hr := Hr.out
                obtain ⟨W9, eW, ez', U⟩ := ez.put4 (.bool b7) (.slice A7 n7 c7) (.bool b8) (.slice A8 n8 c8) rfl rfl rfl rfl
                rw [← eW]
                clear eW ez
                replace hr := hr.kd U.kd
                replace hx := U.from_ hx (by simp <;> omega)
                have ez := ez'
                clear U ez'
                clear cez0 cez1 cez2 cez3 fez
                obtain ⟨cez0, cez1, cez2, cez3⟩ := ez.cells4
                have fez := ez.frozen
                refine bodyPost_ret (v := .agg #[.bool b7, .slice A7 n7 c7, .bool b8, .slice A8 n8 c8]) (by simp [results, Tryz.results81, go_sem, cez0, cez1, cez2, cez3]) rfl ?_
                exact Gives.mk (by rw [E1.out]; exact hr) hx
          · obtain rfl : n = j0 := by omega
            obtain ⟨b7, A7, n7, c7, b8, A8, n8, c8, eb, hr⟩ := eb
            have e1 : D = o := by rw [← HM.out.1, Nat.sub_self, det_zero, Rat.mul_one]
            have E1 := Lib.hid e1; clear e1
            obtain ⟨cez0, cez1, cez2, cez3⟩ := ez.cells4
            have fez := ez.frozen
            obtain ⟨ceb0, ceb1, ceb2, ceb3⟩ := eb.cells4
            have feb := eb.frozen
            have Hr := Lib.hid hr; clear hr
            go_wp2
            have hr := Hr.out
            obtain ⟨W9, eW, ez', U⟩ := ez.put4 (.bool b7) (.slice A7 n7 c7) (.bool b8) (.slice A8 n8 c8) rfl rfl rfl rfl
            rw [← eW]
            clear eW ez
            replace hr := hr.kd U.kd
            replace hx := U.from_ hx (by simp <;> omega)
            have ez := ez'
            clear U ez'
            clear cez0 cez1 cez2 cez3 fez
            obtain ⟨cez0, cez1, cez2, cez3⟩ := ez.cells4
            have fez := ez.frozen
            refine bodyPost_ret (v := .agg #[.bool b7, .slice A7 n7 c7, .bool b8, .slice A8 n8 c8]) (by simp [results, Tryz.results81, go_sem, cez0, cez1, cez2, cez3]) rfl ?_
            exact Gives.mk (by rw [E1.out]; exact hr) hx
end Go.Proofs.YtfacbpnegkjcgaaGreatDoor
namespace Go.Hp
open Go.RowKit
theorem OwnR.lower {α : Type} {k base base' : Nat} {rd : World → Value → α → Prop} {e : TypeId} {w : World} {v : Value} {l : List α} (h : OwnR k rd base e w v l) (hb : base' ≤ base) : OwnR k rd base' e w v l := by
 obtain ⟨ess, h1, h2, ⟨h3, h4⟩, h5⟩ := h
 refine ⟨ess, h1, h2, ⟨h3, ?_⟩, h5⟩
 rcases h4 with h4 | ⟨g, cap, cur, a, b, c⟩
 ·exact .inl h4
 ·exact .inr ⟨g, cap, cur, a, by omega, c⟩
theorem Rows_.lower {base base' : Nat} {t t' : TypeId} {w : World} {v : Value} {us : List Value} {ls : List (List Rat)} (h : Rows_ base t t' w v us ls) (hb : base' ≤ base) : Rows_ base' t t' w v us ls :=
 ⟨h.out.lower hb, h.len, fun i a b => (h.row i a b).lower hb, h.dis⟩
end Go.Hp
namespace Go.Proofs.YtfacbpnegkjcgaaGreatDoor
open Go.RowKit Go.Hp
theorem syl_row1 (m n N : Nat) (F G : Nat → Rat) {i : Nat} (hi : i < n) : (List.range N).map (sylr m F i) = (List.range N).map (syl m F n G i) := by
 refine List.map_congr_left fun k _ => ?_
 unfold syl sylr
 rw [if_pos hi]
theorem syl_row2 (m n N : Nat) (F G : Nat → Rat) (i : Nat) : (List.range N).map (sylr n G i) = (List.range N).map (syl m F n G (n + i)) := by
 refine List.map_congr_left fun k _ => ?_
 unfold syl sylr
 have h : ¬ (n + i < n) := by omega
 simp only [if_neg h]
theorem syl_qsz {m n S : Nat} {F G : Nat → Rat} (hs : ∀ i, qsz (F i) ≤ S) (ht : ∀ i, qsz (G i) ≤ S) (i j : Nat) : qsz (syl m F n G i j) ≤ S := by
 have h0 : qsz 0 ≤ S := by have := qsz_pos (F 0); have := hs 0; rw [qsz_zero]; omega
 unfold syl
 split <;> split
 ·exact hs _
 ·exact h0
 ·exact ht _
 ·exact h0
theorem field_num (b : Bool) (A : Option Addr) (n c : Nat) (b' : Bool) (A' : Option Addr) (n' c' : Nat) (w : World) : (Instr.field 61 (.agg #[.bool b, .slice A n c, .bool b', .slice A' n' c']) 0).run Tryz.prog w = .ok (.agg #[.bool b, .slice A n c]) w := by kernel_rfl
set_option maxRecDepth 20000 in
set_option maxHeartbeats 8000000 in
theorem resultant_rz (v u : Value) (l m : List Int) (S : Nat) (w : World) (hv : HzV 0 w v l) (hu : HzV 0 w u m) (hs : ∀ i, qsz (cz l i) ≤ S) (ht : ∀ i, qsz (cz m i) ≤ S) (hn : pl (cz l) + pl (cz m) ≤ 1000) (hl : l.length ≤ 1000000) (hm : m.length ≤ 1000000) (hS : (S + 1) * 4 ^ (pl (cz l) + pl (cz m)) ≤ 68719476736) :
  Calls Tryz.prog 29 #[v, u] w (Gives w fun r w' => IsZ w' r (res (cz l) (cz m)).num) := by
 have HV := Lib.hid hv; have HU := Lib.hid hu
 obtain ⟨A, c, rfl⟩ := hv.len
 obtain ⟨E, d, rfl⟩ := hu.len
 clear hv hu
 have hS0 : S ≤ 68719476736 := by
  have : 0 < 4 ^ (pl (cz l) + pl (cz m)) := Nat.pow_pos (by decide)
  have : (S + 1) * 1 ≤ (S + 1) * 4 ^ (pl (cz l) + pl (cz m)) := Nat.mul_le_mul_left _ this
  omega
 have hdeg : ∀ W (x : Ext w W), (Calls Tryz.prog 25 #[.slice A l.length c] W (Gives W fun r _ => r = .int .i64 ((pl (cz l) : Int) - 1))) ∧ (Calls Tryz.prog 25 #[.slice E m.length d] W (Gives W fun r _ => r = .int .i64 ((pl (cz m) : Int) - 1))) := fun W x =>
  ⟨degree_rz _ l W (HV.out.ext x) (by omega), degree_rz _ m W (HU.out.ext x) (by omega)⟩
 have hrow : ∀ (p q : Nat), p ≤ 1000 → q ≤ 1000 → ∀ W (x : Ext w W) (i : Nat), i ≤ 1000 → (Calls Tryz.prog 80 #[.slice A l.length c, .int .i64 (p : Nat), .int .i64 (i : Nat), .int .i64 ((p : Int) + (q : Int))] W (Gives W fun r w' => OwnQ W.heap.size 61 w' r ((List.range (p + q)).map (sylr p (cz l) i)))) ∧ (Calls Tryz.prog 80 #[.slice E m.length d, .int .i64 (q : Nat), .int .i64 (i : Nat), .int .i64 ((p : Int) + (q : Int))] W (Gives W fun r w' => OwnQ W.heap.size 61 w' r ((List.range (p + q)).map (sylr q (cz m) i)))) := fun p q hp hq W x i hi => by
  rw [← Int.natCast_add]
  exact ⟨row_r _ l p i (p + q) W (HV.out.ext x) (fun j => by have := hs j; omega) (by omega) (by omega) (by omega), row_r _ m q i (p + q) W (HU.out.ext x) (fun j => by have := ht j; omega) (by omega) (by omega) (by omega)⟩
 have hpF := pl_zero (Fin_.cz l); have hpG := pl_zero (Fin_.cz m)
 obtain ⟨F, hF⟩ : ∃ F, F = cz l := ⟨_, rfl⟩
 obtain ⟨G, hG⟩ : ∃ G, G = cz m := ⟨_, rfl⟩
 simp only [← hF, ← hG] at hs ht hn hS hdeg hrow hpF hpG ⊢
 have HC := Lib.hid (And.intro hdeg hrow)
 have HS := Lib.hid (And.intro hs (And.intro ht (And.intro hS (And.intro hpF hpG))))
 clear hdeg hrow hs ht hS hpF hpG HV HU hF hG hS0
 obtain ⟨X, hX⟩ : ∃ X, X = (res F G).num := ⟨_, rfl⟩
 rw [← hX]
 have HX := Lib.hid hX; clear hX
 go_enter Tryz.func29, Tryz.ntmps29
 have ez := Box.new w 28 #[.bool false, .slice none 0 0] (by simp [isDig])
 have hx := (Ext.refl w).alloc (.cells #[.bool false, .slice none 0 0] 28)
 go_upto_region 1 with (fail)
 generalize w.alloc (.cells #[.bool false, .slice none 0 0] 28) = w0 at *
 go_wp2_with fail
 refine Calls.mono (HC.out.1 _ hx).1 ?_
 rintro e w1 ⟨r1, rfl, rfl, hx1⟩
 replace ez := ez.ext hx1
 replace hx := hx.trans hx1
 clear hx1
 go_wp2_with fail
 refine Calls.mono (HC.out.1 _ hx).2 ?_
 rintro e w2 ⟨r2, rfl, rfl, hx2⟩
 replace ez := ez.ext hx2
 replace hx := hx.trans hx2
 clear hx2
 by_cases hF0 : pl F = 0
 ·have e1 : ((pl F : Int) - 1) = -1 := by omega
  have e2 : X = 0 := by rw [HX.out, (HS.out.2.2.2.1).1 hF0, res_pzl]; rfl
  have E2 := Lib.hid e2; clear e2 hF0
  rw [e1]
  clear e1
  go_wp2_with fail
  refine Calls.mono (of_r 0 _ (by omega) (by omega)) ?_
  rintro e w3 ⟨r3, rfl, hr, hx3⟩
  obtain ⟨b7, A7, n7, c7, rfl⟩ := hr.cells
  replace ez := ez.ext hx3
  replace hx := hx.trans hx3
  have Hr8 := Lib.hid hr; clear hr hx3
  obtain ⟨cez0, cez1⟩ := ez.cells2
  have fez := ez.frozen
  go_wp2
  have hr := Hr8.out
  obtain ⟨W9, eW, ez', U⟩ := ez.put2 (.bool b7) (.slice A7 n7 c7) rfl rfl
  rw [← eW]
  clear eW ez
  replace hr := hr.kd U.kd
  replace hx := U.from_ hx (by simp <;> omega)
  have ez := ez'
  clear U ez'
  clear cez0 cez1 fez
  obtain ⟨cez0, cez1⟩ := ez.cells2
  have fez := ez.frozen
  refine bodyPost_ret (v := .agg #[.bool b7, .slice A7 n7 c7]) (by simp [results, Tryz.results29, go_sem, cez0, cez1]) rfl ?_
  exact Gives.mk (by rw [E2.out]; exact hr) hx
 by_cases hG0 : pl G = 0
 ·have e1 : ((pl F : Int) - 1) = ((pl F - 1 : Nat) : Int) := by omega
  have e1' : ((pl G : Int) - 1) = -1 := by omega
  have e2 : X = 0 := by rw [HX.out, (HS.out.2.2.2.2).1 hG0, res_pzr]; rfl
  have E2 := Lib.hid e2; clear e2 hF0 hG0
  rw [e1, e1']
  clear e1 e1'
  generalize pl F - 1 = p
  go_wp2_with fail
  refine Calls.mono (of_r 0 _ (by omega) (by omega)) ?_
  rintro e w3 ⟨r3, rfl, hr, hx3⟩
  obtain ⟨b7, A7, n7, c7, rfl⟩ := hr.cells
  replace ez := ez.ext hx3
  replace hx := hx.trans hx3
  have Hr8 := Lib.hid hr; clear hr hx3
  obtain ⟨cez0, cez1⟩ := ez.cells2
  have fez := ez.frozen
  go_wp2
  have hr := Hr8.out
  obtain ⟨W9, eW, ez', U⟩ := ez.put2 (.bool b7) (.slice A7 n7 c7) rfl rfl
  rw [← eW]
  clear eW ez
  replace hr := hr.kd U.kd
  replace hx := U.from_ hx (by simp <;> omega)
  have ez := ez'
  clear U ez'
  clear cez0 cez1 fez
  obtain ⟨cez0, cez1⟩ := ez.cells2
  have fez := ez.frozen
  refine bodyPost_ret (v := .agg #[.bool b7, .slice A7 n7 c7]) (by simp [results, Tryz.results29, go_sem, cez0, cez1]) rfl ?_
  exact Gives.mk (by rw [E2.out]; exact hr) hx
 obtain ⟨p, hp⟩ : ∃ p, pl F = p + 1 := ⟨pl F - 1, by omega⟩
 obtain ⟨q, hq⟩ : ∃ q, pl G = q + 1 := ⟨pl G - 1, by omega⟩
 have e1 : ((pl F : Int) - 1) = (p : Nat) := by omega
 have e2 : ((pl G : Int) - 1) = (q : Nat) := by omega
 have hpb : p ≤ 1000 := by omega
 have hqb : q ≤ 1000 := by omega
 have hpq : p + q ≤ 1000 := by omega
 have hres : res F G = det (p + q) (syl p F q G) := by
  unfold res rsf
  rw [if_neg (by omega), hp, hq]
  rfl
 have hS' : (S + 1) * 4 ^ (p + q + 1) ≤ 68719476736 := by
  have h1 := HS.out.2.2.1
  have h2 : 4 ^ (p + q + 1) ≤ 4 ^ (pl F + pl G) := Nat.pow_le_pow_right (by decide) (by omega)
  exact Nat.le_trans (Nat.mul_le_mul_left _ h2) h1
 have HD := Lib.hid (And.intro (syl_qsz (m := p) (n := q) HS.out.1 HS.out.2.1) (And.intro hS' hres))
 rw [e1, e2]
 clear e1 e2 hS' hres hp hq hF0 hG0 HS hn
 obtain ⟨N, hN⟩ : ∃ N, N = p + q := ⟨_, rfl⟩
 obtain ⟨M, hM⟩ : ∃ M, M = syl p F q G := ⟨_, rfl⟩
 have HR := Lib.hid (show ∀ W (x : Ext w W) (i : Nat), i ≤ 1000 → (Calls Tryz.prog 80 #[.slice A l.length c, .int .i64 (p : Nat), .int .i64 (i : Nat), .int .i64 ((p : Int) + (q : Int))] W (Gives W fun r w' => OwnQ W.heap.size 61 w' r ((List.range N).map (sylr p F i)))) ∧ (Calls Tryz.prog 80 #[.slice E m.length d, .int .i64 (q : Nat), .int .i64 (i : Nat), .int .i64 ((p : Int) + (q : Int))] W (Gives W fun r w' => OwnQ W.heap.size 61 w' r ((List.range N).map (sylr q G i)))) from fun W x i hi => hN ▸ HC.out.2 p q hpb hqb W x i hi)
 have HM := Lib.hid (show (∀ i, i < q → (List.range N).map (sylr p F i) = (List.range N).map (M i)) ∧ (∀ i, (List.range N).map (sylr q G i) = (List.range N).map (M (q + i))) from ⟨fun i hi => hM ▸ syl_row1 p q N F G hi, fun i => hM ▸ syl_row2 p q N F G i⟩)
 rw [← hM, ← hN] at HD
 have HNp := Lib.hid (show N = q + p by omega)
 have hNb : N ≤ 1000 := by omega
 clear HC hM hN
 go_wp2
 go_loopw [7, 8] (fun ov iv wr => ∃ (k : Nat) (us' : List Value), k ≤ q ∧ iv = .int .i64 k ∧ Rows_ (w.heap.size + 1) 95 61 wr ov us' (RL N M k) ∧ Box wr w.heap.size 28 #[.bool false, .slice none 0 0] ∧ Ext w wr) (fun _ iv _ => q - (intOf iv).toNat)
 case atStart => exact ⟨0, [], Nat.zero_le _, rfl, Rows_.nil _ _ _ _, ez, hx⟩
 case round =>
  clear ez hx
  obtain ⟨k, us', hk, rfl, hown, ez, hx⟩ := hrel
  by_cases hkq : k < q
  ·skip
   have Hown := Lib.hid hown; clear hown
   go_wp2_with fail
   refine Calls.mono ((HR.out _ hx k (by omega)).1) ?_
   rintro e w2 ⟨r2, rfl, hr2, hx2⟩
   obtain ⟨A9, c9, e9⟩ := OwnR.len hr2
   rw [List.length_map, List.length_range] at e9
   subst e9
   have hf : ∀ i (h : i < us'.length), ∀ g ∈ blk us'[i], g ∉ blk (.slice A9 N c9) := Hown.out.fresh hr2
   have Hown' := Lib.hid (Hown.out.ext hx2)
   have hbw : w.heap.size + 1 ≤ wr.heap.size := ez.lt
   have hu := hr2.lower (base' := w.heap.size + 1) hbw
   rw [HM.out.1 k hkq] at hu
   have hlen : us'.length ≤ 1099511627776 := by rw [Hown.out.len, RL_len]; omega
   have hs5 := hx2.size
   replace ez := ez.ext hx2
   replace hx := hx.trans hx2
   have Hu := Lib.hid (And.intro hu (And.intro hf hlen))
   clear hr2 hx2 hf hu hlen Hown
   go_wp2_with (at_builtin; refine wpList_append_run rfl _ _ 94 rfl u7 (.slice (some ⟨w2.heap.size, 0, none⟩) 1 1) rfl rfl (append_rows w2 (w.heap.size + 1) _ _ _ (.slice A9 N c9) us' _ _ Hown'.out Hu.out.1 Hu.out.2.1 Hu.out.2.2 (by omega) rfl) ?_)
   first | intro v2 w6 hown U | rintro v2 w6 ⟨hown, U⟩
   have xa := (Ext.refl w2).alloc (.cells #[.slice A9 N c9] 95)
   have hbl : ∀ g ∈ blk u7, w.heap.size + 1 ≤ g := fun g hg => (OwnR.blk_ge Hown'.out.out g hg).1
   replace ez := (ez.ext xa).upd U (fun hg => by have := hbl _ hg; omega)
   replace hx := U.from_ (hx.trans xa) (fun g hg => by have := hbl g hg; omega)
   rw [← RL_succ] at hown
   have Hown := Lib.hid hown; clear hown U hbl xa Hown' Hu hbw hs5
   go_wp2
   go_roundw
   case rel => exact ⟨k + 1, _, by omega, by go_num, Hown.out, ez, hx⟩
   case measure => simp [intOf] <;> omega
  ·obtain rfl : q = k := by omega
   have Hown := Lib.hid hown; clear hown
   go_wp2
   have hown := Hown.out
   clear Hown
   go_loopw [7, 9] (fun ov iv wr => ∃ (k : Nat) (us' : List Value), k ≤ p ∧ iv = .int .i64 k ∧ Rows_ (w.heap.size + 1) 95 61 wr ov us' (RL N M (q + k)) ∧ Box wr w.heap.size 28 #[.bool false, .slice none 0 0] ∧ Ext w wr) (fun _ iv _ => p - (intOf iv).toNat)
   case atStart => exact ⟨0, us', Nat.zero_le _, rfl, hown, ez, hx⟩
   case round =>
    clear ez hx hown
    obtain ⟨k, us', hk, rfl, hown, ez, hx⟩ := hrel
    by_cases hkp : k < p
    ·skip
     have Hown := Lib.hid hown; clear hown
     go_wp2_with fail
     refine Calls.mono ((HR.out _ hx k (by omega)).2) ?_
     rintro e w2 ⟨r2, rfl, hr2, hx2⟩
     obtain ⟨A9, c9, e9⟩ := OwnR.len hr2
     rw [List.length_map, List.length_range] at e9
     subst e9
     have hf : ∀ i (h : i < us'.length), ∀ g ∈ blk us'[i], g ∉ blk (.slice A9 N c9) := Hown.out.fresh hr2
     have Hown' := Lib.hid (Hown.out.ext hx2)
     have hbw : w.heap.size + 1 ≤ wr.heap.size := ez.lt
     have hu := hr2.lower (base' := w.heap.size + 1) hbw
     rw [HM.out.2 k] at hu
     have hlen : us'.length ≤ 1099511627776 := by rw [Hown.out.len, RL_len]; omega
     have hs5 := hx2.size
     replace ez := ez.ext hx2
     replace hx := hx.trans hx2
     have Hu := Lib.hid (And.intro hu (And.intro hf hlen))
     clear hr2 hx2 hf hu hlen Hown
     go_wp2_with (at_builtin; refine wpList_append_run rfl _ _ 94 rfl u7 (.slice (some ⟨w2.heap.size, 0, none⟩) 1 1) rfl rfl (append_rows w2 (w.heap.size + 1) _ _ _ (.slice A9 N c9) us' _ _ Hown'.out Hu.out.1 Hu.out.2.1 Hu.out.2.2 (by omega) rfl) ?_)
     first | intro v2 w6 hown U | rintro v2 w6 ⟨hown, U⟩
     have xa := (Ext.refl w2).alloc (.cells #[.slice A9 N c9] 95)
     have hbl : ∀ g ∈ blk u7, w.heap.size + 1 ≤ g := fun g hg => (OwnR.blk_ge Hown'.out.out g hg).1
     replace ez := (ez.ext xa).upd U (fun hg => by have := hbl _ hg; omega)
     replace hx := U.from_ (hx.trans xa) (fun g hg => by have := hbl g hg; omega)
     rw [← RL_succ] at hown
     have Hown := Lib.hid hown; clear hown U hbl xa Hown' Hu hbw hs5
     go_wp2
     go_roundw
     case rel => exact ⟨k + 1, _, by omega, by go_num, Hown.out, ez, hx⟩
     case measure => simp [intOf] <;> omega
    ·obtain rfl : p = k := by omega
     rw [← HNp.out] at hown
     obtain ⟨A2, c2, rfl⟩ := hown.shape
     have Hown := Lib.hid hown; clear hown
     rw [RL_len] at Hown ⊢
     go_wp2_with fail
     refine Calls.mono (determinant_r _ us' N M S _ (Hown.out.lower (Nat.zero_le _)) (fun i j _ _ => HD.out.1 i j) (by omega) HD.out.2.1) ?_
     rintro e w8 ⟨r8, rfl, ⟨b7, A7, n7, c7, b8, A8, n8, c8, rfl, hr8, -⟩, hx8⟩
     replace ez := ez.ext hx8
     replace hx := hx.trans hx8
     rw [← HD.out.2.2, ← HX.out] at hr8
     have Hr8 := Lib.hid hr8; clear hr8 hx8
     have hfd := field_num b7 A7 n7 c7 b8 A8 n8 c8 w8
     obtain ⟨cez0, cez1⟩ := ez.cells2
     have fez := ez.frozen
     go_wp2
     have hr := Hr8.out
     obtain ⟨W9, eW, ez', U⟩ := ez.put2 (.bool b7) (.slice A7 n7 c7) rfl rfl
     rw [← eW]
     clear eW ez
     replace hr := hr.kd U.kd
     replace hx := U.from_ hx (by simp <;> omega)
     have ez := ez'
     clear U ez'
     clear cez0 cez1 fez
     obtain ⟨cez0, cez1⟩ := ez.cells2
     have fez := ez.frozen
     refine bodyPost_ret (v := .agg #[.bool b7, .slice A7 n7 c7]) (by simp [results, Tryz.results29, go_sem, cez0, cez1]) rfl ?_
     exact Gives.mk hr hx
end Go.Proofs.YtfacbpnegkjcgaaGreatDoor
namespace Go.Hp
open Go.RowKit
/-- A value beside an error. -/
def TupE (w : World) (v : Value) (x : Int) (e : Int) : Prop := ∃ a, v = .tuple #[a, .int .i64 e] ∧ IsZ w a x
theorem TupE.ext {w w' : World} {v : Value} {x e : Int} (h : TupE w v x e) (k : Ext w w') : TupE w' v x e := by
 obtain ⟨a, h1, h2⟩ := h; exact ⟨a, h1, h2.kd k.kd⟩
end Go.Hp
namespace Go.Proofs.YtfacbpnegkjcgaaGreatDoor
open Go.RowKit Go.Hp
theorem exact_e (v u : Value) (x y : Int) (w : World) (hv : HasZ w v x) (hu : HasZ w u y) (h0 : y ≠ 0) (hd : y ∣ x) : Calls Tryz.prog 62 #[v, u] w (Gives w fun r w' => TupE w' r (x / y) 0) := exact_z v u x y w hv hu h0 hd
end Go.Proofs.YtfacbpnegkjcgaaGreatDoor
