/- The statement ZpolyProducts holds: for every two polynomials over the integers the law returns true, and the arguments read afterwards as before. Package-level tables as the program's text lays them (the card ties them); no other condition. -/
import Derived.Test.YtfacbpnegkjcgaaDoorPr1
import Derived.Test.YtfacbpnegkjcgaaDoorPr2
import Derived.Test.YtfacbpnegkjcgaaDoorPr3
import Derived.ProofKit
import Derived.ChangeSlices
import Derived.Deep.Slices
import Derived.RangeFuncNested
import Derived.RangeFuncBound
import Derived.RangeFuncCalls
import Derived.RangeFuncLeaves
import Derived.Shelf.Abstract
import Derived.Shelf.RegionOpen
import Derived.WalkKit
import Derived.OwnWalkIn
import Derived.TacticsInMore
import Derived.LoopNIn
import Derived.LoopIn
import Derived.Test.YtfacbpnegkjcgaaDoorRows
import Derived.Test.YtfacbpnegkjcgaaDoorCards
import Derived.Test.YtfacbpnegkjcgaaDoorTie
import Derived.LaidMore
import Derived.OpenShut
import Derived.ShutString
import Derived.ChangeOld
import Derived.Below
import Derived.SevenTiedAt
import Derived.Stop.Joined
set_option linter.unusedVariables false
set_option linter.unusedSimpArgs false
namespace Go.Hp
open Go.RowKit
theorem addr_add (b o i : Nat) : (⟨b, o, none⟩ : Addr).add i = ⟨b, o + i, none⟩ := by unfold Addr.add; split <;> simp_all
abbrev Raw := Bool × List Nat × Bool × List Nat
def RawQ (w : World) (v : Value) (x : Raw) : Prop := ∃ A n c A' n' c', v = .agg #[.bool x.1, .slice A n c, .bool x.2.2.1, .slice A' n' c'] ∧ DigV w (.slice A n c) x.2.1 ∧ DigV w (.slice A' n' c') x.2.2.2
def PolyV (w : World) (v : Value) (l : List Raw) : Prop := RowV 4 RawQ 0 w v l
theorem RawQ.ext {w w' : World} {v : Value} {x : Raw} (h : RawQ w v x) (e : Ext w w') : RawQ w' v x := by
 obtain ⟨A, n, c, A', n', c', h1, h2, h3⟩ := h; exact ⟨A, n, c, A', n', c', h1, h2.ext e, h3.ext e⟩
theorem PolyV.ext {w w' : World} {v : Value} {l : List Raw} (h : PolyV w v l) (e : Ext w w') : PolyV w' v l := RowV.ext h e fun _ _ q => q.ext e
def Small (x : Raw) : Prop := x.2.1.length ≤ 2 ∧ x.2.2.2.length ≤ 2
def ratOf (x : Raw) : Rat := Rat.divInt (iv x.1 x.2.1) (iv x.2.2.1 x.2.2.2)
theorem iv_abs (b : Bool) (ds : List Nat) : (iv b ds).natAbs = nv ds := by unfold iv; cases b <;> simp
theorem sz_dig {w : World} {v : Value} {ds : List Nat} (h : DigV w v ds) : sz (nv ds) ≤ ds.length := by
 obtain ⟨_, _, _, _, _, hA⟩ := h
 exact sz_nv hA.1
theorem RawQ.has {w : World} {v : Value} {x : Raw} (h : RawQ w v x) (hs : Small x) : HasQ w v (ratOf x) ∧ qsz (ratOf x) ≤ 2 := by
 obtain ⟨A, n, c, A', n', c', rfl, h2, h3⟩ := h
 have s1 := sz_dig h2
 have s2 := sz_dig h3
 obtain ⟨k1, k2⟩ := hs
 have e1 := iv_abs x.1 x.2.1
 have e2 := iv_abs x.2.2.1 x.2.2.2
 exact ⟨⟨_, A, n, c, _, A', n', c', _, _, rfl, ⟨_, _, ⟨_, rfl, h2⟩, rfl, by omega⟩, ⟨_, _, ⟨_, rfl, h3⟩, rfl, by omega⟩, by rw [e1]; omega, by rw [e2]; omega, rfl⟩,
  qsz_divInt (by rw [e1]; omega) (by rw [e2]; omega) (by omega)⟩
theorem PolyV.has {w : World} {v : Value} {l : List Raw} (h : PolyV w v l) (hs : ∀ x ∈ l, Small x) : HsV 0 w v (l.map ratOf) := by
 obtain ⟨A, c, h1, h2, h3, h4⟩ := h
 refine ⟨A, c, by simpa using h1, by simpa using h2, h3, fun h0 => ?_⟩
 obtain ⟨g, o, q1, q2, q3⟩ := h4 (by simpa using h0)
 refine ⟨g, o, q1, q2, fun j hj => ?_⟩
 have hj' : j < l.length := by simpa using hj
 obtain ⟨cs, r1, r2, r3⟩ := q3 j hj'
 refine ⟨cs, r1, r2, ?_⟩
 rw [List.getElem_map]
 exact (r3.has (hs _ (List.getElem_mem hj'))).1
theorem PolyV.len {w : World} {v : Value} {l : List Raw} (h : PolyV w v l) : ∃ A c, v = .slice A l.length c ∧ l.length ≤ c ∧ c ≤ 9223372036854775807 := by
 obtain ⟨A, c, h1, h2, h3, h4⟩ := h; exact ⟨A, c, h1, h2, h3⟩
theorem PolyV.at_ {w : World} {A : Option Addr} {n c : Nat} {l : List Raw} (h : PolyV w (.slice A n c) l) {j : Nat} (hj : j < l.length) :
  ∃ g o A1 n c A1' n' c', A = some ⟨g, o, none⟩ ∧ w.cell? ⟨g, o + j * 4, none⟩ = some (.bool l[j].1) ∧ w.cell? ⟨g, o + j * 4 + 1, none⟩ = some (.slice A1 n c) ∧ w.cell? ⟨g, o + j * 4 + 2, none⟩ = some (.bool l[j].2.2.1) ∧ w.cell? ⟨g, o + j * 4 + 3, none⟩ = some (.slice A1' n' c') ∧ n = l[j].2.1.length ∧ n' = l[j].2.2.2.length := by
 obtain ⟨A', c', e1, h2, h3, h4⟩ := h
 have e5 : A' = A := by injection e1 with h1; exact h1.symm
 subst e5
 obtain ⟨g, o, ha, hb, hc⟩ := h4 (by omega)
 obtain ⟨cs, q1, q2, q3⟩ := hc j hj
 obtain ⟨A1, n1, c1, A2, n2, c2, e, d1, d2⟩ := q3
 obtain rfl := agg4 e
 obtain ⟨_, _, f1, _⟩ := d1
 obtain ⟨_, _, f2, _⟩ := d2
 exact ⟨g, o, A1, n1, c1, A2, n2, c2, ha, q2 0 (by omega), q2 1 (by omega), q2 2 (by omega), q2 3 (by omega), by injection f1, by injection f2⟩
end Go.Hp
namespace Go.Proofs.YtfacbpnegkjcgaaDoor
open Go.RowKit Go.Hp Go.Deep Go.ChangeShapes Go.ChangeAt
section
variable {H : Type} {enc : TypeId × Value → H} {w : World} {spare : Nat → Bool} {held : Bool}
theorem open_digs {fuel : Nat} {cs : List Value} {x : DataW H × List MemPlace} (h : DataW.trod enc Tryd.prog w 0 spare held fuel 26 cs = some x) : ∃ A n c ds, cs = [.slice A n c] ∧ DigV w (.slice A n c) ds := by
 rcases open_ints Tryd.underlying26 Tryd.underlying57 (by kernel_rfl) h with ⟨rfl, _⟩ | ⟨a, n, c, zs, rfl, _, hl, hm, hz, _, hcell, hwz⟩
 ·exact ⟨none, 0, 0, [], rfl, none, 0, rfl, Nat.le_refl _, by omega, fun d hd => by simp at hd, fun h => by simp at h⟩
 ·have hzl : n ≤ zs.length := by rw [hz]; split <;> omega
  have hw : ∀ z ∈ zs, 0 ≤ z ∧ z < 4294967296 := fun z hz => by
   have := hwz z hz
   simp [Lit.wf] at this
   have e1 : IntKind.u32.min = 0 := rfl
   have e2 : IntKind.u32.max = 4294967295 := rfl
   omega
  have hlen : ((zs.take n).map Int.toNat).length = n := by simp; omega
  refine ⟨some a, n, c, (zs.take n).map Int.toNat, rfl, some a, c, by rw [hlen], by rw [hlen]; exact hl, maxLen_le hm, ?_, fun _ => ⟨a, rfl, fun j hj => ?_⟩⟩
  ·intro d hd
   obtain ⟨z, hz1, rfl⟩ := List.mem_map.1 hd
   have := hw z (List.mem_of_mem_take hz1)
   omega
  ·rw [hlen] at hj
   have hjz : j < zs.length := by omega
   rw [hcell j hjz, List.getElem_map, List.getElem_take]
   have := hw zs[j] (List.getElem_mem hjz)
   rw [show zs.getD j 0 = zs[j] from by rw [List.getD_eq_getElem?_getD, List.getElem?_eq_getElem hjz]; rfl]
   congr 2; omega
set_option maxRecDepth 100000 in
theorem open_zraw {fuel : Nat} {cs : List Value} {x : DataW H × List MemPlace} (h : DataW.trod enc Tryd.prog w 0 spare held fuel 28 cs = some x) : ∃ b A n c ds, cs = [.bool b, .slice A n c] ∧ DigV w (.slice A n c) ds := by
 obtain ⟨y0, y1, n, _, hl, h0, h1⟩ := trod_struct2 Tryd.underlying28 h
 rw [show Tryd.prog.cellsOf 28 = 2 from by kernel_rfl] at hl
 match cs, hl with
 | [c0, c1], _ =>
  rw [show Tryd.prog.cellsOf 4 = 1 from by kernel_rfl] at h0
  rw [show Tryd.prog.cellsOf 26 = 1 from by kernel_rfl] at h1
  obtain ⟨b, e0, _⟩ := DataW.trod_bool Tryd.underlying4 h0
  obtain ⟨A, m, c, ds, e1, hd⟩ := open_digs h1
  simp at e0 e1
  subst e0 e1
  exact ⟨b, A, m, c, ds, rfl, hd⟩
end
end Go.Proofs.YtfacbpnegkjcgaaDoor
namespace Go.Hp
open Go.RowKit
def HasPt (w : World) (v : Value) (p : Rat × Rat) : Prop :=
 ∃ b1 A1 n1 c1 b2 A2 n2 c2 b3 A3 n3 c3 b4 A4 n4 c4, v = .agg #[.bool b1, .slice A1 n1 c1, .bool b2, .slice A2 n2 c2, .bool b3, .slice A3 n3 c3, .bool b4, .slice A4 n4 c4] ∧
  HasQ w (.agg #[.bool b1, .slice A1 n1 c1, .bool b2, .slice A2 n2 c2]) p.1 ∧ HasQ w (.agg #[.bool b3, .slice A3 n3 c3, .bool b4, .slice A4 n4 c4]) p.2
theorem HasPt.ext {w w' : World} {v : Value} {p : Rat × Rat} (h : HasPt w v p) (e : Ext w w') : HasPt w' v p := by
 obtain ⟨b1, A1, n1, c1, b2, A2, n2, c2, b3, A3, n3, c3, b4, A4, n4, c4, h1, h2, h3⟩ := h
 exact ⟨b1, A1, n1, c1, b2, A2, n2, c2, b3, A3, n3, c3, b4, A4, n4, c4, h1, h2.ext e, h3.ext e⟩
def PtsV (w : World) (v : Value) (l : List (Rat × Rat)) : Prop := RowV 8 HasPt 0 w v l
def PtsAt (w : World) (A : Option Addr) (l : List (Rat × Rat)) : Prop := RowAt 8 HasPt 0 w A l
theorem PtsV.ext {w w' : World} {v : Value} {l : List (Rat × Rat)} (h : PtsV w v l) (e : Ext w w') : PtsV w' v l := RowV.ext h e fun _ _ q => q.ext e
theorem PtsAt.at_ {w : World} {A : Option Addr} {l : List (Rat × Rat)} (h : PtsAt w A l) {j : Nat} (hj : j < l.length) :
  ∃ g o b1 A1 n1 c1 b2 A2 n2 c2 b3 A3 n3 c3 b4 A4 n4 c4, A = some ⟨g, o, none⟩ ∧ w.cell? ⟨g, o + j * 8, none⟩ = some (.bool b1) ∧ w.cell? ⟨g, o + j * 8 + 1, none⟩ = some (.slice A1 n1 c1) ∧ w.cell? ⟨g, o + j * 8 + 2, none⟩ = some (.bool b2) ∧ w.cell? ⟨g, o + j * 8 + 3, none⟩ = some (.slice A2 n2 c2) ∧
   w.cell? ⟨g, o + j * 8 + 4, none⟩ = some (.bool b3) ∧ w.cell? ⟨g, o + j * 8 + 5, none⟩ = some (.slice A3 n3 c3) ∧ w.cell? ⟨g, o + j * 8 + 6, none⟩ = some (.bool b4) ∧ w.cell? ⟨g, o + j * 8 + 7, none⟩ = some (.slice A4 n4 c4) ∧
   HasQ w (.agg #[.bool b1, .slice A1 n1 c1, .bool b2, .slice A2 n2 c2]) l[j].1 ∧ HasQ w (.agg #[.bool b3, .slice A3 n3 c3, .bool b4, .slice A4 n4 c4]) l[j].2 := by
 obtain ⟨g, o, ha, hb, hc⟩ := h (by omega)
 obtain ⟨cs, q1, q2, q3⟩ := hc j hj
 obtain ⟨b1, A1, n1, c1, b2, A2, n2, c2, b3, A3, n3, c3, b4, A4, n4, c4, e, h1, h2⟩ := q3
 obtain rfl : cs = #[.bool b1, .slice A1 n1 c1, .bool b2, .slice A2 n2 c2, .bool b3, .slice A3 n3 c3, .bool b4, .slice A4 n4 c4] := by injection e
 exact ⟨g, o, b1, A1, n1, c1, b2, A2, n2, c2, b3, A3, n3, c3, b4, A4, n4, c4, ha, q2 0 (by omega), q2 1 (by omega), q2 2 (by omega), q2 3 (by omega), q2 4 (by omega), q2 5 (by omega), q2 6 (by omega), q2 7 (by omega), h1, h2⟩
theorem PtsV.len {w : World} {v : Value} {l : List (Rat × Rat)} (h : PtsV w v l) : ∃ A c, v = .slice A l.length c ∧ l.length ≤ c ∧ c ≤ 9223372036854775807 ∧ PtsAt w A l := h
def px (l : List (Rat × Rat)) (i : Nat) : Rat := (l.getD i (0, 0)).1
def py (l : List (Rat × Rat)) (i : Nat) : Rat := (l.getD i (0, 0)).2
theorem px_lt {l : List (Rat × Rat)} {i : Nat} (h : i < l.length) : px l i = l[i].1 := by unfold px; rw [List.getD_eq_getElem?_getD, List.getElem?_eq_getElem h]; rfl
theorem py_lt {l : List (Rat × Rat)} {i : Nat} (h : i < l.length) : py l i = l[i].2 := by unfold py; rw [List.getD_eq_getElem?_getD, List.getElem?_eq_getElem h]; rfl
theorem Apart.step {X : Nat → Rat} {n : Nat} (h : Apart X n) (k : ∀ j, j < n → X n ≠ X j) : Apart X (n + 1) := fun i j hi hj => by
 rcases Nat.lt_or_ge i n with l | l
 ·exact h i j l hj
 ·obtain rfl : i = n := by omega
  exact k j hj
end Go.Hp
namespace Go.Hp
open Go.RowKit
abbrev RawI := Bool × List Nat
def RawZ (w : World) (v : Value) (x : RawI) : Prop := IntV w v x.1 x.2
theorem RawZ.ext {w w' : World} {v : Value} {x : RawI} (h : RawZ w v x) (e : Ext w w') : RawZ w' v x := by
 obtain ⟨u, h1, h2⟩ := h; exact ⟨u, h1, h2.ext e⟩
def ZPolyV (w : World) (v : Value) (l : List RawI) : Prop := RowV 2 RawZ 0 w v l
theorem ZPolyV.ext {w w' : World} {v : Value} {l : List RawI} (h : ZPolyV w v l) (e : Ext w w') : ZPolyV w' v l := RowV.ext h e fun _ _ q => q.ext e
abbrev RawPt := Raw × Raw
def RawP2 (w : World) (v : Value) (x : RawPt) : Prop :=
 ∃ b1 A1 n1 c1 b2 A2 n2 c2 b3 A3 n3 c3 b4 A4 n4 c4, v = .agg #[.bool b1, .slice A1 n1 c1, .bool b2, .slice A2 n2 c2, .bool b3, .slice A3 n3 c3, .bool b4, .slice A4 n4 c4] ∧
  RawQ w (.agg #[.bool b1, .slice A1 n1 c1, .bool b2, .slice A2 n2 c2]) x.1 ∧ RawQ w (.agg #[.bool b3, .slice A3 n3 c3, .bool b4, .slice A4 n4 c4]) x.2
theorem RawP2.ext {w w' : World} {v : Value} {x : RawPt} (h : RawP2 w v x) (e : Ext w w') : RawP2 w' v x := by
 obtain ⟨b1, A1, n1, c1, b2, A2, n2, c2, b3, A3, n3, c3, b4, A4, n4, c4, h1, h2, h3⟩ := h
 exact ⟨b1, A1, n1, c1, b2, A2, n2, c2, b3, A3, n3, c3, b4, A4, n4, c4, h1, h2.ext e, h3.ext e⟩
def PointsV (w : World) (v : Value) (l : List RawPt) : Prop := RowV 8 RawP2 0 w v l
def PointsAt (w : World) (A : Option Addr) (l : List RawPt) : Prop := RowAt 8 RawP2 0 w A l
theorem PointsV.ext {w w' : World} {v : Value} {l : List RawPt} (h : PointsV w v l) (e : Ext w w') : PointsV w' v l := RowV.ext h e fun _ _ q => q.ext e
theorem PointsAt.at_ {w : World} {A : Option Addr} {l : List RawPt} (h : PointsAt w A l) {j : Nat} (hj : j < l.length) :
  ∃ g o b1 A1 n1 c1 b2 A2 n2 c2 b3 A3 n3 c3 b4 A4 n4 c4, A = some ⟨g, o, none⟩ ∧ w.cell? ⟨g, o + j * 8, none⟩ = some (.bool b1) ∧ w.cell? ⟨g, o + j * 8 + 1, none⟩ = some (.slice A1 n1 c1) ∧ w.cell? ⟨g, o + j * 8 + 2, none⟩ = some (.bool b2) ∧ w.cell? ⟨g, o + j * 8 + 3, none⟩ = some (.slice A2 n2 c2) ∧
   w.cell? ⟨g, o + j * 8 + 4, none⟩ = some (.bool b3) ∧ w.cell? ⟨g, o + j * 8 + 5, none⟩ = some (.slice A3 n3 c3) ∧ w.cell? ⟨g, o + j * 8 + 6, none⟩ = some (.bool b4) ∧ w.cell? ⟨g, o + j * 8 + 7, none⟩ = some (.slice A4 n4 c4) ∧
   RawQ w (.agg #[.bool b1, .slice A1 n1 c1, .bool b2, .slice A2 n2 c2]) l[j].1 ∧ RawQ w (.agg #[.bool b3, .slice A3 n3 c3, .bool b4, .slice A4 n4 c4]) l[j].2 := by
 obtain ⟨g, o, ha, hb, hc⟩ := h (by omega)
 obtain ⟨cs, q1, q2, q3⟩ := hc j hj
 obtain ⟨b1, A1, n1, c1, b2, A2, n2, c2, b3, A3, n3, c3, b4, A4, n4, c4, e, h1, h2⟩ := q3
 obtain rfl : cs = #[.bool b1, .slice A1 n1 c1, .bool b2, .slice A2 n2 c2, .bool b3, .slice A3 n3 c3, .bool b4, .slice A4 n4 c4] := by injection e
 exact ⟨g, o, b1, A1, n1, c1, b2, A2, n2, c2, b3, A3, n3, c3, b4, A4, n4, c4, ha, q2 0 (by omega), q2 1 (by omega), q2 2 (by omega), q2 3 (by omega), q2 4 (by omega), q2 5 (by omega), q2 6 (by omega), q2 7 (by omega), h1, h2⟩
def SmallP (x : RawPt) : Prop := Small x.1 ∧ Small x.2
def ptOf (x : RawPt) : Rat × Rat := (ratOf x.1, ratOf x.2)
theorem PointsV.has {w : World} {v : Value} {l : List RawPt} (h : PointsV w v l) (hs : ∀ x ∈ l, SmallP x) : PtsV w v (l.map ptOf) ∧ (∀ i, i < l.length → qsz (px (l.map ptOf) i) ≤ 2 ∧ qsz (py (l.map ptOf) i) ≤ 2) := by
 obtain ⟨A, c, h1, h2, h3, h4⟩ := h
 refine ⟨⟨A, c, by simpa using h1, by simpa using h2, h3, fun h0 => ?_⟩, fun i hi => ?_⟩
 ·obtain ⟨g, o, q1, q2, q3⟩ := h4 (by simpa using h0)
  refine ⟨g, o, q1, q2, fun j hj => ?_⟩
  have hj' : j < l.length := by simpa using hj
  obtain ⟨cs, r1, r2, b1, A1, n1, c1, b2, A2, n2, c2, b3, A3, n3, c3, b4, A4, n4, c4, e, k1, k2⟩ := q3 j hj'
  refine ⟨cs, r1, r2, ?_⟩
  rw [List.getElem_map]
  have hsm := hs _ (List.getElem_mem hj')
  exact ⟨b1, A1, n1, c1, b2, A2, n2, c2, b3, A3, n3, c3, b4, A4, n4, c4, e, (k1.has hsm.1).1, (k2.has hsm.2).1⟩
 ·obtain ⟨g, o, q1, q2, q3⟩ := h4 (by omega)
  obtain ⟨cs, r1, r2, b1, A1, n1, c1, b2, A2, n2, c2, b3, A3, n3, c3, b4, A4, n4, c4, e, k1, k2⟩ := q3 i hi
  have hsm := hs _ (List.getElem_mem hi)
  rw [px_lt (by simpa using hi), py_lt (by simpa using hi), List.getElem_map]
  exact ⟨(k1.has hsm.1).2, (k2.has hsm.2).2⟩
end Go.Hp
namespace Go.Proofs.YtfacbpnegkjcgaaDoor
open Go.RowKit Go.Hp Go.Deep Go.ChangeShapes Go.ChangeAt
section
variable {H : Type} {enc : TypeId × Value → H} {w : World} {spare : Nat → Bool} {held : Bool}
theorem open_rows {α : Type} {k E : Nat} (hk : 0 < k) {rd : World → Value → α → Prop} (hsz : Tryd.prog.cellsOf E = k)
  (hop : ∀ {fuel : Nat} {cs : List Value} {x : DataW H × List MemPlace}, DataW.trod enc Tryd.prog w 0 spare held fuel E cs = some x → ∃ r : α, ∃ cs' : Array Value, cs = cs'.toList ∧ cs'.size = k ∧ rd w (.agg cs') r)
  {T fuel : Nat} {v : Value} {x : DataW H × List MemPlace} (hT : Tryd.prog.underlying T = some (.slice E)) (h : DataW.trod enc Tryd.prog w 0 spare held fuel T v.cells.toList = some x) (hv : ∃ a n c, v = .slice a n c) : ∃ l : List α, RowV k rd 0 w v l := by
 obtain ⟨a0, n0, c0, rfl⟩ := hv
 rcases open_slice hT h with ⟨hcs, _⟩ | ⟨a, n, c, m, k', D, Pl, hcs, _, hl, hm, hmm, _, hel⟩
 ·simp [Value.cells] at hcs
  obtain ⟨rfl, rfl, rfl⟩ := hcs
  exact ⟨[], RowV.nil k rd 0 w⟩
 ·simp [Value.cells] at hcs
  obtain ⟨rfl, rfl, rfl⟩ := hcs
  have hnm : n0 ≤ m := by rw [hmm]; split <;> omega
  rw [hsz] at hel
  have key : ∀ i, i < n0 → ∃ r : α, ∃ cs : Array Value, cs.size = k ∧ (∀ j, j < k → w.cell? ((a.add (i * k)).add j) = cs[j]?) ∧ rd w (.agg cs) r := fun i hi => by
   obtain ⟨cs', h1, h2⟩ := hel i (by omega)
   obtain ⟨r, cs, rfl, h3, h4⟩ := hop h2
   obtain ⟨_, h5, h6⟩ := World.cells?_some h1
   exact ⟨r, cs, h3, fun j hj => by rw [h6 j hj]; simp, h4⟩
  have hc : ∀ n', n' ≤ n0 → ∃ l : List α, l.length = n' ∧ ∀ i (h : i < l.length), ∃ cs : Array Value, cs.size = k ∧ (∀ j, j < k → w.cell? ((a.add (i * k)).add j) = cs[j]?) ∧ rd w (.agg cs) l[i] := by
   intro n'
   induction n' with
   | zero => intro _; exact ⟨[], rfl, fun i h => by simp at h⟩
   | succ n' ih =>
    intro hn
    obtain ⟨l, hl1, hl2⟩ := ih (by omega)
    obtain ⟨r, cs, k1, k2, k3⟩ := key n' (by omega)
    refine ⟨l ++ [r], by simp [hl1], fun i hi => ?_⟩
    rcases Nat.lt_or_ge i l.length with h' | h'
    ·rw [List.getElem_append_left h']; exact hl2 i h'
    ·have e : i = n' := by simp at hi; omega
     subst e
     refine ⟨cs, k1, k2, ?_⟩
     rw [List.getElem_append_right h']
     simpa [hl1] using k3
  obtain ⟨l, hl1, hl2⟩ := hc n0 (Nat.le_refl _)
  refine ⟨l, some a, c0, by rw [hl1], by omega, maxLen_le hm, fun h0 => ?_⟩
  obtain ⟨b, off, spot⟩ := a
  obtain ⟨cs, k1, k2, k3⟩ := hl2 0 h0
  have hs : spot = none := by
   have := k2 0 hk
   rw [Array.getElem?_eq_getElem (by omega)] at this
   simpa [Addr.add] using World.cell?_spot this
  subst hs
  refine ⟨b, off, rfl, Nat.zero_le _, fun j hj => ?_⟩
  obtain ⟨cs, k1, k2, k3⟩ := hl2 j hj
  refine ⟨cs, k1, fun i hi => ?_, k3⟩
  rw [← k2 i hi, addr_add, addr_add]
set_option maxRecDepth 100000 in
theorem open_zp {fuel : Nat} {cs : List Value} {x : DataW H × List MemPlace} (h : DataW.trod enc Tryd.prog w 0 spare held fuel 28 cs = some x) : ∃ r : RawI, ∃ cs' : Array Value, cs = cs'.toList ∧ cs'.size = 2 ∧ RawZ w (.agg cs') r := by
 obtain ⟨b, A, n, c, ds, rfl, hd⟩ := open_zraw h
 exact ⟨(b, ds), #[.bool b, .slice A n c], rfl, rfl, _, rfl, hd⟩
theorem open_zpoly {T fuel : Nat} {v : Value} {x : DataW H × List MemPlace} (hT : Tryd.prog.underlying T = some (.slice 28)) (h : DataW.trod enc Tryd.prog w 0 spare held fuel T v.cells.toList = some x) (hv : ∃ a n c, v = .slice a n c) : ∃ l : List RawI, ZPolyV w v l :=
 open_rows (by decide) (by kernel_rfl) (fun h => open_zp h) hT h hv
end
end Go.Proofs.YtfacbpnegkjcgaaDoor
namespace Go.Hp
open Go.RowKit
def zOf (x : RawI) : Int := iv x.1 x.2
theorem RawZ.has {w : World} {v : Value} {x : RawI} (h : RawZ w v x) (hs : x.2.length ≤ 1099511627776) : HasZ w v (zOf x) ∧ sz (zOf x).natAbs ≤ x.2.length := by
 have h' := h
 obtain ⟨s, rfl, hd⟩ := h'
 refine ⟨⟨x.1, x.2, h, rfl, hs⟩, ?_⟩
 have := sz_dig hd
 unfold zOf; rw [iv_abs]; exact this
theorem ZPolyV.len {w : World} {v : Value} {l : List RawI} (h : ZPolyV w v l) : ∃ A c, v = .slice A l.length c ∧ l.length ≤ c ∧ c ≤ 9223372036854775807 := by
 obtain ⟨A, c, h1, h2, h3, h4⟩ := h; exact ⟨A, c, h1, h2, h3⟩
theorem ZPolyV.at_ {w : World} {A : Option Addr} {n c : Nat} {l : List RawI} (h : ZPolyV w (.slice A n c) l) {j : Nat} (hj : j < l.length) :
  ∃ g o A1 c, A = some ⟨g, o, none⟩ ∧ w.cell? ⟨g, o + j * 2, none⟩ = some (.bool l[j].1) ∧ w.cell? ⟨g, o + j * 2 + 1, none⟩ = some (.slice A1 l[j].2.length c) ∧ RawZ w (.agg #[.bool l[j].1, .slice A1 l[j].2.length c]) l[j] := by
 obtain ⟨A', c', e1, h2, h3, h4⟩ := h
 have e5 : A' = A := by injection e1 with h1; exact h1.symm
 subst e5
 obtain ⟨g, o, q1, q2, q3⟩ := h4 (by omega)
 obtain ⟨cs, r1, r2, r3⟩ := q3 j hj
 have hr := r3
 obtain ⟨s, e, A1, c1, e2, k⟩ := r3
 subst e2
 have e := agg2 e
 subst e
 exact ⟨g, o, A1, c1, q1, r2 0 (by omega), r2 1 (by omega), hr⟩
theorem ZPolyV.has {w : World} {v : Value} {l : List RawI} {d : Nat} (h : ZPolyV w v l) (hs : ∀ x ∈ l, x.2.length ≤ d) (hd : d ≤ 1099511627776 := by omega) : HzV 0 w v (l.map zOf) ∧ ∀ x ∈ l.map zOf, sz x.natAbs ≤ d := by
 obtain ⟨A, c, h1, h2, h3, h4⟩ := h
 have key : ∀ j (hj : j < l.length), ∃ cs : Array Value, cs.size = 2 ∧ RawZ w (.agg cs) l[j] := fun j hj => by
  obtain ⟨g, o, q1, q2, q3⟩ := h4 (by omega)
  obtain ⟨cs, r1, r2, r3⟩ := q3 j hj
  exact ⟨cs, r1, r3⟩
 refine ⟨⟨A, c, by simpa using h1, by simpa using h2, h3, fun h0 => ?_⟩, fun x hx => ?_⟩
 ·obtain ⟨g, o, q1, q2, q3⟩ := h4 (by simpa using h0)
  refine ⟨g, o, q1, q2, fun j hj => ?_⟩
  have hj' : j < l.length := by simpa using hj
  obtain ⟨cs, r1, r2, r3⟩ := q3 j hj'
  refine ⟨cs, r1, r2, ?_⟩
  rw [List.getElem_map]
  exact (r3.has (Nat.le_trans (hs _ (List.getElem_mem hj')) hd)).1
 ·obtain ⟨y, hy, rfl⟩ := List.mem_map.1 hx
  obtain ⟨j, hj, rfl⟩ := List.getElem_of_mem hy
  obtain ⟨cs, -, r3⟩ := key j hj
  have := hs _ (List.getElem_mem hj)
  exact Nat.le_trans (r3.has (by omega)).2 this
theorem ZPolyV.qsz {w : World} {v : Value} {l : List RawI} {d : Nat} (h : ZPolyV w v l) (hs : ∀ x ∈ l, x.2.length ≤ d) (hd : d ≤ 1099511627776 := by omega) (h1 : 1 ≤ d := by omega) (i : Nat) : qsz (cz (l.map zOf) i) ≤ d := cz_qsz (h.has hs hd).2 h1 i
end Go.Hp
namespace Go.Hp
open Go.RowKit
theorem lzf_succ (k : Nat) (F : Nat → Rat) : lzf (k + 1) F = lzf k F ++ [(F k).num] := by simp [lzf, List.range_succ]
theorem small_lenz {n : Nat} (h : n ≤ 1099511627776) : n + 1 ≤ maxLen := by simp only [maxLen]; omega
theorem lzf_cz (l : List Int) : lzf l.length (cz l) = l := by
 apply List.ext_getElem
 ·rw [lzf_len]
 ·intro i h1 h2; rw [lzf_get, cz_lt h2]; rfl
end Go.Hp
namespace Go.Proofs.YtfacbpnegkjcgaaDoor
open Go.RowKit Go.Hp
theorem append_rz (W : World) (base ty g : Nat) (v : Value) (l : List Int) (q : Int) {b : Bool} {A : Option Addr} {n c : Nat} (h : OwnZ base 28 W v l) (hq : IsZ W (.agg #[.bool b, .slice A n c]) q) (hn : l.length ≤ 1099511627776) (hb : base ≤ W.heap.size) (hg : g = W.heap.size) :
  ∃ v' w', (Builtin.append_ #[22, 22] ty #[v, .slice (some ⟨g, 0, none⟩) 1 1]).run Tryd.prog (W.alloc (.cells #[.bool b, .slice A n c] 28)) = .ok v' w' ∧ (OwnZ base 28 w' v' (l ++ [q]) ∧ Upd (blk v) (W.alloc (.cells #[.bool b, .slice A n c] 28)) w') := by
 subst hg
 obtain ⟨g, cs, e1, h1, h2, h3, h4⟩ := NewZ.mk hq (base := W.heap.size) (Nat.le_refl _) 28
 cases e1
 obtain ⟨i0, hi, hz0, hz1, hz2⟩ := info_parts info_int
 have ho := IsZ.one h4
 have hx := (Ext.refl W).alloc (.cells #[.bool b, .slice A n c] 28)
 obtain ⟨v', w', a, b, c⟩ := OwnR.append (P := Tryd.prog) (h.ext hx) 22 ty i0 _ 32 Tryd.underlying22 hi hz0 hz1 hz2 rfl (by simp [nodig, isDig, Value.cells]) (by decide) ⟨W.heap.size, 0, none⟩ 1 cs h3 h4 h2.news ho.1 ho.2.1 (small_lenz hn) (by omega) (Nat.le_trans hb hx.size) (fun _ _ _ k hq => IsZ.kd hq k)
 exact ⟨v', w', a, b, c⟩
set_option maxHeartbeats 1000000 in
theorem normal_rz (v : Value) (l : List Int) (w : World) (hv : HzV 0 w v l) (hn : l.length ≤ 1099511627776) : Calls Tryd.prog 34 #[v] w (Gives w fun r w' => IsZP w.heap.size w' r (cz l)) := by
 have hqs := hv.sz
 obtain ⟨A, c, rfl, hl, hc, hA⟩ := hv
 have HA : Hid (HzAt 0 w A l) := Lib.hid hA; clear hA
 have HQ := Lib.hid hqs; clear hqs
 go_enter Tryd.func34, Tryd.ntmps34
 go_wp2
 go_loopw [3, 4] (fun ov iv wr => ∃ (k : Nat), k ≤ l.length ∧ iv = .int .i64 k ∧ OwnZ w.heap.size 28 wr ov (lzf k (cz l)) ∧ Ext w wr) (fun _ iv _ => l.length - (intOf iv).toNat)
 case atStart => exact ⟨0, Nat.zero_le _, rfl, OwnR.nil _ _ _ _ _, Ext.refl _⟩
 case round =>
  obtain ⟨k, hk, rfl, hown, hx⟩ := hrel
  by_cases hkl : k < l.length
  ·obtain ⟨g, o, b, A1, n, c1, rfl, _, q0, q1, hq⟩ := HA.out.at_ (j := k) hkl
   replace q0 := hx.cell q0
   replace q1 := hx.cell q1
   have Hq := Lib.hid (hq.kd hx.kd); clear hq
   go_wp2_with fail
   refine Calls.mono (norm_r _ _ _ Hq.out) ?_
   rintro e w2 ⟨r, rfl, hr, hx2⟩
   obtain ⟨b5, A5, n5, c5, rfl⟩ := hr.cells
   have Hr := Lib.hid hr; clear hr
   replace hown := hown.ext hx2
   replace hx := hx.trans hx2
   have Hown := Lib.hid hown; clear hown
   have hsz := hx.size
   clear hx2 q0 q1 Hq
   go_wp2_with (at_builtin; refine wpList_append_run rfl _ _ 22 rfl u3 (.slice (some ⟨w2.heap.size, 0, none⟩) 1 1) rfl rfl (append_rz w2 w.heap.size _ _ _ _ _ Hown.out Hr.out (by first | (rw [lzf_len]; omega) | omega) hsz rfl) ?_)
   first | intro v' w5 hown U | rintro v' w5 ⟨hown, U⟩
   replace hx := (Hown.out.ext ((Ext.refl w2).alloc _)).from_ U (hx.alloc _) (Nat.le_refl _)
   have Hown' := Lib.hid hown; clear hown U
   go_wp2
   go_roundw
   case rel => exact ⟨k + 1, by omega, by go_num, by rw [lzf_succ, cz_lt hkl]; exact Hown'.out, hx⟩
   case measure => simp [intOf] <;> omega
  ·obtain rfl : k = l.length := by omega
   rw [lzf_cz] at hown
   obtain ⟨A2, c2, rfl, h2, h3, h4⟩ := OwnZ.row hown
   have Hrow : Hid (ZsAt w.heap.size wr A2 l) := Lib.hid h4; clear h4 hown
   have hx0 := hx
   go_wp2
   clear hx
   go_loopw [5] (fun nv wx => ∃ m : Nat, m ≤ l.length ∧ nv = .int .i64 m ∧ (∀ j, m ≤ j → (h : j < l.length) → l[j] = 0) ∧ Ext wr wx) (fun nv _ => (intOf nv).toNat)
   case atStart => exact ⟨l.length, Nat.le_refl _, rfl, fun j h1 h2 => by omega, Ext.refl _⟩
   case round =>
    obtain ⟨m, hm, rfl, hz, hx⟩ := hrel
    have Hz := Lib.hid hz; clear hz
    by_cases h0 : 0 < m
    ·obtain ⟨m, rfl⟩ : ∃ k, m = k + 1 := ⟨m - 1, by omega⟩
     have hml : m < l.length := by omega
     have Hrow' : Hid (ZsAt w.heap.size _ A2 l) := Lib.hid Hrow.out
     obtain ⟨g, o, b, A1, n, c1, rfl, hb, q0, q1, hq⟩ := Hrow'.out.at_ (j := m) hml
     replace q0 := hx.cell q0
     replace q1 := hx.cell q1
     have Hq := Lib.hid ((hq.has (HQ.out _ (List.getElem_mem hml))).kd hx.kd); clear hq
     go_wp2_with fail
     refine Calls.mono (sign_r _ l[m] _ Hq.out) ?_
     rintro e w2 ⟨r, rfl, rfl, hx2⟩
     by_cases hd0 : l[m]'(by omega) = 0
     ·have hb : (l[m].sign == 0) = true := by rw [hd0]; rfl
      have Hd := Lib.hid hd0; clear hd0
      go_wp2
      go_roundw
      case rel => exact ⟨m, by omega, by go_num, fun j h1 h2 => by
       rcases Nat.eq_or_lt_of_le h1 with e | e
       ·subst e; exact Hd.out
       ·exact Hz.out j (by omega) h2, hx.trans hx2⟩
      case measure => simp [intOf] <;> omega
     ·have hb : (l[m].sign == 0) = false := by
       have : l[m].sign ≠ 0 := fun e => hd0 (Int.sign_eq_zero_iff_zero.1 e)
       simpa using this
      have Hd := Lib.hid hd0; clear hd0
      go_wp2
      go_ret
      have hlen := trimZ_take hm Hz.out (fun h _ => by simpa using Hd.out)
      have hR := (ZsV.trim (Hrow.out.ext (hx.trans hx2)) h2 h3)
      rw [hlen] at hR
      exact Gives.mk (IsZP.of_trim hR rfl) ((hx0.trans hx).trans hx2)
    ·obtain rfl : m = 0 := by omega
     have hlen := trimZ_take hm Hz.out (fun h hh => by omega)
     have hR := (ZsV.trim (Hrow.out.ext hx) h2 h3)
     rw [hlen] at hR
     have HR := Lib.hid (And.intro hR hlen); clear hR hlen
     go_wp2
     go_ret
     exact Gives.mk (IsZP.of_trim HR.out.1 rfl) (hx0.trans hx)
theorem degree_rz (v : Value) (l : List Int) (w : World) (hv : HzV 0 w v l) (hn : l.length ≤ 1099511627776) : Calls Tryd.prog 11 #[v] w (Gives w fun r _ => r = .int .i64 ((pl (cz l) : Int) - 1)) := by
 have HV := Lib.hid hv
 obtain ⟨A, c, rfl⟩ := hv.len
 clear hv
 have hpl : pl (cz l) ≤ l.length := pl_le (cz_sup l)
 go_enter Tryd.func11, Tryd.ntmps11
 go_wp2_with fail
 refine Calls.mono (normal_rz _ l _ HV.out hn) ?_
 rintro e w1 ⟨r, rfl, hr, hx1⟩
 obtain ⟨A2, c2, rfl, -⟩ := hr.shape
 clear hr
 go_wp2
 go_ret
 exact Gives.mk rfl hx1
end Go.Proofs.YtfacbpnegkjcgaaDoor
namespace Go.Hp
open Go.RowKit
def ListsZ (w : World) (g : Nat) (vs : List (Value × List RawI)) : Prop := ∀ j (h : j < vs.length), w.cell? ⟨g, j, none⟩ = some vs[j].1 ∧ ZPolyV w vs[j].1 vs[j].2
def LongZ (most d : Nat) (vs : List (Value × List RawI)) (w : World) (e : Ending) (w' : World) : Prop := w = w' ∧ ∃ b : Bool, e = .returned (.bool b) ∧ (b = false → ∀ p ∈ vs, p.2.length ≤ most ∧ ∀ x ∈ p.2, x.2.length ≤ d)
def FineZ (most d : Nat) (l : List RawI) : Prop := l.length ≤ most ∧ ∀ x ∈ l, x.2.length ≤ d
theorem listsZ_two (w : World) (t : TypeId) {v u : Value} {l m : List RawI} (h1 : ZPolyV w v l) (h2 : ZPolyV w u m) {g : Nat} (hg : g = w.heap.size) : ListsZ (w.alloc (.cells #[v, u] t)) g [(v, l), (u, m)] := by
 subst hg
 intro j hj
 have hj2 : j < 2 := by simpa using hj
 match j, hj2 with
 | 0, _ => exact ⟨by rw [cell_of_row _ w.heap.size 0 _ t (0, 0) (heap_alloc_new w _)]; rfl, h1.ext ((Ext.refl w).alloc _)⟩
 | 1, _ => exact ⟨by rw [cell_of_row _ w.heap.size 1 _ t (0, 0) (heap_alloc_new w _)]; rfl, h2.ext ((Ext.refl w).alloc _)⟩
end Go.Hp
namespace Go.Proofs.YtfacbpnegkjcgaaDoor
open Go.RowKit Go.Hp
set_option maxRecDepth 20000 in
set_option maxHeartbeats 1000000 in
theorem zs_b (v : Value) (ns : List Int) (w : World) (hv : IntsV w v ns) (hn : ns.length ≤ 1000) (hs : ∀ n ∈ ns, -4294967296 < n ∧ n < 4294967296) : Calls Tryd.prog 19 #[v] w (Gives w fun r w' => ZsV w.heap.size w' r ns) := by
 obtain ⟨g, c, rfl, h1, h2, h3⟩ := hv
 have H3 := Lib.hid (And.intro h3 hs); clear h3 hs
 go_enter Tryd.func19, Tryd.ntmps19
 go_wp2
 go_loopw [3, 4] (fun ov iv wr => ∃ (k : Nat), k ≤ ns.length ∧ iv = .int .i64 k ∧ OwnZ w.heap.size 28 wr ov (ns.take k) ∧ Ext w wr) (fun _ iv _ => ns.length - (intOf iv).toNat)
 case atStart => exact ⟨0, Nat.zero_le _, rfl, OwnR.nil _ _ _ _ _, Ext.refl _⟩
 case round =>
  obtain ⟨k, hk, rfl, hown, hx⟩ := hrel
  have Hown0 := Lib.hid hown; clear hown
  by_cases hkl : k < ns.length
  ·have q0 := hx.cell (H3.out.1 k hkl)
   obtain ⟨m, hm⟩ : ∃ m, m = ns[k] := ⟨_, rfl⟩
   rw [← hm] at q0
   have hb := H3.out.2 ns[k] (List.getElem_mem hkl)
   rw [← hm] at hb
   have Hm := Lib.hid hm; clear hm
   go_wp2_with fail
   refine Calls.mono (z_b m _ hb.1 hb.2) ?_
   rintro e w2 ⟨r, rfl, hr, hx2⟩
   obtain ⟨b5, A5, n5, c5, rfl⟩ := hr.cells
   have Hr := Lib.hid hr; clear hr
   have hown := Hown0.out.ext hx2
   have Hown := Lib.hid hown; clear hown
   replace hx := hx.trans hx2
   have hsz := hx.size
   have hlk : (ns.take k).length ≤ 1000 := Nat.le_trans (List.length_take_le _ _) (by omega)
   clear hx2 q0 Hown0
   go_wp2_with (at_builtin; refine wpList_append_run rfl _ _ 22 rfl u3 (.slice (some ⟨w2.heap.size, 0, none⟩) 1 1) rfl rfl (append_rz w2 w.heap.size _ _ _ _ _ Hown.out Hr.out (by first | (rw [lzf_len]; omega) | omega) hsz rfl) ?_)
   first | intro v' w5 hown U | rintro v' w5 ⟨hown, U⟩
   replace hx := (Hown.out.ext ((Ext.refl w2).alloc _)).from_ U (hx.alloc _) (Nat.le_refl _)
   have Hown' := Lib.hid hown; clear hown U
   go_wp2
   go_roundw
   case rel => exact ⟨k + 1, by omega, by go_num, by
    rw [List.take_succ_eq_append_getElem hkl, ← Hm.out]; exact Hown'.out, hx⟩
   case measure => simp [intOf] <;> omega
  ·obtain rfl : k = ns.length := by omega
   have hq := OwnZ.row Hown0.out
   rw [List.take_of_length_le (Nat.le_refl _)] at hq
   have Hq := Lib.hid hq; clear hq Hown0
   go_wp2
   go_ret
   exact Gives.mk Hq.out hx
set_option maxHeartbeats 2000000 in
theorem zlong_b (most d : Nat) (g c : Nat) (vs : List (Value × List RawI)) (w : World) (hm : most ≤ 1000) (hd : d ≤ 1000) (hn : vs.length ≤ 1000) (hc : vs.length ≤ c) (hv : ListsZ w g vs) :
  Calls Tryd.prog 6 #[.int .i64 (most : Nat), .int .i64 (d : Nat), .slice (some ⟨g, 0, none⟩) vs.length c] w (LongZ most d vs w) := by
 have HV := Lib.hid hv; clear hv
 go_enter Tryd.func6, Tryd.ntmps6
 go_wp2
 go_loop [7] (fun iv => ∃ i : Nat, i ≤ vs.length ∧ iv = .int .i64 i ∧ ∀ j (h : j < vs.length), j < i → FineZ most d vs[j].2) (fun iv => vs.length - (intOf iv).toNat)
 case atStart => exact ⟨0, Nat.zero_le _, rfl, fun j h h' => by omega⟩
 case round =>
  obtain ⟨i, hi, rfl, hst⟩ := hrel
  have Hst := Lib.hid hst; clear hst
  by_cases hil : i < vs.length
  ·obtain ⟨q, hp⟩ := HV.out i hil
   obtain ⟨A1, c1, e1, hl1, hl2⟩ := hp.len
   rw [e1] at q hp
   obtain ⟨l, hl⟩ : ∃ l, l = vs[i].2 := ⟨_, rfl⟩
   rw [← hl] at q hp hl1
   have Hl := Lib.hid (And.intro hl hp); clear hl hp e1
   by_cases hlong : most < l.length
   ·skip
    go_wp2
    go_ret
    exact ⟨rfl, true, rfl, fun h => by cases h⟩
   ·go_wp2
    go_loop [8] (fun kv => ∃ k : Nat, k ≤ l.length ∧ kv = .int .i64 k ∧ ∀ j (h : j < l.length), j < k → l[j].2.length ≤ d) (fun kv => l.length - (intOf kv).toNat)
    case atStart => exact ⟨0, Nat.zero_le _, rfl, fun j h h' => by omega⟩
    case round =>
     obtain ⟨k, hk, rfl, hsm⟩ := hrel
     have Hsm := Lib.hid hsm; clear hsm
     by_cases hkl : k < l.length
     ·obtain ⟨g', o', B1, d1, rfl, r0, r1, -⟩ := Hl.out.2.at_ hkl
      obtain ⟨n, hn1⟩ : ∃ n, n = l[k].2.length := ⟨_, rfl⟩
      rw [← hn1] at r1
      have He := Lib.hid hn1; clear hn1
      by_cases hx1 : d < n
      ·skip
       go_wp2
       go_ret
       exact ⟨rfl, true, rfl, fun h => by cases h⟩
      ·go_wp2
       go_round
       case rel => exact ⟨k + 1, by omega, by go_num, fun j h1 h2 => by
        rcases Nat.lt_or_ge j k with h | h
        ·exact Hsm.out j h1 h
        ·obtain rfl : j = k := by omega
         have := He.out
         omega⟩
       case measure => simp [intOf] <;> omega
     ·obtain rfl : k = l.length := by omega
      go_wp2
      go_round
      case rel => exact ⟨i + 1, by omega, by go_num, fun j h1 h2 => by
       rcases Nat.lt_or_ge j i with h | h
       ·exact Hst.out j h1 h
       ·obtain rfl : j = i := by omega
        rw [← Hl.out.1]
        exact ⟨by omega, fun x hx => by
         obtain ⟨j, hj, rfl⟩ := List.getElem_of_mem hx
         exact Hsm.out j hj hj⟩⟩
      case measure => simp [intOf] <;> omega
  ·obtain rfl : i = vs.length := by omega
   go_wp2
   go_ret
   exact ⟨rfl, false, rfl, fun _ p hp => by
    obtain ⟨j, hj, rfl⟩ := List.getElem_of_mem hp
    exact Hst.out j hj hj⟩
end Go.Proofs.YtfacbpnegkjcgaaDoor
namespace Go.Proofs.YtfacbpnegkjcgaaDoor
open Go.RowKit Go.Hp
set_option maxHeartbeats 1000000 in
theorem sameints_d (v u : Value) (l m : List Int) (b1 b2 : Nat) (w : World) (hv : ZsV b1 w v l) (hu : ZsV b2 w u m) (hn : l.length ≤ 1099511627776) : Calls Tryd.prog 17 #[v, u] w (Gives w fun r _ => r = .bool (decide (l = m))) := by
 have HV := Lib.hid hv; have HU := Lib.hid hu
 obtain ⟨A, c, rfl⟩ := RowV.len hv
 obtain ⟨E, d, rfl⟩ := RowV.len hu
 clear hv hu
 obtain ⟨D, hD⟩ : ∃ D, D = decide (l = m) := ⟨_, rfl⟩
 rw [← hD]
 have HD := Lib.hid hD; clear hD
 by_cases hlen : l.length = m.length
 ·have hb : ((l.length : Int) != (m.length : Int)) = false := by simp [hlen]
  have Hlen := Lib.hid hlen; clear hlen
  go_enter Tryd.func17, Tryd.ntmps17
  go_wp2
  go_loopw [5] (fun iv wr => ∃ (k : Nat), k ≤ l.length ∧ iv = .int .i64 k ∧ (∀ j (h : j < l.length) (h' : j < m.length), j < k → l[j] = m[j]) ∧ Ext w wr) (fun iv _ => l.length - (intOf iv).toNat)
  case atStart => exact ⟨0, Nat.zero_le _, rfl, fun j h h' h0 => by omega, Ext.refl _⟩
  case round =>
   obtain ⟨k, hk, rfl, heq, hx⟩ := hrel
   have Heq := Lib.hid heq; clear heq
   by_cases hkl : k < l.length
   ·have hkm : k < m.length := by have := Hlen.out; omega
    obtain ⟨g, o, b, A1, n, c1, rfl, _, q0, q1, hq⟩ := HV.out.at_ (j := k) hkl
    obtain ⟨g', o', bb, B1, m1, d1, rfl, _, r0, r1, hq'⟩ := HU.out.at_ (j := k) hkm
    replace q0 := hx.cell q0
    replace q1 := hx.cell q1
    replace r0 := hx.cell r0
    replace r1 := hx.cell r1
    have Hq := Lib.hid (And.intro (hq.kd hx.kd) (hq'.kd hx.kd)); clear hq hq'
    go_wp2_with fail
    refine wp_region_par (k := 8) (D := [17, 18, 19, 20, 21, 22, 23, 24]) (T := [[], [], [0, 1], [0, 1, 2], [], [], [4, 5], [4, 5, 6], [0, 1, 2, 3, 4, 5, 6, 7], [0, 1, 2, 3, 4, 5, 6, 7, 8]]) (EK := [0, 5, 1]) (EV := [?e1x0, ?e1x1, ?e1x2]) (VL := [(kv ?v1x0), (kv ?v1x1), (kv ?v1x2), (kv ?v1x3), (kv ?v1x4), (kv ?v1x5), (kv ?v1x6), (kv ?v1x7)]) (FL := fun γ w' => [True, True, True, True, True, True, True, True]) ?hE1 (by kernel_rfl) (by kernel_rfl) (by rfl) (by kernel_rfl) ?hloc1 ?hmono1 ?hstep1 ?htail1
    case hE1 => refine ⟨?_, ?_, ?_, trivial⟩ <;> (simp only [List.getElem?_toArray, List.getElem?_cons_succ, List.getElem?_cons_zero]; rfl)
    case hstep1 =>
     refine ⟨⟨⟨⟨⟨⟨⟨⟨trivial, ?_⟩, ?_⟩, ?_⟩, ?_⟩, ?_⟩, ?_⟩, ?_⟩, ?_⟩
     iterate 8 focus
      intro γ w' he hf; clear hf; refine ⟨by trivial, ?_⟩; intro R hR; have hc := he.cells
      have cq0 := he.cell q0
      have cq1 := he.cell q1
      have cq2 := he.cell r0
      have cq3 := he.cell r1
      go_simp; (try go_ints); (try (rw [if_neg (by omega)])); (try (rw [if_pos (by omega)])); (try go_simp); (try go_ints)
      refine hR _ _ (Ext.refl _) ?_ trivial; rfl
    case hloc1 =>
     exact ⟨⟨⟨⟨⟨⟨⟨⟨trivial, (fun γ γ' h => ⟨rfl, fun _ => rfl⟩)⟩, (fun γ γ' h => ⟨rfl, fun _ => rfl⟩)⟩, (fun γ γ' h => ⟨rfl, fun _ => rfl⟩)⟩, (fun γ γ' h => ⟨rfl, fun _ => rfl⟩)⟩, (fun γ γ' h => ⟨rfl, fun _ => rfl⟩)⟩, (fun γ γ' h => ⟨rfl, fun _ => rfl⟩)⟩, (fun γ γ' h => ⟨rfl, fun _ => rfl⟩)⟩, (fun γ γ' h => ⟨rfl, fun _ => rfl⟩)⟩
    case hmono1 =>
     exact ⟨⟨⟨⟨⟨⟨⟨⟨trivial, (fun γ wA w' e h => h)⟩, (fun γ wA w' e h => h)⟩, (fun γ wA w' e h => h)⟩, (fun γ wA w' e h => h)⟩, (fun γ wA w' e h => h)⟩, (fun γ wA w' e h => h)⟩, (fun γ wA w' e h => h)⟩, (fun γ wA w' e h => h)⟩
    intro γ w1 hx1 hF
    clear hF
    simp only [fillAll, gV, kv, List.getD_cons_zero, List.getD_cons_succ, Act.put, List.setIfInBounds_toArray, List.set_cons_zero, List.set_cons_succ, List.toList_toArray, List.drop_succ_cons, List.drop_zero, List.drop_nil, Nat.zero_add, Nat.reduceAdd]
    clear γ
    go_wp2_with fail
    refine Calls.mono (sameint_b _ _ l[k] m[k] _ (Hq.out.1.kd hx1.kd) (Hq.out.2.kd hx1.kd)) ?_
    rintro e w2 ⟨r, rfl, rfl, hx2⟩
    replace hx := (hx.trans hx1).trans hx2
    clear q0 q1 r0 r1 hx1 hx2 Hq
    by_cases he : l[k] = m[k]
    ·have hb2 : decide (l[k] = m[k]) = true := decide_eq_true he
     have He := Lib.hid he; clear he
     go_wp2
     go_roundw
     case rel => exact ⟨k + 1, by omega, by go_num, fun j h h' h0 => by
      rcases Nat.lt_or_ge j k with h1 | h1
      ·exact Heq.out j h h' h1
      ·obtain rfl : j = k := by omega
       exact He.out, hx⟩
     case measure => simp [intOf] <;> omega
    ·have hb2 : decide (l[k] = m[k]) = false := decide_eq_false he
     have He := Lib.hid he; clear he
     have hd : D = false := by
      rw [HD.out]
      refine decide_eq_false fun e => He.out ?_
      subst e; rfl
     have HD' := Lib.hid hd; clear hd
     go_wp2
     go_ret
     rw [HD'.out]
     exact Gives.mk rfl hx
   ·obtain rfl : k = l.length := by omega
    have hd : D = true := by
     rw [HD.out]
     refine decide_eq_true (List.ext_getElem Hlen.out fun i h h' => Heq.out i h h' h)
    have HD' := Lib.hid hd; clear HV HU hd
    go_wp2
    go_ret
    rw [HD'.out]
    exact Gives.mk rfl hx
 ·have hb : ((l.length : Int) != (m.length : Int)) = true := by simp; omega
  have hd : D = false := by rw [HD.out]; exact decide_eq_false fun e => hlen (by rw [e])
  have HD' := Lib.hid hd; clear HV HU hd hlen
  go_enter Tryd.func17, Tryd.ntmps17
  go_wp2
  go_ret
  rw [HD'.out]
  exact Gives.mk rfl (Ext.refl _)
theorem sameints_p (v u : Value) (F G : Nat → Rat) (b1 b2 : Nat) (w : World) (hv : IsZP b1 w v F) (hu : IsZP b2 w u G) (hn : pl F ≤ 1099511627776) : Calls Tryd.prog 17 #[v, u] w (Gives w fun r _ => ∃ b : Bool, r = .bool b ∧ (b = true ↔ F = G)) := by
 obtain ⟨l, h1, h2, h3, rfl⟩ := hv.zs
 obtain ⟨m, k1, k2, k3, rfl⟩ := hu.zs
 refine Gives.imp (sameints_d v u l m b1 b2 w h1 k1 (by omega)) fun r _ h => ⟨_, h, ?_⟩
 rw [decide_eq_true_iff]
 exact ⟨fun e => by rw [e], fun e => zs_uniq h3 k3 e⟩
theorem sameints_t (v u : Value) (F : Nat → Rat) (b1 b2 : Nat) (w : World) (hv : IsZP b1 w v F) (hu : IsZP b2 w u F) (hn : pl F ≤ 1099511627776) : Calls Tryd.prog 17 #[v, u] w (Gives w fun r _ => r = .bool true) :=
 Gives.imp (sameints_p v u F F b1 b2 w hv hu hn) fun r _ ⟨b, h1, h2⟩ => by rw [h1, h2.2 rfl]
end Go.Proofs.YtfacbpnegkjcgaaDoor
namespace Go.Hp
open Go.RowKit
theorem IntsV.ext {w w' : World} {v : Value} {ns : List Int} (h : IntsV w v ns) (e : Ext w w') : IntsV w' v ns := by
 obtain ⟨g, c, h1, h2, h3, h4⟩ := h
 exact ⟨g, c, h1, h2, h3, fun j hj => e.cell (h4 j hj)⟩
theorem aw_res : (res (cz [1, 0, 1]) (cz [-2, 1])).num = 5 := by
 have h1 : pl (cz [1, 0, 1]) = 3 := pl_eq (cz_sup [1, 0, 1]) (fun _ => by decide +kernel)
 have h2 : pl (cz [-2, 1]) = 2 := pl_eq (cz_sup [-2, 1]) (fun _ => by decide +kernel)
 unfold res
 rw [h1, h2]
 decide +kernel
theorem aw_mul : pl (cv (cz [1, 1]) (cz [1, 1])) = 3 := by
 have h : pl (cz [1, 1]) = 2 := pl_eq (cz_sup [1, 1]) (fun _ => by decide +kernel)
 have h0 : cz [1, 1] ≠ pz := fun e => by rw [e, pl_pz] at h; omega
 rw [pl_cv (Fin_.cz _) (Fin_.cz _) h0 h0, h]
def Sl3 (v : Value) : Prop := ∃ A c, v = .slice A 3 c
theorem small_cz {l : List Int} (h : ∀ x ∈ l, sz x.natAbs ≤ 1) (i : Nat) : qsz (cz l i) ≤ 1 := cz_qsz h (by omega) i
end Go.Hp
namespace Go.Proofs.YtfacbpnegkjcgaaDoor
open Go.RowKit Go.Hp
theorem sameint_t (v u : Value) (x : Int) (w : World) (hv : IsZ w v x) (hu : IsZ w u x) : Calls Tryd.prog 8 #[v, u] w (Gives w fun r _ => r = .bool true) :=
 Gives.imp (sameint_b v u x x w hv hu) fun r _ h => by rw [h]; simp
set_option maxRecDepth 20000 in
set_option maxHeartbeats 4000000 in
theorem awake_z (w : World) : Calls Tryd.prog 5 #[] w (Gives w fun r _ => r = .bool true) := by
 have K1 := Lib.hid (show ∀ x ∈ ([1, 0, 1] : List Int), sz x.natAbs ≤ 1 by decide +kernel)
 have K2 := Lib.hid (show ∀ x ∈ ([-2, 1] : List Int), sz x.natAbs ≤ 1 by decide +kernel)
 have K3 := Lib.hid (show ∀ x ∈ ([1, 1] : List Int), sz x.natAbs ≤ 1 by decide +kernel)
 go_enter Tryd.func5, Tryd.ntmps5
 go_wp2_with fail
 refine Calls.mono (zs_b _ [1, 0, 1] _ (IntsV.new w _ [1, 0, 1] (by decide)) (by decide) (by decide)) ?_
 rintro e w1 ⟨r1, rfl, h1, hx⟩
 have H1 := Lib.hid (h1.has (fun x hx => by have := K1.out x hx; omega)); clear h1
 replace hx := hx.a1
 go_wp2_with fail
 refine Calls.mono (zs_b _ [-2, 1] _ (IntsV.new w1 _ [-2, 1] (by decide)) (by decide) (by decide)) ?_
 rintro e w2 ⟨r2, rfl, h2, hx2⟩
 have H2 := Lib.hid (h2.has (fun x hx => by have := K2.out x hx; omega)); clear h2
 have H1 := Lib.hid (H1.out.ext hx2.a1)
 replace hx := hx.trans hx2.a1
 clear hx2
 have hpl1 : pl (cz [1, 0, 1]) ≤ 3 := pl_le (cz_sup [1, 0, 1])
 have hpl2 : pl (cz [-2, 1]) ≤ 2 := pl_le (cz_sup [-2, 1])
 have HB := Lib.hid (show 8 + 8 * ((pl (cz [1, 0, 1]) + pl (cz [-2, 1]) + 1) * ((pl (cz [1, 0, 1]) + pl (cz [-2, 1]) + 1) * ((1 + 1) * 2 ^ (pl (cz [1, 0, 1]) + pl (cz [-2, 1]))))) ≤ 1099511627776 from by
  have a1 : 2 ^ (pl (cz [1, 0, 1]) + pl (cz [-2, 1])) ≤ 2 ^ 5 := Nat.pow_le_pow_right (by decide) (by omega)
  have a2 : (pl (cz [1, 0, 1]) + pl (cz [-2, 1]) + 1) * ((pl (cz [1, 0, 1]) + pl (cz [-2, 1]) + 1) * ((1 + 1) * 2 ^ (pl (cz [1, 0, 1]) + pl (cz [-2, 1])))) ≤ 6 * (6 * ((1 + 1) * 2 ^ 5)) := Nat.mul_le_mul (by omega) (Nat.mul_le_mul (by omega) (Nat.mul_le_mul_left _ a1))
  omega)
 clear hpl1 hpl2
 go_wp2_with fail
 refine Calls.mono (resultant_z _ _ [1, 0, 1] [-2, 1] 1 _ H1.out H2.out (small_cz K1.out) (small_cz K2.out) (by decide) (by decide) HB.out) ?_
 rintro e w3 ⟨r3, rfl, h3, hx3⟩
 rw [aw_res] at h3
 obtain ⟨b5, A5, n5, c5, rfl⟩ := h3.cells
 obtain ⟨W9, eW9, e9, x9⟩ := Box.made w3 28 #[.bool b5, .slice A5 n5 c5] (by simp [isDig])
 replace hx := (hx.trans hx3).trans x9
 have H3 := Lib.hid (h3.kd x9.kd)
 clear hx3 h3 H1 H2 HB
 go_upto_region 2 with (fail)
 rw [← eW9]
 clear eW9 x9
 generalize w3.heap.size = gb at *
 obtain ⟨q0, q1⟩ := e9.cells2
 go_wp2_with fail
 refine wp_region_par (k := 18) (D := [7, 8, 9, 10, 11, 12, 13, 14, 15, 16, 17, 18, 19, 20, 21, 22, 23, 24]) (T := [[], [], [0, 1], [0, 1, 2], [0, 1, 2, 3], [0, 1, 2, 3, 4], [0, 1, 2, 3, 4, 5], [0, 1, 2, 3, 4, 5, 6], [0, 1, 2, 3, 4, 5, 6, 7], [0, 1, 2, 3, 4, 5, 6, 7, 8], [0, 1, 2, 3, 4, 5, 6, 7, 8, 9], [0, 1, 2, 3, 4, 5, 6, 7, 8, 9, 10], [0, 1, 2, 3, 4, 5, 6, 7, 8, 9], [0, 1, 2, 3, 4, 5, 6, 7, 8, 9, 10, 11, 12], [0, 1, 2, 3, 4, 5, 6, 7, 8, 9, 10, 11, 12, 13], [0, 1, 2, 3, 4, 5, 6, 7, 8, 9, 10, 11, 12, 13, 14], [0, 1, 2, 3, 4, 5, 6, 7, 8, 9, 10, 11, 12, 13, 14, 15], [0, 1, 2, 3, 4, 5, 6, 7, 8, 9, 10, 11, 12, 13, 14, 15, 16], [0, 1, 2, 3, 4, 5, 6, 7, 8, 9, 10, 11, 12, 13, 14, 15, 16, 17]]) (EK := [1]) (EV := [?e1x0]) (VL := [(kv ?v1x0), (fun γ => γ 1), (kv (.bool true)), (kv ?v1x3), (fun γ => γ 4), (fun γ => γ 5), (kv (.string ⟨#[51, 42, 120, 94, 50, 32, 45, 32, 120, 32, 43, 32, 53]⟩)), (kv ?v1x7), (kv ?v1x8), (kv ?v1x9), (fun γ => γ 10), (fun γ => γ 11), (fun γ => γ 12), (fun γ => γ 13), (fun γ => γ 14), (kv (.int .i64 3)), (kv ?v1x16), (kv ?v1x17)]) (FL := fun γ w' => [True, IsZ w' (γ 1) 5, True, True, IntsV w' (γ 4) [5, -1, 3], ZsV 0 w' (γ 5) [5, -1, 3], True, True, True, True, IntsV w' (γ 10) [1, 1], ZsV 0 w' (γ 11) [1, 1], IntsV w' (γ 12) [1, 1], ZsV 0 w' (γ 13) [1, 1], Sl3 (γ 14), True, True, True]) ?hE1 (by kernel_rfl) (by kernel_rfl) (by rfl) (by kernel_rfl) ?hloc1 ?hmono1 ?hstep1 ?htail1
 case hE1 => refine ⟨?_, trivial⟩ <;> (simp only [List.getElem?_toArray, List.getElem?_cons_succ, List.getElem?_cons_zero]; rfl)
 case hstep1 =>
  refine ⟨⟨⟨⟨⟨⟨⟨⟨⟨⟨⟨⟨⟨⟨⟨⟨⟨⟨trivial, ?_⟩, ?_⟩, ?_⟩, ?_⟩, ?_⟩, ?_⟩, ?_⟩, ?_⟩, ?_⟩, ?_⟩, ?_⟩, ?_⟩, ?_⟩, ?_⟩, ?_⟩, ?_⟩, ?_⟩, ?_⟩
  iterate 1 focus
   intro γ w' he hf; clear hf; refine ⟨by trivial, ?_⟩; intro R hR; have hc := he.cells
   have cq0 := he.cell q0
   have cq1 := he.cell q1
   go_simp; (try go_ints); (try (rw [if_neg (by omega)])); (try (rw [if_pos (by omega)])); (try go_simp); (try go_ints)
   refine hR _ _ (Ext.refl _) ?_ trivial; rfl
  ·intro γ w' he hf; clear hf; refine ⟨trivial, ?_⟩; intro R hR
   go_simp
   refine Calls.mono (show Calls _ _ _ w' (Gives w' fun r w'' => IsZ w'' (r) 5) from z_b 5 w' (by omega) (by omega)) ?_
   rintro e w2 ⟨v, rfl, hv, hx⟩
   exact ⟨v, rfl, hR v w2 hx rfl hv⟩
  ·intro γ w' he hf; have f1 : IsZ w' (γ 1) 5 := hf 1 (by decide); clear hf; refine ⟨trivial, ?_⟩; intro R hR
   go_simp
   refine Calls.mono (show Calls _ _ _ w' (Gives w' fun r _ => r = .bool true) from sameint_t _ _ 5 w' (H3.out.kd he.kd) f1) ?_
   rintro e w2 ⟨v, rfl, rfl, hx⟩
   exact ⟨_, rfl, hR _ w2 hx rfl trivial⟩
  ·intro γ w' he hf; have f1 : IsZ w' (γ 1) 5 := hf 1 (by decide); clear hf; refine ⟨trivial, ?_⟩; intro R hR
   have hc := he.cells
   go_simp
   (try go_ints); (try (rw [if_neg (by omega)])); (try (rw [if_pos (by omega)])); (try go_simp); (try go_ints)
   refine hR _ _ (Ext.refl _) ?_ trivial
   rfl
  ·intro γ w' he hf; have f1 : IsZ w' (γ 1) 5 := hf 1 (by decide); clear hf; refine ⟨rfl, ?_⟩; intro R hR
   go_simp
   exact hR _ _ ((Ext.refl _).alloc _) rfl (IntsV.new w' _ [5, -1, 3] (by decide))
  ·intro γ w' he hf; have f1 : IsZ w' (γ 1) 5 := hf 1 (by decide); have f4 : IntsV w' (γ 4) [5, -1, 3] := hf 4 (by decide); clear hf; refine ⟨rfl, ?_⟩; intro R hR
   go_simp
   refine Calls.mono (show Calls _ _ _ w' (Gives w' fun r w'' => ZsV 0 w'' (r) [5, -1, 3]) from Gives.imp (zs_b _ [5, -1, 3] w' f4 (by decide) (by decide)) fun _ _ h => RowV.base_le h (Nat.zero_le _)) ?_
   rintro e w2 ⟨v, rfl, hv, hx⟩
   exact ⟨v, rfl, hR v w2 hx rfl hv⟩
  ·intro γ w' he hf; have f1 : IsZ w' (γ 1) 5 := hf 1 (by decide); have f4 : IntsV w' (γ 4) [5, -1, 3] := hf 4 (by decide); have f5 : ZsV 0 w' (γ 5) [5, -1, 3] := hf 5 (by decide); clear hf; refine ⟨rfl, ?_⟩; intro R hR
   go_simp
   refine Calls.mono (show Calls _ _ _ w' (Gives w' fun r _ => r = .string ⟨#[51, 42, 120, 94, 50, 32, 45, 32, 120, 32, 43, 32, 53]⟩) from format_aw _ 0 w' f5) ?_
   rintro e w2 ⟨v, rfl, rfl, hx⟩
   exact ⟨_, rfl, hR _ w2 hx rfl trivial⟩
  ·intro γ w' he hf; have f1 : IsZ w' (γ 1) 5 := hf 1 (by decide); have f4 : IntsV w' (γ 4) [5, -1, 3] := hf 4 (by decide); have f5 : ZsV 0 w' (γ 5) [5, -1, 3] := hf 5 (by decide); clear hf; refine ⟨rfl, ?_⟩; intro R hR
   have hc := he.cells
   go_simp
   (try go_ints); (try (rw [if_neg (by omega)])); (try (rw [if_pos (by omega)])); (try go_simp); (try go_ints)
   refine hR _ _ (Ext.refl _) ?_ trivial
   rfl
  ·intro γ w' he hf; have f1 : IsZ w' (γ 1) 5 := hf 1 (by decide); have f4 : IntsV w' (γ 4) [5, -1, 3] := hf 4 (by decide); have f5 : ZsV 0 w' (γ 5) [5, -1, 3] := hf 5 (by decide); clear hf; refine ⟨trivial, ?_⟩; intro R hR
   have hc := he.cells
   go_simp
   (try go_ints); (try (rw [if_neg (by omega)])); (try (rw [if_pos (by omega)])); (try go_simp); (try go_ints)
   refine hR _ _ (Ext.refl _) ?_ trivial
   rfl
  ·intro γ w' he hf; have f1 : IsZ w' (γ 1) 5 := hf 1 (by decide); have f4 : IntsV w' (γ 4) [5, -1, 3] := hf 4 (by decide); have f5 : ZsV 0 w' (γ 5) [5, -1, 3] := hf 5 (by decide); clear hf; refine ⟨trivial, ?_⟩; intro R hR
   have hc := he.cells
   go_simp
   (try go_ints); (try (rw [if_neg (by omega)])); (try (rw [if_pos (by omega)])); (try go_simp); (try go_ints)
   refine hR _ _ (Ext.refl _) ?_ trivial
   rfl
  ·intro γ w' he hf; have f1 : IsZ w' (γ 1) 5 := hf 1 (by decide); have f4 : IntsV w' (γ 4) [5, -1, 3] := hf 4 (by decide); have f5 : ZsV 0 w' (γ 5) [5, -1, 3] := hf 5 (by decide); clear hf; refine ⟨rfl, ?_⟩; intro R hR
   go_simp
   exact hR _ _ ((Ext.refl _).alloc _) rfl (IntsV.new w' _ [1, 1] (by decide))
  ·intro γ w' he hf; have f1 : IsZ w' (γ 1) 5 := hf 1 (by decide); have f4 : IntsV w' (γ 4) [5, -1, 3] := hf 4 (by decide); have f5 : ZsV 0 w' (γ 5) [5, -1, 3] := hf 5 (by decide); have f10 : IntsV w' (γ 10) [1, 1] := hf 10 (by decide); clear hf; refine ⟨rfl, ?_⟩; intro R hR
   go_simp
   refine Calls.mono (show Calls _ _ _ w' (Gives w' fun r w'' => ZsV 0 w'' (r) [1, 1]) from Gives.imp (zs_b _ [1, 1] w' f10 (by decide) (by decide)) fun _ _ h => RowV.base_le h (Nat.zero_le _)) ?_
   rintro e w2 ⟨v, rfl, hv, hx⟩
   exact ⟨v, rfl, hR v w2 hx rfl hv⟩
  ·intro γ w' he hf; have f1 : IsZ w' (γ 1) 5 := hf 1 (by decide); have f4 : IntsV w' (γ 4) [5, -1, 3] := hf 4 (by decide); have f5 : ZsV 0 w' (γ 5) [5, -1, 3] := hf 5 (by decide); clear hf; refine ⟨rfl, ?_⟩; intro R hR
   go_simp
   exact hR _ _ ((Ext.refl _).alloc _) rfl (IntsV.new w' _ [1, 1] (by decide))
  ·intro γ w' he hf; have f1 : IsZ w' (γ 1) 5 := hf 1 (by decide); have f4 : IntsV w' (γ 4) [5, -1, 3] := hf 4 (by decide); have f5 : ZsV 0 w' (γ 5) [5, -1, 3] := hf 5 (by decide); have f10 : IntsV w' (γ 10) [1, 1] := hf 10 (by decide); have f11 : ZsV 0 w' (γ 11) [1, 1] := hf 11 (by decide); have f12 : IntsV w' (γ 12) [1, 1] := hf 12 (by decide); clear hf; refine ⟨rfl, ?_⟩; intro R hR
   go_simp
   refine Calls.mono (show Calls _ _ _ w' (Gives w' fun r w'' => ZsV 0 w'' (r) [1, 1]) from Gives.imp (zs_b _ [1, 1] w' f12 (by decide) (by decide)) fun _ _ h => RowV.base_le h (Nat.zero_le _)) ?_
   rintro e w2 ⟨v, rfl, hv, hx⟩
   exact ⟨v, rfl, hR v w2 hx rfl hv⟩
  ·intro γ w' he hf; have f1 : IsZ w' (γ 1) 5 := hf 1 (by decide); have f4 : IntsV w' (γ 4) [5, -1, 3] := hf 4 (by decide); have f5 : ZsV 0 w' (γ 5) [5, -1, 3] := hf 5 (by decide); have f10 : IntsV w' (γ 10) [1, 1] := hf 10 (by decide); have f11 : ZsV 0 w' (γ 11) [1, 1] := hf 11 (by decide); have f12 : IntsV w' (γ 12) [1, 1] := hf 12 (by decide); have f13 : ZsV 0 w' (γ 13) [1, 1] := hf 13 (by decide); clear hf; refine ⟨rfl, ?_⟩; intro R hR
   go_simp
   refine Calls.mono (zmul_p _ _ [1, 1] [1, 1] 1 1 w' (f11.has (fun x hx => by have := K3.out x hx; omega)) (f13.has (fun x hx => by have := K3.out x hx; omega)) (small_cz K3.out) (small_cz K3.out) (by decide) (by decide) (by decide)) ?_
   rintro e w2 ⟨v, rfl, hv, hx⟩
   obtain ⟨A, c, e1, -⟩ := hv.shape
   rw [aw_mul] at e1
   exact ⟨v, rfl, hR v w2 hx rfl ⟨A, c, e1⟩⟩
  ·intro γ w' he hf; have f1 : IsZ w' (γ 1) 5 := hf 1 (by decide); have f4 : IntsV w' (γ 4) [5, -1, 3] := hf 4 (by decide); have f5 : ZsV 0 w' (γ 5) [5, -1, 3] := hf 5 (by decide); have f10 : IntsV w' (γ 10) [1, 1] := hf 10 (by decide); have f11 : ZsV 0 w' (γ 11) [1, 1] := hf 11 (by decide); have f12 : IntsV w' (γ 12) [1, 1] := hf 12 (by decide); have f13 : ZsV 0 w' (γ 13) [1, 1] := hf 13 (by decide); have f14 : Sl3 (γ 14) := hf 14 (by decide); clear hf; refine ⟨rfl, ?_⟩; intro R hR
   obtain ⟨A14, c14, e14⟩ := f14
   have hc := he.cells
   go_simp
   (try go_ints); (try (rw [if_neg (by omega)])); (try (rw [if_pos (by omega)])); (try go_simp); (try go_ints)
   refine hR _ _ (Ext.refl _) ?_ trivial
   rfl
  ·intro γ w' he hf; have f1 : IsZ w' (γ 1) 5 := hf 1 (by decide); have f4 : IntsV w' (γ 4) [5, -1, 3] := hf 4 (by decide); have f5 : ZsV 0 w' (γ 5) [5, -1, 3] := hf 5 (by decide); have f10 : IntsV w' (γ 10) [1, 1] := hf 10 (by decide); have f11 : ZsV 0 w' (γ 11) [1, 1] := hf 11 (by decide); have f12 : IntsV w' (γ 12) [1, 1] := hf 12 (by decide); have f13 : ZsV 0 w' (γ 13) [1, 1] := hf 13 (by decide); have f14 : Sl3 (γ 14) := hf 14 (by decide); clear hf; refine ⟨rfl, ?_⟩; intro R hR
   have hc := he.cells
   go_simp
   (try go_ints); (try (rw [if_neg (by omega)])); (try (rw [if_pos (by omega)])); (try go_simp); (try go_ints)
   refine hR _ _ (Ext.refl _) ?_ trivial
   rfl
  ·intro γ w' he hf; have f1 : IsZ w' (γ 1) 5 := hf 1 (by decide); have f4 : IntsV w' (γ 4) [5, -1, 3] := hf 4 (by decide); have f5 : ZsV 0 w' (γ 5) [5, -1, 3] := hf 5 (by decide); have f10 : IntsV w' (γ 10) [1, 1] := hf 10 (by decide); have f11 : ZsV 0 w' (γ 11) [1, 1] := hf 11 (by decide); have f12 : IntsV w' (γ 12) [1, 1] := hf 12 (by decide); have f13 : ZsV 0 w' (γ 13) [1, 1] := hf 13 (by decide); have f14 : Sl3 (γ 14) := hf 14 (by decide); clear hf; refine ⟨trivial, ?_⟩; intro R hR
   have hc := he.cells
   go_simp
   (try go_ints); (try (rw [if_neg (by omega)])); (try (rw [if_pos (by omega)])); (try go_simp); (try go_ints)
   refine hR _ _ (Ext.refl _) ?_ trivial
   rfl
 case hloc1 =>
  exact ⟨⟨⟨⟨⟨⟨⟨⟨⟨⟨⟨⟨⟨⟨⟨⟨⟨⟨trivial, (fun γ γ' h => ⟨rfl, fun _ => rfl⟩)⟩, (fun γ γ' h => ⟨h 1 rfl, fun w' => (congrArg (fun a => IsZ w' (a) 5) (h 1 rfl))⟩)⟩, (fun γ γ' h => ⟨rfl, fun _ => rfl⟩)⟩, (fun γ γ' h => ⟨rfl, fun _ => rfl⟩)⟩, (fun γ γ' h => ⟨h 4 rfl, fun w' => (congrArg (fun a => IntsV w' (a) [5, -1, 3]) (h 4 rfl))⟩)⟩, (fun γ γ' h => ⟨h 5 rfl, fun w' => (congrArg (fun a => ZsV 0 w' (a) [5, -1, 3]) (h 5 rfl))⟩)⟩, (fun γ γ' h => ⟨rfl, fun _ => rfl⟩)⟩, (fun γ γ' h => ⟨rfl, fun _ => rfl⟩)⟩, (fun γ γ' h => ⟨rfl, fun _ => rfl⟩)⟩, (fun γ γ' h => ⟨rfl, fun _ => rfl⟩)⟩, (fun γ γ' h => ⟨h 10 rfl, fun w' => (congrArg (fun a => IntsV w' (a) [1, 1]) (h 10 rfl))⟩)⟩, (fun γ γ' h => ⟨h 11 rfl, fun w' => (congrArg (fun a => ZsV 0 w' (a) [1, 1]) (h 11 rfl))⟩)⟩, (fun γ γ' h => ⟨h 12 rfl, fun w' => (congrArg (fun a => IntsV w' (a) [1, 1]) (h 12 rfl))⟩)⟩, (fun γ γ' h => ⟨h 13 rfl, fun w' => (congrArg (fun a => ZsV 0 w' (a) [1, 1]) (h 13 rfl))⟩)⟩, (fun γ γ' h => ⟨h 14 rfl, fun w' => (congrArg (fun a => Sl3 (a)) (h 14 rfl))⟩)⟩, (fun γ γ' h => ⟨rfl, fun _ => rfl⟩)⟩, (fun γ γ' h => ⟨rfl, fun _ => rfl⟩)⟩, (fun γ γ' h => ⟨rfl, fun _ => rfl⟩)⟩
 case hmono1 =>
  exact ⟨⟨⟨⟨⟨⟨⟨⟨⟨⟨⟨⟨⟨⟨⟨⟨⟨⟨trivial, (fun γ wA w' e h => h)⟩, (fun γ wA w' e h => (show IsZ wA (γ 1) 5 from h).ext e)⟩, (fun γ wA w' e h => h)⟩, (fun γ wA w' e h => h)⟩, (fun γ w w' e h => IntsV.ext h e)⟩, (fun γ wA w' e h => (show ZsV 0 wA (γ 5) [5, -1, 3] from h).ext e)⟩, (fun γ wA w' e h => h)⟩, (fun γ wA w' e h => h)⟩, (fun γ wA w' e h => h)⟩, (fun γ wA w' e h => h)⟩, (fun γ w w' e h => IntsV.ext h e)⟩, (fun γ wA w' e h => (show ZsV 0 wA (γ 11) [1, 1] from h).ext e)⟩, (fun γ w w' e h => IntsV.ext h e)⟩, (fun γ wA w' e h => (show ZsV 0 wA (γ 13) [1, 1] from h).ext e)⟩, (fun γ w w' e h => h)⟩, (fun γ wA w' e h => h)⟩, (fun γ wA w' e h => h)⟩, (fun γ wA w' e h => h)⟩
 intro γ w4 hx4 hF
 have p1 : IsZ w4 (γ 1) 5 := Each.get hF 1 (by decide)
 have p4 : IntsV w4 (γ 4) [5, -1, 3] := Each.get hF 4 (by decide)
 have p5 : ZsV 0 w4 (γ 5) [5, -1, 3] := Each.get hF 5 (by decide)
 have p10 : IntsV w4 (γ 10) [1, 1] := Each.get hF 10 (by decide)
 have p11 : ZsV 0 w4 (γ 11) [1, 1] := Each.get hF 11 (by decide)
 have p12 : IntsV w4 (γ 12) [1, 1] := Each.get hF 12 (by decide)
 have p13 : ZsV 0 w4 (γ 13) [1, 1] := Each.get hF 13 (by decide)
 have p14 : Sl3 (γ 14) := Each.get hF 14 (by decide)
 clear hF
 simp only [fillAll, gV, kv, List.getD_cons_zero, List.getD_cons_succ, Act.put, List.setIfInBounds_toArray, List.set_cons_zero, List.set_cons_succ, List.toList_toArray, List.drop_succ_cons, List.drop_zero, List.drop_nil, Nat.zero_add, Nat.reduceAdd]
 generalize γ 1 = g1 at *
 generalize γ 4 = g4 at *
 generalize γ 5 = g5 at *
 generalize γ 10 = g10 at *
 generalize γ 11 = g11 at *
 generalize γ 12 = g12 at *
 generalize γ 13 = g13 at *
 generalize γ 14 = g14 at *
 clear γ
 clear p4 p5 p10 p11 p12 p13
 go_wp2
 go_ret
 exact Gives.mk rfl (hx.trans hx4)
end Go.Proofs.YtfacbpnegkjcgaaDoor
namespace Go.Hp
open Go.RowKit
end Go.Hp
namespace Go.Proofs.YtfacbpnegkjcgaaDoor
open Go.RowKit Go.Hp
end Go.Proofs.YtfacbpnegkjcgaaDoor
namespace Go.Proofs.YtfacbpnegkjcgaaDoor
open Go.RowKit Go.Hp
theorem zscale_pp (v u : Value) (F : Nat → Rat) (a : Int) (w : World) (hv : IsZP 0 w v F) (hs : ∀ i, qsz (F i) ≤ 1099511627776) (hu : HasZ w u a) (hn : pl F ≤ 1099511627776) :
  Calls Tryd.prog 37 #[v, u] w (Gives w fun r w' => IsZP 0 w' r (psc (a : Rat) F)) := by
 obtain ⟨l, h1, h2, -, rfl⟩ := hv.hz hs
 exact Gives.imp (zscale_p v u l a w h1 hu (by omega)) fun _ _ h => h.base_le (Nat.zero_le _)
end Go.Proofs.YtfacbpnegkjcgaaDoor
namespace Go.Hp
end Go.Hp
namespace Go.Proofs.YtfacbpnegkjcgaaDoor
open Go.RowKit Go.Hp
end Go.Proofs.YtfacbpnegkjcgaaDoor
namespace Go.Hp
open Go.RowKit
theorem qz_num {q : Rat} {s : Nat} (h : qsz q ≤ s) : sz q.num.natAbs ≤ s := by unfold qsz at h; omega
theorem lzf_hz' {base : Nat} {w : World} {v : Value} {n : Nat} {F : Nat → Rat} {e : TypeId} (h : OwnZ base e w v (lzf n F)) (hs : ∀ i, i < n → qsz (F i) ≤ 1099511627776) : HzV 0 w v (lzf n F) :=
 ZsV.has h.row fun x hx => by
  obtain ⟨i, hi, rfl⟩ := List.getElem_of_mem hx
  rw [lzf_get]
  have := hs i (by rw [lzf_len] at hi; exact hi)
  unfold qsz at this; omega
theorem lz_at {la : List Int} {F : Nat → Rat} (e : cz la = F) {i : Nat} (h : i < la.length) : la[i] = (F i).num := by
 subst e; rw [cz_lt h]; rfl
end Go.Hp
namespace Go.Proofs.YtfacbpnegkjcgaaDoor
open Go.RowKit Go.Hp
end Go.Proofs.YtfacbpnegkjcgaaDoor
namespace Go.Hp
open Go.RowKit
theorem pd_zi {F : Nat → Rat} (h : ZI F) : ZI (pd F) := fun i => by
 obtain ⟨n, e⟩ := h (i + 1)
 exact ⟨((i + 1 : Nat) : Int) * n, by unfold pd; rw [e, Rat.intCast_mul]; rfl⟩
theorem OwnZ.off {base : Nat} {e : TypeId} {w w' : World} {v : Value} {l : List Int} {g : Nat} (h : OwnZ base e w v l) (U : Upd [g] w w') (hg : ∀ k ∈ blk v, k < g) : OwnZ base e w' v l :=
 OwnR.upd h U (fun k hk hG => by have := hg k hk; simp at hG; omega) fun _ _ q => q.kd U.kd
theorem sm_zi {F G : Nat → Rat} (hF : ZI F) (hG : ZI G) (n : Nat) : ∀ i, ∃ z : Int, sm i (fun j => F j * G (n - j)) = (z : Rat) := fun i =>
 sm_int fun j _ => by rw [hF.num j, hG.num (n - j), ← Rat.intCast_mul]; exact ⟨_, rfl⟩
theorem sm_nsucc {F G : Nat → Rat} (hF : ZI F) (hG : ZI G) (n i : Nat) : (sm (i + 1) (fun j => F j * G (n - j))).num = (sm i (fun j => F j * G (n - j))).num + (F i).num * (G (n - i)).num := by
 rw [sm_succ]
 obtain ⟨z, e⟩ := sm_zi hF hG n i
 rw [e, hF.num i, hG.num (n - i), ← Rat.intCast_mul, num_add]; rfl
end Go.Hp
namespace Go.Proofs.YtfacbpnegkjcgaaDoor
open Go.RowKit Go.Hp
set_option maxRecDepth 20000 in
set_option maxHeartbeats 4000000 in
theorem mul_rzp (v u : Value) (l m : List Int) (s t : Nat) (w : World) (hv : HzV 0 w v l) (hu : HzV 0 w u m) (hs : ∀ i, qsz (cz l i) ≤ s) (ht : ∀ i, qsz (cz m i) ≤ t) (hst : 1 + (l.length + m.length) * (s + t + 1) ≤ 274877906944) (hn : l.length ≤ 274877906944) (hm : m.length ≤ 274877906944) :
  Calls Tryd.prog 15 #[v, u] w (Gives w fun r w' => IsZP w.heap.size w' r (cv (cz l) (cz m))) := by
 have HV := Lib.hid hv; have HU := Lib.hid hu
 obtain ⟨A, c, rfl⟩ := hv.len
 obtain ⟨E, d, rfl⟩ := hu.len
 clear hv hu
 have hp0 := pl_le (cz_sup l)
 have hq0 := pl_le (cz_sup m)
 have HF := Lib.hid (And.intro (Fin_.cz l) (Fin_.cz m))
 have HI := Lib.hid (And.intro (ZI.cz l) (ZI.cz m))
 obtain ⟨F, hF⟩ : ∃ F, F = cz l := ⟨_, rfl⟩
 obtain ⟨G, hG⟩ : ∃ G, G = cz m := ⟨_, rfl⟩
 rw [← hF, ← hG] at HF HI
 rw [← hF] at hs hp0
 rw [← hG] at ht hq0
 rw [← hF, ← hG]
 have HN := Lib.hid (And.intro (normal_rz _ l w HV.out (by omega)) (fun w' (e : Ext w w') => normal_rz _ m w' (HU.out.ext e) (by omega)))
 rw [← hF, ← hG] at HN
 clear hF hG HV HU
 have HS := Lib.hid (And.intro hs (And.intro ht hst)); clear hs ht hst
 go_enter Tryd.func15, Tryd.ntmps15
 go_wp2_with fail
 refine Calls.mono HN.out.1 ?_
 rintro e w1 ⟨r1, rfl, hr1, hx1⟩
 have Hr1 := Lib.hid hr1; clear hr1
 go_wp2_with fail
 refine Calls.mono (HN.out.2 w1 hx1) ?_
 rintro e w2 ⟨r2, rfl, hr2, hx2⟩
 obtain ⟨A1, c1, la, rfl, k1, k2, hA, k3, k4, k5⟩ := (Hr1.out.ext hx2).form
 obtain ⟨A2, c2, lb, rfl, k6, k7, hB, k8, k9, k10⟩ := hr2.form
 replace hx1 := hx1.trans hx2
 have HA := Lib.hid (And.intro hA (And.intro k3 k5)); have HB := Lib.hid (And.intro hB (And.intro k8 k10))
 clear hx2 Hr1 hr2 hA hB k3 k4 k5 k8 k9 k10 HN
 obtain ⟨p, hp⟩ : ∃ p, p = pl F := ⟨_, rfl⟩
 obtain ⟨q, hq⟩ : ∃ q, q = pl G := ⟨_, rfl⟩
 rw [← hp] at HA hp0 ⊢
 rw [← hp] at k1
 rw [← hq] at HB hq0 k6 ⊢
 have HP := Lib.hid (And.intro hp hq); clear hp hq
 by_cases h0 : p = 0
 ·have b0 : ((p : Int) == 0) = true := by rw [h0]; rfl
  have H0 := Lib.hid h0; clear h0
  go_wp2
  go_ret
  have : F = pz := (pl_zero HF.out.1).1 (by rw [← HP.out.1]; exact H0.out)
  rw [this, pz_cv]
  exact Gives.mk (IsZP.nil _ _) hx1
 have b0 : ((p : Int) == 0) = false := by simpa using h0
 by_cases h1 : q = 0
 ·have b1 : ((q : Int) == 0) = true := by rw [h1]; rfl
  have H1 := Lib.hid h1; clear h0 h1
  go_wp2
  go_ret
  have : G = pz := (pl_zero HF.out.2).1 (by rw [← HP.out.2]; exact H1.out)
  rw [this, cv_pz]
  exact Gives.mk (IsZP.nil _ _) hx1
 have b1 : ((q : Int) == 0) = false := by simpa using h1
 have sF : Sup p F := by rw [HP.out.1]; exact pl_sup HF.out.1
 have sG : Sup q G := by rw [HP.out.2]; exact pl_sup HF.out.2
 have HZ := Lib.hid (And.intro sF sG); clear sF sG
 obtain ⟨N, hN⟩ : ∃ N, p + q = N + 1 := ⟨p + q - 1, by omega⟩
 have hN1 : N ≤ 549755813888 := by omega
 have HL := Lib.hid (show N + 1 ≤ l.length + m.length by omega)
 have hpb : p ≤ 549755813888 := by omega
 have hqb : q ≤ 549755813888 := by omega
 clear h0 h1 hp0 hq0
 have HW := Lib.hid hx1; clear hx1
 obtain ⟨wb, hwb⟩ : ∃ wb : World, wb = w2 := ⟨_, rfl⟩
 subst hwb
 go_wp2
 go_loopw [7, 8] (fun ov iv wr => ∃ (n : Nat), n ≤ N ∧ iv = .int .i64 n ∧ OwnZ wb.heap.size 28 wr ov (lzf n (cv F G)) ∧ Ext wb wr) (fun _ iv _ => N - (intOf iv).toNat)
 case atStart => exact ⟨0, Nat.zero_le _, rfl, OwnR.nil _ _ _ _ _, Ext.refl _⟩
 case round =>
  obtain ⟨n, hn, rfl, hown, hx⟩ := hrel
  by_cases hnN : n < N
  ·have Hown0 := Lib.hid hown; clear hown
   go_wp2_with fail
   refine Calls.mono (of_r 0 _ (by omega) (by omega)) ?_
   rintro e w3 ⟨r3, rfl, hr3, hx3⟩
   obtain ⟨b5, A5, n5, c5, rfl⟩ := hr3.cells
   have hown := Hown0.out.ext hx3
   have Hbk := Lib.hid (fun g hg => (OwnR.blk_ge hown g hg).2)
   replace hx := hx.trans hx3
   clear hx3 Hown0
   go_upto_region 9 with (fail)
   obtain ⟨W9, eW9, e9, x9⟩ := Box.made w3 28 #[.bool b5, .slice A5 n5 c5] (by simp [isDig])
   rw [← eW9]
   clear eW9
   have eb := BoxZ.mk e9 (hr3.kd x9.kd)
   replace hown := OwnZ.ext hown x9
   have Hsz9 := Lib.hid hx.size
   replace hx := hx.trans x9
   have Hown := Lib.hid hown
   clear x9 hr3 e9 hown
   generalize w3.heap.size = gb at *
   go_wp2
   go_loopw [10] (fun iv wx => ∃ (i : Nat), i ≤ n + 1 ∧ iv = .int .i64 i ∧ BoxZ wx gb 28 (sm i (fun j => F j * G (n - j))).num ∧ OwnZ wb.heap.size 28 wx u7 (lzf n (cv F G)) ∧ Ext wb wx) (fun iv _ => n + 1 - (intOf iv).toNat)
   case atStart => exact ⟨0, Nat.zero_le _, rfl, eb, Hown.out, hx⟩
   case round =>
    clear eb hx Hown
    obtain ⟨i, hi, rfl, ⟨z1, Z1, zn, zc, ez, hz⟩, hown, hx⟩ := hrel
    have Hz := Lib.hid hz; clear hz
    have Hown := Lib.hid hown; clear hown
    by_cases hin : i < n + 1
    ·by_cases hip : i < p
     ·by_cases hiq : n - i < q
      ·have hiq' : (n : Int) - i < q := by omega
       obtain ⟨g, o, b, B1, n1, d1, rfl, _, q0, q1, hqa⟩ := HA.out.1.at_ (j := i) (by rw [HA.out.2.1]; exact hip)
       obtain ⟨g', o', bb, B2, n2, d2, rfl, _, r0, r1, hqb'⟩ := HB.out.1.at_ (j := n - i) (by rw [HB.out.2.1]; exact hiq)
       have ea := lz_at HA.out.2.2 (i := i) (by rw [HA.out.2.1]; exact hip)
       have eb' := lz_at HB.out.2.2 (i := n - i) (by rw [HB.out.2.1]; exact hiq)
       rw [ea] at hqa
       rw [eb'] at hqb'
       replace q0 := hx.cell q0
       replace q1 := hx.cell q1
       replace r0 := hx.cell r0
       replace r1 := hx.cell r1
       have Hqa := Lib.hid (hqa.kd hx.kd); have Hqb := Lib.hid (hqb'.kd hx.kd); clear hqa hqb' ea eb'
       have HQ := Lib.hid (show sz (F i).num.natAbs ≤ 274877906944 ∧ sz (G (n - i)).num.natAbs ≤ 274877906944 ∧ sz ((F i).num * (G (n - i)).num).natAbs ≤ 274877906944 ∧ sz (sm i (fun j => F j * G (n - j))).num.natAbs ≤ 274877906944 by
        have h1 := HS.out.1 i; have h2 := HS.out.2.1 (n - i)
        have h3 := qsz_mul (F i) (G (n - i))
        have h4 := smm_qsz HS.out.1 HS.out.2.1 n i
        have h5 := mul_le_of (i := i) (by have := HL.out; omega) HS.out.2.2
        have h6 := mul_le_of (i := 1) (by have := HL.out; omega) HS.out.2.2
        have h7 := qz_num h1
        have h8 := qz_num h2
        have h9 := qz_num h4
        have h10 := qz_num h3
        rw [HI.out.1.num_mul HI.out.2] at h10
        omega)
       obtain ⟨cez0, cez1⟩ := ez.cells2
       have fez := ez.frozen
       go_wp2_with fail
       refine wp_region_par (k := 13) (D := [51, 52, 53, 54, 55, 56, 57, 58, 59, 60, 61, 62, 63]) (T := [[], [], [], [1, 2], [1, 2, 3], [], [], [], [6, 7], [5, 6, 7, 8], [5, 6, 7, 8, 9], [1, 2, 3, 4, 5, 6, 7, 8, 9, 10], [0, 1, 2, 3, 4, 5, 6, 7, 8, 9, 10, 11], [0, 1, 2, 3, 4, 5, 6, 7, 8, 9, 10, 11, 12]]) (EK := [9, 5, 10, 6, 8]) (EV := [?e1x0, ?e1x1, ?e1x2, ?e1x3, ?e1x4]) (VL := [(kv ?v1x0), (kv ?v1x1), (kv ?v1x2), (kv ?v1x3), (kv ?v1x4), (kv ?v1x5), (kv ?v1x6), (kv ?v1x7), (kv ?v1x8), (kv ?v1x9), (kv ?v1x10), (fun γ => γ 11), (fun γ => γ 12)]) (FL := fun γ w' => [True, True, True, True, True, True, True, True, True, True, True, IsZ w' (γ 11) ((F i).num * (G (n - i)).num), IsZ w' (γ 12) ((sm i (fun j => F j * G (n - j))).num + (F i).num * (G (n - i)).num)]) ?hE1 (by kernel_rfl) (by kernel_rfl) (by rfl) (by kernel_rfl) ?hloc1 ?hmono1 ?hstep1 ?htail1
       case hE1 => refine ⟨?_, ?_, ?_, ?_, ?_, trivial⟩ <;> (simp only [List.getElem?_toArray, List.getElem?_cons_succ, List.getElem?_cons_zero]; rfl)
       case hstep1 =>
        refine ⟨⟨⟨⟨⟨⟨⟨⟨⟨⟨⟨⟨⟨trivial, ?_⟩, ?_⟩, ?_⟩, ?_⟩, ?_⟩, ?_⟩, ?_⟩, ?_⟩, ?_⟩, ?_⟩, ?_⟩, ?_⟩, ?_⟩
        iterate 11 focus
         intro γ w' he hf; clear hf; refine ⟨by trivial, ?_⟩; intro R hR; have hc := he.cells
         have cq0 := he.cell cez0
         have cq1 := he.cell cez1
         have cq2 := he.cell q0
         have cq3 := he.cell q1
         have cq4 := he.cell r0
         have cq5 := he.cell r1
         go_simp; (try go_ints); (try (rw [if_neg (by omega)])); (try (rw [if_pos (by omega)])); (try go_simp); (try go_ints)
         refine hR _ _ (Ext.refl _) ?_ trivial; rfl
        ·intro γ w' he hf; clear hf; refine ⟨trivial, ?_⟩; intro R hR
         go_simp
         refine Calls.mono (show Calls _ _ _ w' (Gives w' fun r w'' => IsZ w'' (r) ((F i).num * (G (n - i)).num)) from mul_r _ _ _ _ w' ((Hqa.out.kd he.kd).has (by have := HQ.out.1; omega)) ((Hqb.out.kd he.kd).has (by have := HQ.out.2.1; omega)) (by have := HQ.out.1; omega) (by have := HQ.out.2.1; omega)) ?_
         rintro e w2 ⟨v, rfl, hv, hx⟩
         exact ⟨v, rfl, hR v w2 hx rfl hv⟩
        ·intro γ w' he hf; have f11 : IsZ w' (γ 11) ((F i).num * (G (n - i)).num) := hf 11 (by decide); clear hf; refine ⟨trivial, ?_⟩; intro R hR
         go_simp
         refine Calls.mono (show Calls _ _ _ w' (Gives w' fun r w'' => IsZ w'' (r) ((sm i (fun j => F j * G (n - j))).num + (F i).num * (G (n - i)).num)) from add_r _ _ _ _ w' ((Hz.out.kd he.kd).has (by have := HQ.out.2.2.2; omega)) (f11.has (by have := HQ.out.2.2.1; omega)) (by have := HQ.out; omega) (by have := HQ.out; omega)) ?_
         rintro e w2 ⟨v, rfl, hv, hx⟩
         exact ⟨v, rfl, hR v w2 hx rfl hv⟩
       case hloc1 =>
        exact ⟨⟨⟨⟨⟨⟨⟨⟨⟨⟨⟨⟨⟨trivial, (fun γ γ' h => ⟨rfl, fun _ => rfl⟩)⟩, (fun γ γ' h => ⟨rfl, fun _ => rfl⟩)⟩, (fun γ γ' h => ⟨rfl, fun _ => rfl⟩)⟩, (fun γ γ' h => ⟨rfl, fun _ => rfl⟩)⟩, (fun γ γ' h => ⟨rfl, fun _ => rfl⟩)⟩, (fun γ γ' h => ⟨rfl, fun _ => rfl⟩)⟩, (fun γ γ' h => ⟨rfl, fun _ => rfl⟩)⟩, (fun γ γ' h => ⟨rfl, fun _ => rfl⟩)⟩, (fun γ γ' h => ⟨rfl, fun _ => rfl⟩)⟩, (fun γ γ' h => ⟨rfl, fun _ => rfl⟩)⟩, (fun γ γ' h => ⟨rfl, fun _ => rfl⟩)⟩, (fun γ γ' h => ⟨h 11 rfl, fun w' => (congrArg (fun a => IsZ w' (a) ((F i).num * (G (n - i)).num)) (h 11 rfl))⟩)⟩, (fun γ γ' h => ⟨h 12 rfl, fun w' => (congrArg (fun a => IsZ w' (a) ((sm i (fun j => F j * G (n - j))).num + (F i).num * (G (n - i)).num)) (h 12 rfl))⟩)⟩
       case hmono1 =>
        exact ⟨⟨⟨⟨⟨⟨⟨⟨⟨⟨⟨⟨⟨trivial, (fun γ wA w' e h => h)⟩, (fun γ wA w' e h => h)⟩, (fun γ wA w' e h => h)⟩, (fun γ wA w' e h => h)⟩, (fun γ wA w' e h => h)⟩, (fun γ wA w' e h => h)⟩, (fun γ wA w' e h => h)⟩, (fun γ wA w' e h => h)⟩, (fun γ wA w' e h => h)⟩, (fun γ wA w' e h => h)⟩, (fun γ wA w' e h => h)⟩, (fun γ wA w' e h => (show IsZ wA (γ 11) ((F i).num * (G (n - i)).num) from h).ext e)⟩, (fun γ wA w' e h => (show IsZ wA (γ 12) ((sm i (fun j => F j * G (n - j))).num + (F i).num * (G (n - i)).num) from h).ext e)⟩
       intro γ w6 hx6 hF
       have p11 : IsZ w6 (γ 11) ((F i).num * (G (n - i)).num) := Each.get hF 11 (by decide)
       have p12 : IsZ w6 (γ 12) ((sm i (fun j => F j * G (n - j))).num + (F i).num * (G (n - i)).num) := Each.get hF 12 (by decide)
       clear hF
       simp only [fillAll, gV, kv, List.getD_cons_zero, List.getD_cons_succ, Act.put, List.setIfInBounds_toArray, List.set_cons_zero, List.set_cons_succ, List.toList_toArray, List.drop_succ_cons, List.drop_zero, List.drop_nil, Nat.zero_add, Nat.reduceAdd]
       generalize γ 11 = g11 at *
       generalize γ 12 = g12 at *
       clear γ
       clear cez0 cez1 fez q0 q1 r0 r1 p11 Hz Hqa Hqb HQ
       replace ez := ez.ext hx6
       replace hx := hx.trans hx6
       have hown := Hown.out.ext hx6
       clear hx6 Hown
       obtain ⟨b5, A5, n5, c5, rfl⟩ := p12.cells
       obtain ⟨cez0, cez1⟩ := ez.cells2
       have fez := ez.frozen
       go_wp2
       obtain ⟨W7, eW, ez', U⟩ := ez.put2 (.bool b5) (.slice A5 n5 c5) rfl rfl
       rw [← eW]
       clear eW ez cez0 cez1 fez
       replace hown := hown.off U Hbk.out
       replace hx := U.from_ hx (by have := Hsz9.out; simp; omega)
       have eq := BoxZ.mk ez' (p12.kd U.kd)
       clear U ez' p12
       have Hown := Lib.hid hown; clear hown
       go_roundw
       case rel => exact ⟨i + 1, by omega, by go_num, by rw [sm_nsucc HI.out.1 HI.out.2]; exact eq, Hown.out, hx⟩
       case measure => simp [intOf] <;> omega
      ·have hiq' : ¬ (n : Int) - i < q := by omega
       have hz0 : F i * G (n - i) = 0 := by rw [HZ.out.2 (n - i) (by omega)]; exact Rat.mul_zero _
       have Hz0 := Lib.hid hz0; clear hz0
       go_wp2
       go_roundw
       case rel => exact ⟨i + 1, by omega, by go_num, by rw [sm_succ, Hz0.out, Rat.add_zero]; exact BoxZ.mk ez Hz.out, Hown.out, hx⟩
       case measure => simp [intOf] <;> omega
     ·have hip' : ¬ (i : Int) < p := by omega
      have hz0 : F i * G (n - i) = 0 := by rw [HZ.out.1 i (by omega)]; exact Rat.zero_mul _
      have Hz0 := Lib.hid hz0; clear hz0
      go_wp2
      go_roundw
      case rel => exact ⟨i + 1, by omega, by go_num, by rw [sm_succ, Hz0.out, Rat.add_zero]; exact BoxZ.mk ez Hz.out, Hown.out, hx⟩
      case measure => simp [intOf] <;> omega
    ·obtain rfl : i = n + 1 := by omega
     rw [← cv_sm] at Hz
     have Hr := Lib.hid Hz.out; clear Hz
     obtain ⟨cez0, cez1⟩ := ez.cells2
     have fez := ez.frozen
     have hsz := hx.size
     go_wp2_with (at_builtin; refine wpList_append_run rfl _ _ 22 rfl u7 (.slice (some ⟨wr.heap.size, 0, none⟩) 1 1) rfl rfl (append_rz wr wb.heap.size _ _ _ _ _ Hown.out Hr.out (by first | (rw [lzf_len]; omega) | omega) hsz rfl) ?_)
     first | intro v' w5 hown U | rintro v' w5 ⟨hown, U⟩
     replace hx := (Hown.out.ext ((Ext.refl wr).alloc _)).from_ U (hx.alloc _) (Nat.le_refl _)
     have Hown' := Lib.hid hown; clear hown U
     go_wp2
     go_roundw
     case rel => exact ⟨n + 1, by omega, by go_num, by rw [lzf_succ]; exact Hown'.out, hx⟩
     case measure => simp [intOf] <;> omega
  ·obtain rfl : n = N := by omega
   have hh := lzf_hz' hown (fun i hi => (by rw [cv_sm]; exact Nat.le_trans (Nat.le_trans (smm_qsz HS.out.1 HS.out.2.1 i (i + 1)) (mul_le_of (by have := HL.out; omega) HS.out.2.2)) (by omega)))
   have hczl := cz_lzf (n := n) (F := cv F G) (HI.out.1.cv HI.out.2) ((HZ.out.1.cv HZ.out.2).mono (by omega))
   obtain ⟨A2, c2, e2⟩ := hh.len
   rw [lzf_len] at e2
   rw [e2] at hh
   clear hown
   subst e2
   have HH := Lib.hid (And.intro hh hczl); clear hh hczl
   go_wp2_with fail
   refine Calls.mono (normal_rz _ _ _ HH.out.1 (by rw [lzf_len]; omega)) ?_
   rintro e w9 ⟨r, rfl, hr, hx9⟩
   rw [HH.out.2] at hr
   have hsz := (HW.out.trans hx).size
   have Hr := Lib.hid hr; clear hr
   go_wp2
   go_ret
   exact Gives.mk (Hr.out.base_le (by omega)) ((HW.out.trans hx).trans hx9)
theorem append_zz (W : World) (v x : Value) (base b ty : Nat) (l : List Int) (q : Int) (h : OwnZ base 28 W v l) (hx : NewZ W x b q 28) (hn : l.length ≤ 1099511627776) (hb : base ≤ W.heap.size) :
  ∃ v' w', (Builtin.append_ #[23, 23] ty #[v, x]).run Tryd.prog W = .ok v' w' ∧ (OwnZ base 28 w' v' (l ++ [q]) ∧ Upd (blk v) W w') := by
 obtain ⟨g, cs, rfl, h1, h2, h3, h4⟩ := hx
 obtain ⟨i0, hi, hz0, hz1, hz2⟩ := info_parts info_int
 have ho := IsZ.one h4
 obtain ⟨v', w', a, b, c⟩ := OwnR.append (P := Tryd.prog) h 23 ty i0 _ 32 Tryd.underlying23 hi hz0 hz1 hz2 rfl (by simp [nodig, isDig, Value.cells]) (by decide) ⟨g, 0, none⟩ 1 cs h3 h4 h2.news ho.1 ho.2.1 (small_lenz hn) (by omega) hb (fun _ _ _ k hq => IsZ.kd hq k)
 exact ⟨v', w', a, b, c⟩
set_option maxRecDepth 20000 in
set_option maxHeartbeats 1000000 in
theorem zderivative_p (v : Value) (l : List Int) (w : World) (hv : HzV 0 w v l) (hn : l.length ≤ 1099511627776) :
  Calls Tryd.prog 41 #[v] w (Gives w fun r w' => IsZP w.heap.size w' r (pd (cz l))) := by
 obtain ⟨A, c, rfl, hl, hc, hA⟩ := hv
 have HA : Hid (HzAt 0 w A l) := Lib.hid hA; clear hA
 go_enter Tryd.func41, Tryd.ntmps41
 go_wp2
 go_loopw [3, 4] (fun ov iv wr => ∃ (k : Nat), 1 ≤ k ∧ k ≤ max l.length 1 ∧ iv = .int .i64 k ∧ OwnZ w.heap.size 28 wr ov (lzf (k - 1) (pd (cz l))) ∧ Ext w wr) (fun _ iv _ => l.length - (intOf iv).toNat)
 case atStart => exact ⟨1, by omega, by omega, by simp, OwnR.nil _ _ _ _ _, Ext.refl _⟩
 case round =>
  obtain ⟨k, hk1, hk, rfl, hown, hx⟩ := hrel
  by_cases hkl : k < l.length
  ·obtain ⟨g, o, b, A1, n, c1, rfl, _, q0, q1, hq⟩ := HA.out.at_ (j := k) hkl
   replace q0 := hx.cell q0
   replace q1 := hx.cell q1
   have hval : (pd (cz l) (k - 1)).num = (k : Int) * l[k] := by
    unfold pd
    rw [show k - 1 + 1 = k from by omega, cz_lt hkl]
    show (((k : Nat) : Int) * ((l[k] : Int) : Rat) : Rat).num = _
    rw [num_mul]
   have Hq := Lib.hid (And.intro hq hval); clear hq hval
   have Hown := Lib.hid hown; clear hown
   have HK := Lib.hid (show sz ((k : Nat) : Int).natAbs ≤ 2 from by
    have := qsz_int (x := (k : Int)) (by omega) (by omega)
    rw [qsz_cast] at this; omega)
   go_wp2_with fail
   refine wp_region_par (k := 9) (D := [11, 12, 13, 14, 15, 16, 17, 18, 19]) (T := [[], [], [1], [], [], [3, 4], [3, 4, 5], [1, 2, 3, 4, 5, 6], [1, 2, 3, 4, 5, 6, 7], [0, 1, 2, 3, 4, 5, 6, 7, 8], [0, 1, 2, 3, 4, 5, 6, 7, 8, 9]]) (EK := [3, 4, 0]) (EV := [?e2x0, ?e2x1, ?e2x2]) (VL := [(kv ?v2x0), (kv ?v2x1), (fun γ => γ 2), (kv ?v2x3), (kv ?v2x4), (kv ?v2x5), (kv ?v2x6), (fun γ => γ 7), (fun γ => γ 8)]) (FL := fun γ w' => [True, True, IsZ w' (γ 2) (k : Int), True, True, True, True, IsZ w' (γ 7) (pd (cz l) (k - 1)).num, NewZ w' (γ 8) (wr.heap.size) ((pd (cz l) (k - 1)).num) 28]) ?hE2 (by kernel_rfl) (by kernel_rfl) (by rfl) (by kernel_rfl) ?hloc2 ?hmono2 ?hstep2 ?htail2
   case hE2 => refine ⟨?_, ?_, ?_, trivial⟩ <;> (simp only [List.getElem?_toArray, List.getElem?_cons_succ, List.getElem?_cons_zero]; rfl)
   case hstep2 =>
    refine ⟨⟨⟨⟨⟨⟨⟨⟨⟨trivial, ?_⟩, ?_⟩, ?_⟩, ?_⟩, ?_⟩, ?_⟩, ?_⟩, ?_⟩, ?_⟩
    iterate 2 focus
     intro γ w' he hf; clear hf; refine ⟨by trivial, ?_⟩; intro R hR; have hc := he.cells
     go_simp; (try go_ints); (try (rw [if_neg (by omega)])); (try (rw [if_pos (by omega)])); (try go_simp); (try go_ints)
     refine hR _ _ (Ext.refl _) ?_ trivial; rfl
    ·intro γ w' he hf; clear hf; refine ⟨trivial, ?_⟩; intro R hR
     go_simp
     refine Calls.mono (show Calls _ _ _ w' (Gives w' fun r w'' => IsZ w'' (r) (k : Int)) from of_z (k : Int) w' (by omega) (by omega)) ?_
     rintro e w2 ⟨v, rfl, hv, hx⟩
     exact ⟨v, rfl, hR v w2 hx rfl hv⟩
    iterate 4 focus
     intro γ w' he hf; clear hf; refine ⟨by trivial, ?_⟩; intro R hR; have hc := he.cells
     have cq0 := he.cell q0
     have cq1 := he.cell q1
     go_simp; (try go_ints); (try (rw [if_neg (by omega)])); (try (rw [if_pos (by omega)])); (try go_simp); (try go_ints)
     refine hR _ _ (Ext.refl _) ?_ trivial; rfl
    ·intro γ w' he hf; have f2 : IsZ w' (γ 2) (k : Int) := hf 2 (by decide); clear hf; refine ⟨trivial, ?_⟩; intro R hR
     go_simp
     refine Calls.mono (show Calls _ _ _ w' (Gives w' fun r w'' => IsZ w'' (r) (pd (cz l) (k - 1)).num) from Hq.out.2 ▸ mul_z _ _ _ _ w' (f2.has (by have := HK.out; omega)) (Hq.out.1.kd (hx.trans he).kd)) ?_
     rintro e w2 ⟨v, rfl, hv, hx⟩
     exact ⟨v, rfl, hR v w2 hx rfl hv⟩
    ·intro γ w' he hf; have f2 : IsZ w' (γ 2) (k : Int) := hf 2 (by decide); have f7 : IsZ w' (γ 7) (pd (cz l) (k - 1)).num := hf 7 (by decide); clear hf; refine ⟨trivial, ?_⟩; intro R hR
     refine IsZ.el f7 fun b5 A5 n5 c5 e7 f7' => ?_
     clear f7
     go_simp
     exact hR _ _ ((Ext.refl _).alloc _) rfl (NewZ.mk f7' (Nat.le_trans (by simp) he.size) _)
   case hloc2 =>
    exact ⟨⟨⟨⟨⟨⟨⟨⟨⟨trivial, (fun γ γ' h => ⟨rfl, fun _ => rfl⟩)⟩, (fun γ γ' h => ⟨rfl, fun _ => rfl⟩)⟩, (fun γ γ' h => ⟨h 2 rfl, fun w' => (congrArg (fun a => IsZ w' (a) (k : Int)) (h 2 rfl))⟩)⟩, (fun γ γ' h => ⟨rfl, fun _ => rfl⟩)⟩, (fun γ γ' h => ⟨rfl, fun _ => rfl⟩)⟩, (fun γ γ' h => ⟨rfl, fun _ => rfl⟩)⟩, (fun γ γ' h => ⟨rfl, fun _ => rfl⟩)⟩, (fun γ γ' h => ⟨h 7 rfl, fun w' => (congrArg (fun a => IsZ w' (a) (pd (cz l) (k - 1)).num) (h 7 rfl))⟩)⟩, (fun γ γ' h => ⟨h 8 rfl, fun w' => (congrArg (fun a => NewZ w' (a) (wr.heap.size) ((pd (cz l) (k - 1)).num) 28) (h 8 rfl))⟩)⟩
   case hmono2 =>
    exact ⟨⟨⟨⟨⟨⟨⟨⟨⟨trivial, (fun γ wA w' e h => h)⟩, (fun γ wA w' e h => h)⟩, (fun γ wA w' e h => (show IsZ wA (γ 2) (k : Int) from h).ext e)⟩, (fun γ wA w' e h => h)⟩, (fun γ wA w' e h => h)⟩, (fun γ wA w' e h => h)⟩, (fun γ wA w' e h => h)⟩, (fun γ wA w' e h => (show IsZ wA (γ 7) (pd (cz l) (k - 1)).num from h).ext e)⟩, (fun γ wA w' e h => (show NewZ wA (γ 8) (wr.heap.size) ((pd (cz l) (k - 1)).num) 28 from h).ext e)⟩
   intro γ w1 hx1 hF
   have p2 : IsZ w1 (γ 2) (k : Int) := Each.get hF 2 (by decide)
   have p7 : IsZ w1 (γ 7) (pd (cz l) (k - 1)).num := Each.get hF 7 (by decide)
   have p8 : NewZ w1 (γ 8) (wr.heap.size) ((pd (cz l) (k - 1)).num) 28 := Each.get hF 8 (by decide)
   clear hF
   simp only [fillAll, gV, kv, List.getD_cons_zero, List.getD_cons_succ, Act.put, List.setIfInBounds_toArray, List.set_cons_zero, List.set_cons_succ, List.toList_toArray, List.drop_succ_cons, List.drop_zero, List.drop_nil, Nat.zero_add, Nat.reduceAdd]
   generalize γ 2 = g2 at *
   generalize γ 7 = g7 at *
   generalize γ 8 = g8 at *
   clear γ
   have hs := hx.size
   have hs1 := hx1.size
   refine wpList_append_run rfl _ _ 23 rfl u3 g8 rfl rfl (append_zz w1 _ _ w.heap.size _ _ _ _ (Hown.out.ext hx1) p8 (by rw [lzf_len]; omega) (by omega)) ?_
   rintro v' w2 ⟨hown, U⟩
   replace hx := (Hown.out.ext hx1).from_ U (hx.trans hx1) (Nat.le_refl _)
   have Hown' := Lib.hid hown; clear hown U p8 p7 p2
   go_wp2
   go_roundw
   case rel => exact ⟨k + 1, by omega, by omega, by go_num, by
    have := Hown'.out
    rw [← lzf_succ, show k - 1 + 1 = k + 1 - 1 from by omega] at this
    exact this, hx⟩
   case measure => simp [intOf]; omega
  ·have hz : Sup (k - 1) (pd (cz l)) := fun i hi => by unfold pd; rw [cz_ge (by omega)]; exact Rat.mul_zero _
   have hco := cz_lzf (pd_zi (ZI.cz l)) hz
   obtain ⟨A2, c2, h1, h2, h3, h4⟩ := hown.row
   rw [lzf_len] at h1 h2
   have hT := trimmed_zs w.heap.size A2 c2 _ wr (by rw [lzf_len]; exact h2) h3 h4
   rw [lzf_len, ← h1] at hT
   have Hrow := Lib.hid (And.intro h4 (And.intro hco (And.intro h2 h3)))
   clear h1 h2 h3 h4 hco hz hown
   go_wp2_with fail
   refine Calls.mono hT ?_
   rintro e w2 ⟨rfl, rfl⟩
   go_wp2
   go_ret
   exact Gives.mk (IsZP.of_trim (ZsV.trim Hrow.out.1 (by rw [lzf_len]; exact Hrow.out.2.2.1) Hrow.out.2.2.2) Hrow.out.2.1) hx
end Go.Proofs.YtfacbpnegkjcgaaDoor
namespace Go.Hp
open Go.RowKit
end Go.Hp
namespace Go.Proofs.YtfacbpnegkjcgaaDoor
open Go.RowKit Go.Hp
theorem rmul (v u : Value) (F G : Nat → Rat) (s t : Nat) (w : World) (hv : IsZP 0 w v F) (hu : IsZP 0 w u G) (hs : ∀ i, qsz (F i) ≤ s) (ht : ∀ i, qsz (G i) ≤ t) (hst : 1 + (pl F + pl G) * (s + t + 1) ≤ 274877906944) (hn : pl F ≤ 274877906944) (hm : pl G ≤ 274877906944) (hs9 : s ≤ 1099511627776) (ht9 : t ≤ 1099511627776) :
  Calls Tryd.prog 15 #[v, u] w (Gives w fun r w' => IsZP 0 w' r (cv F G)) := by
 obtain ⟨l, h1, h2, -, rfl⟩ := hv.hz (fun i => by have := hs i; omega)
 obtain ⟨m, k1, k2, -, rfl⟩ := hu.hz (fun i => by have := ht i; omega)
 exact Gives.imp (mul_rzp v u l m s t w h1 k1 hs ht (by rw [h2, k2]; exact hst) (by omega) (by omega)) fun _ _ h => h.base_le (Nat.zero_le _)
end Go.Proofs.YtfacbpnegkjcgaaDoor
namespace Go.Hp
def Zdv (F G : Nat → Rat) : Prop := ∃ Q, ZI Q ∧ Fin_ Q ∧ F = cv Q G
theorem zdv_top {R G : Nat → Rat} {k : Nat} (hR : Fin_ R) (hG : Fin_ G) (h0 : G ≠ pz) (hs : Sup (k + pl G) R) (h : Zdv R G) : ∃ z : Int, R (k + pl G - 1) = (z : Rat) * ld G := by
 obtain ⟨Q, hz, hf, e⟩ := h
 have hp := pl_pos hG h0
 by_cases hQ : Q = pz
 ·refine ⟨0, ?_⟩
  rw [e, hQ, pz_cv]
  show (0 : Rat) = ((0 : Int) : Rat) * _
  simp
 ·have h1 := pl_cv hf hG hQ h0
  rw [← e] at h1
  have h2 := pl_le hs
  have h3 := pl_pos hf hQ
  have h4 : Sup (k + 1) Q := (pl_sup hf).mono (by omega)
  have h5 : Sup (pl G - 1 + 1) G := (pl_sup hG).mono (by omega)
  have h6 := cv_top h4 h5
  rw [← e, show k + (pl G - 1) = k + pl G - 1 from by omega] at h6
  rw [h6, hz.num k]
  exact ⟨_, rfl⟩
theorem zdv_rest {F G Q R : Nat → Rat} (hz : ZI Q) (hf : Fin_ Q) (e : F = pad (cv Q G) R) : Zdv F G ↔ Zdv R G := by
 constructor
 ·rintro ⟨P, h1, h2, h3⟩
  refine ⟨psb P Q, h1.psb hz, h2.psb hf, ?_⟩
  rw [psb_cv, ← h3, e]
  funext n; simp only [psb, pad]; grind
 ·rintro ⟨P, h1, h2, h3⟩
  refine ⟨pad Q P, hz.pad h1, hf.pad h2, ?_⟩
  rw [pad_cv, ← h3, e]
theorem zdv_pz (G : Nat → Rat) : Zdv pz G := ⟨pz, ZI.pz, Fin_.pz, (pz_cv G).symm⟩
theorem zdv_low {R G : Nat → Rat} (hR : Fin_ R) (hG : Fin_ G) (hs : pl R < pl G) : Zdv R G ↔ R = pz := by
 constructor
 ·rintro ⟨Q, h1, h2, h3⟩
  have h0 : G ≠ pz := fun e => by rw [e, pl_pz] at hs; omega
  refine Classical.byContradiction fun hn => ?_
  have hQ : Q ≠ pz := fun e => hn (by rw [h3, e, pz_cv])
  have := pl_cv h2 hG hQ h0
  rw [← h3] at this
  have := pl_pos h2 hQ
  omega
 ·rintro rfl; exact zdv_pz G
def ZdSt (F G : Nat → Rat) (n s t i : Nat) (Q R : Nat → Rat) : Prop :=
 (∀ j, j < i → Q j = 0) ∧ Sup n Q ∧ Sup (i + pl G - 1) R ∧ F = pad (cv Q G) R ∧ ZI Q ∧ ZI R ∧ ∀ m, qsz (R m) ≤ s + (n - i) * (t + 1)
theorem ZdSt.start {F G : Nat → Rat} {n s t : Nat} (hF : Sup (n + pl G - 1) F) (hz : ZI F) (hs : ∀ m, qsz (F m) ≤ s) : ZdSt F G n s t n pz F :=
 ⟨fun _ _ => rfl, Sup.pz _, hF, by rw [pz_cv]; funext m; simp only [pad, pz]; grind, ZI.pz, hz, fun m => by have := hs m; omega⟩
theorem qsz_quot {z : Int} {a b : Rat} (hb : b ≠ 0) (hbz : ∃ y : Int, b = (y : Rat)) (e : a = (z : Rat) * b) : qsz (z : Rat) ≤ qsz a := by
 obtain ⟨y, rfl⟩ := hbz
 rw [e, ← Rat.intCast_mul, qsz_cast, qsz_cast]
 have hy : y ≠ 0 := fun h => hb (by rw [h]; rfl)
 have : sz z.natAbs ≤ sz (z * y).natAbs := by
  refine sz_mono ?_
  rw [Int.natAbs_mul]
  exact Nat.le_mul_of_pos_right _ (by omega)
 omega
theorem ZdSt.step {F G : Nat → Rat} {n s t k : Nat} {Q R : Nat → Rat} (hG : Fin_ G) (h0 : G ≠ pz) (zG : ZI G) (hcG : ∀ m, qsz (G m) ≤ t) (h : ZdSt F G n s t (k + 1) Q R) (hk : k < n) {z : Int} (hc : R (k + pl G - 1) = (z : Rat) * ld G) :
  ZdSt F G n s t k (pad Q (mono k (z : Rat))) (psb R (cv (mono k (z : Rat)) G)) := by
 obtain ⟨h3, h4, h5, h6, h7, h8, h9⟩ := h
 have hp := pl_pos hG h0
 have hl := ld_ne hG h0
 have hz : (z : Rat) = R (k + pl G - 1) / ld G := by rw [hc]; grind
 refine ⟨fun j hj => ?_, h4.pad ((mono_sup k _).mono (by omega)), ?_, ?_, h7.pad (ZI.mono k z), h8.psb ((ZI.mono k z).cv zG), fun m => ?_⟩
 ·show Q j + mono k (z : Rat) j = 0
  rw [h3 j (by omega), mono_off (by omega)]; grind
 ·rw [hz]; exact div_step hG h0 (h5.mono (by omega))
 ·rw [pad_cv]
  funext m
  have := congrFun h6 m
  simp only [pad, psb] at this ⊢
  grind
 ·have q1 : qsz (z : Rat) ≤ qsz (R (k + pl G - 1)) := qsz_quot hl (zG _) hc
  have q2 := h9 (k + pl G - 1)
  have e : n - k = (n - (k + 1)) + 1 := by omega
  have q3 : (n - k) * (t + 1) = (n - (k + 1)) * (t + 1) + (t + 1) := by rw [e, Nat.succ_mul]
  have q4 : qsz (cv (mono k (z : Rat)) G m) ≤ qsz (z : Rat) + t := by
   rw [mono_cv]
   show qsz ((z : Rat) * sh k G m) ≤ _
   have a1 := qsz_mul (z : Rat) (sh k G m)
   have a2 : qsz (sh k G m) ≤ max t 1 := by
    unfold sh
    split
    ·have : qsz (0 : Rat) = 1 := by decide
     omega
    ·have := hcG (m - k); omega
   have a3 : 1 ≤ t := by have := hcG 0; have : 1 ≤ qsz (G 0) := by { unfold qsz; have := sz_pos (n := (G 0).den) (by have := (G 0).den_pos; omega); omega }; omega
   omega
  have q5 := qsz_subz h8 ((ZI.mono k z).cv zG) m m
  have q6 := h9 m
  show qsz (R m - cv (mono k (z : Rat)) G m) ≤ _
  omega
theorem ZdSt.end_ {F G : Nat → Rat} {n s t : Nat} {Q R : Nat → Rat} (hF : Fin_ F) (hG : Fin_ G) (h0 : G ≠ pz) (h : ZdSt F G n s t 0 Q R) : Q = pq F G ∧ R = pr F G ∧ Sup n Q ∧ ZI Q := by
 obtain ⟨h3, h4, h5, h6, h7, h8, h9⟩ := h
 have := div_eq hF hG h0 ⟨n, h4⟩ h6 (by rwa [Nat.zero_add] at h5)
 exact ⟨this.1, this.2, h4, h7⟩
theorem ZdSt.zdv {F G : Nat → Rat} {n s t i : Nat} {Q R : Nat → Rat} (h : ZdSt F G n s t i Q R) : Zdv F G ↔ Zdv R G :=
 zdv_rest h.2.2.2.2.1 ⟨n, h.2.1⟩ h.2.2.2.1
theorem ZdSt.fin {F G : Nat → Rat} {n s t i : Nat} {Q R : Nat → Rat} (h : ZdSt F G n s t i Q R) : Fin_ R := ⟨_, h.2.2.1⟩
theorem ZdSt.no {F G : Nat → Rat} {n s t k : Nat} {Q R : Nat → Rat} (hG : Fin_ G) (h0 : G ≠ pz) (zG : ZI G) (h : ZdSt F G n s t (k + 1) Q R) (hd : ¬ (ld G).num ∣ (R (k + pl G - 1)).num) : ¬ Zdv F G := by
 intro hz
 have hp := pl_pos hG h0
 obtain ⟨z, e⟩ := zdv_top (k := k) h.fin hG h0 (h.2.2.1.mono (by omega)) (h.zdv.1 hz)
 apply hd
 rw [e, show ld G = ((ld G).num : Rat) from zG.num _, num_mul]
 exact ⟨z, by rw [Int.mul_comm]; rfl⟩
theorem ZdSt.yes {F G : Nat → Rat} {n s t i m : Nat} {Q R : Nat → Rat} (zG : ZI G) (h : ZdSt F G n s t i Q R) (hd : (ld G).num ∣ (R m).num) : R m = (((R m).num / (ld G).num : Int) : Rat) * ld G := by
 have e1 : ld G = ((ld G).num : Rat) := zG.num _
 have e2 := h.2.2.2.2.2.1.num m
 have e3 := Int.ediv_mul_cancel hd
 have e4 : (((R m).num / (ld G).num : Int) : Rat) * (((ld G).num : Int) : Rat) = (((R m).num : Int) : Rat) := by rw [← Rat.intCast_mul, e3]
 rw [e2, e1]
 exact e4.symm
theorem ZdSt.out {F G : Nat → Rat} {n s t : Nat} {Q R : Nat → Rat} (hF : Fin_ F) (hG : Fin_ G) (h0 : G ≠ pz) (h : ZdSt F G n s t 0 Q R) : Zdv F G ↔ R = pz := by
 rw [h.zdv, zdv_low h.fin hG]
 have hp := pl_pos hG h0
 have := pl_le h.2.2.1
 omega
theorem subG_at (k j : Nat) (c : Rat) (R G : Nat → Rat) : subG k j c R G (k + j) = R (k + j) := by
 unfold subG; rw [if_neg (by omega)]; grind
theorem subG_num {k j : Nat} {z : Int} {R G : Nat → Rat} (hR : ZI R) (hG : ZI G) (n : Nat) : (subG k (j + 1) (z : Rat) R G n).num = if n = k + j then (R (k + j)).num - z * (G j).num else (subG k j (z : Rat) R G n).num := by
 rw [subG_succ]
 split
 ·rename_i h; subst h
  rw [subG_at, hR.num, hG.num j, ← Rat.intCast_mul, num_sub]; rfl
 ·rfl
theorem padm_num {Q : Nat → Rat} {k : Nat} {z : Int} (hQ : ZI Q) (h : Q k = 0) (n : Nat) : (pad Q (mono k (z : Rat)) n).num = if n = k then z else (Q n).num := by
 show (Q n + mono k (z : Rat) n).num = _
 by_cases e : n = k
 ·subst e; rw [if_pos rfl, h, mono_at, Rat.zero_add]; rfl
 ·rw [if_neg e, mono_off e, Rat.add_zero]
end Go.Hp
namespace Go.Hp
def IsZG (F G D : Nat → Rat) : Prop := Fin_ D ∧ ZI D ∧ (D ≠ pz → 0 < ld D) ∧ cn D = Nat.gcd (cn F) (cn G) ∧ IsG F G (mn D)
structure GzSt (F0 G0 : Nat → Rat) (D S : Nat) (A B : Nat → Rat) : Prop where
 fA : Fin_ A
 fB : Fin_ B
 zA : ZI A
 zB : ZI B
 pA : pp A = A
 pB : pp B = B
 dv : ∀ E, Fin_ E → (Dv E A ∧ Dv E B ↔ Dv E F0 ∧ Dv E G0)
 deg : pl A + pl B ≤ D
 qA : ∀ i, qsz (A i) + 1 ≤ (S + 1) * 2 ^ (D - (pl A + pl B))
 qB : ∀ i, qsz (B i) + 1 ≤ (S + 1) * 2 ^ (D - (pl A + pl B))
theorem dv_psc_iff {a : Rat} (ha : a ≠ 0) {E F : Nat → Rat} : Dv E (psc a F) ↔ Dv E F :=
 ⟨fun h => by have := h.psc (1 / a); rwa [psc_inv ha] at this, fun h => h.psc a⟩
theorem dv_pp_iff {E F : Nat → Rat} (z : ZI F) (f : Fin_ F) : Dv E (pp F) ↔ Dv E F := by
 by_cases h0 : F = pz
 ·rw [h0, pp_pz]
 ·have hn : (1 : Rat) / (pcn F : Rat) ≠ 0 := inv_ne (by have := pcn_ne z f h0; exact_mod_cast this)
  exact dv_psc_iff hn
theorem GzSt.start {F G : Nat → Rat} {S : Nat} (fF : Fin_ F) (fG : Fin_ G) (zF : ZI F) (zG : ZI G) (qF : ∀ i, qsz (F i) ≤ S) (qG : ∀ i, qsz (G i) ≤ S) : GzSt F G (pl F + pl G) S (pp F) (pp G) where
 fA := pp_fin fF
 fB := pp_fin fG
 zA := pp_zi zF fF
 zB := pp_zi zG fG
 pA := pp_pp zF fF
 pB := pp_pp zG fG
 dv := fun E _ => by rw [dv_pp_iff zF fF, dv_pp_iff zG fG]
 deg := by rw [pp_pl zF fF, pp_pl zG fG]; exact Nat.le_refl _
 qA := fun i => by have := pp_qsz zF fF qF i; have h : 0 < 2 ^ (pl F + pl G - (pl (pp F) + pl (pp G))) := Nat.pow_pos (by decide); have := Nat.le_mul_of_pos_right (S + 1) h; omega
 qB := fun i => by have := pp_qsz zG fG qG i; have h : 0 < 2 ^ (pl F + pl G - (pl (pp F) + pl (pp G))) := Nat.pow_pos (by decide); have := Nat.le_mul_of_pos_right (S + 1) h; omega
theorem GzSt.room {F0 G0 A B : Nat → Rat} {D S : Nat} (h : GzSt F0 G0 D S A B) {R : Nat → Rat} (hR : R = psR A B (pl A + 1 - pl B)) :
  (∀ i, qsz (A i) ≤ (S + 1) * 2 ^ D) ∧ (∀ i, qsz (B i) ≤ (S + 1) * 2 ^ D) ∧ (∀ i, qsz (R i) + 1 ≤ (S + 1) * 2 ^ (D - (pl A + pl B) + (pl A + 1 - pl B))) := by
 have up : ∀ a : Nat, a ≤ D → (S + 1) * 2 ^ a ≤ (S + 1) * 2 ^ D := fun a ha => Nat.mul_le_mul_left _ (Nat.pow_le_pow_right (by decide) ha)
 have h1 := up (D - (pl A + pl B)) (by omega)
 refine ⟨fun i => by have := h.qA i; omega, fun i => by have := h.qB i; omega, fun i => ?_⟩
 obtain ⟨M, hM⟩ : ∃ M, M = (S + 1) * 2 ^ (D - (pl A + pl B)) := ⟨_, rfl⟩
 have hp : 0 < M := by rw [hM]; exact Nat.mul_pos (by omega) (Nat.pow_pos (by decide))
 have h2 := psR_qsz (s := M - 1) (t := M - 1) h.zA h.zB (fun i => by have := h.qA i; omega) (fun i => by have := h.qB i; omega) (pl A + 1 - pl B) i
 rw [← hR] at h2
 rw [Nat.pow_add, ← Nat.mul_assoc, ← hM]
 have h3 := two_le_pow (pl A + 1 - pl B)
 have h4 : M * (pl A + 1 - pl B + 1) ≤ M * 2 ^ (pl A + 1 - pl B) := Nat.mul_le_mul_left _ h3
 rw [Nat.mul_succ, Nat.mul_comm M] at h4
 rw [show M - 1 + 1 = M from by omega] at h2
 omega
theorem psR_fin {F G : Nat → Rat} (hF : Fin_ F) (hG : Fin_ G) (h0 : G ≠ pz) : Fin_ (psR F G (pl F + 1 - pl G)) := by
 rw [(psR_end hF hG h0).2]; exact (pr_fin hF hG).psc _
theorem psR_top {F G : Nat → Rat} (hF : Fin_ F) (hG : Fin_ G) (h0 : G ≠ pz) : pl (psR F G (pl F + 1 - pl G)) < pl G := by
 have hp := pl_pos hG h0
 have := pl_le (((pr_sup hF hG h0).psc (ld G ^ (pl F + 1 - pl G))))
 rw [← (psR_end hF hG h0).2] at this
 omega
theorem GzSt.step {F0 G0 A B : Nat → Rat} {D S : Nat} (h : GzSt F0 G0 D S A B) (h0 : B ≠ pz) {R : Nat → Rat} (hR : R = psR A B (pl A + 1 - pl B)) :
  GzSt F0 G0 D S B (pp R) ∧ pl (pp R) < pl B := by
 have hfR : Fin_ R := by rw [hR]; exact psR_fin h.fA h.fB h0
 have hzR : ZI R := by rw [hR]; exact psR_zi h.zA h.zB _
 have htop : pl R < pl B := by rw [hR]; exact psR_top h.fA h.fB h0
 have hplR := pp_pl hzR hfR
 have hq : ∀ i, qsz (R i) + 1 ≤ (S + 1) * 2 ^ (D - (pl B + pl (pp R))) ∧ pl B + pl (pp R) ≤ D := fun i => by
  rw [hplR]
  have hd := h.deg
  rcases Nat.lt_or_ge (pl A) (pl B) with a | a
  ·have e : R = A := by rw [hR, show pl A + 1 - pl B = 0 from by omega]; rfl
   rw [e]
   have := h.qA i
   rw [Nat.add_comm (pl B)]
   exact ⟨this, hd⟩
  ·have h2 := (h.room hR).2.2 i
   exact ⟨Nat.le_trans h2 (Nat.mul_le_mul_left _ (Nat.pow_le_pow_right (by decide) (by omega))), by omega⟩
 refine ⟨⟨h.fB, pp_fin hfR, h.zB, pp_zi hzR hfR, h.pB, pp_pp hzR hfR, fun E hE => ?_, (hq 0).2, fun i => ?_, fun i => ?_⟩, by omega⟩
 ·rw [dv_pp_iff hzR hfR, ← h.dv E hE]
  have hl := pow_ne (ld_ne h.fB h0) (pl A + 1 - pl B)
  rw [hR, (psR_end h.fA h.fB h0).2, dv_psc_iff hl, dv_step]
 ·have h1 := h.qB i
  have := h.deg
  have h2 := (hq 0).2
  refine Nat.le_trans h1 (Nat.mul_le_mul_left _ (Nat.pow_le_pow_right (by decide) ?_))
  rcases Nat.lt_or_ge (pl A) (pl B) with a | a
  ·have e : R = A := by rw [hR, show pl A + 1 - pl B = 0 from by omega]; rfl
   rw [hplR, e]; omega
  ·omega
 ·have h1 := pp_qsz hzR hfR (s := (S + 1) * 2 ^ (D - (pl B + pl (pp R))) - 1) (fun i => by have := (hq i).1; omega) i
  have := (hq i).1
  omega
theorem mn_psc {a : Rat} (ha : a ≠ 0) {F : Nat → Rat} (h : Fin_ F) : mn (psc a F) = mn F := by
 by_cases h0 : F = pz
 ·rw [h0, psc_pz]
 ·have hl := ld_ne h h0
  unfold mn
  rw [ld_psc ha h, psc_psc]
  congr 1
  grind
theorem psc_zero (F : Nat → Rat) : psc 0 F = pz := by funext n; simp only [psc, pz]; grind
theorem mn_eq_pz {F : Nat → Rat} (h : Fin_ F) (e : mn F = pz) : F = pz := (pl_zero h).1 (by rw [← mn_pl h, e, pl_pz])
theorem GzSt.end_ {F0 G0 A B : Nat → Rat} {D S : Nat} (h : GzSt F0 G0 D S A B) (fF : Fin_ F0) (fG : Fin_ G0) (zF : ZI F0) (zG : ZI G0) (h0 : B = pz) :
  IsZG F0 G0 (psc ((Nat.gcd (cn F0) (cn G0) : Nat) : Rat) A) := by
 have hg : IsG F0 G0 (mn A) := by
  subst h0
  exact (IsG.zero h.fA).of h.dv
 obtain ⟨c, hc⟩ : ∃ c, c = Nat.gcd (cn F0) (cn G0) := ⟨_, rfl⟩
 rw [← hc]
 by_cases hc0 : c = 0
 ·have e1 : cn F0 = 0 := Nat.eq_zero_of_gcd_eq_zero_left (hc.symm.trans hc0)
  have e2 : cn G0 = 0 := Nat.eq_zero_of_gcd_eq_zero_right (hc.symm.trans hc0)
  have z1 : F0 = pz := Classical.byContradiction fun hn => cn_ne zF fF hn e1
  have z2 : G0 = pz := Classical.byContradiction fun hn => cn_ne zG fG hn e2
  rw [hc0]
  show IsZG F0 G0 (psc ((0 : Nat) : Rat) A)
  rw [show ((0 : Nat) : Rat) = 0 from rfl, psc_zero, z1, z2]
  refine ⟨Fin_.pz, ZI.pz, fun hn => absurd rfl hn, by rw [cn_pz]; rfl, ?_⟩
  exact IsG.zero Fin_.pz
 ·have hcr : ((c : Nat) : Rat) ≠ 0 := by exact_mod_cast hc0
  have hA : A ≠ pz := fun e => by
   rw [e, mn_pz] at hg
   have z1 := dv_pz hg.2.2.1
   have z2 := dv_pz hg.2.2.2.1
   rw [z1, z2, cn_pz] at hc
   exact hc0 hc
  have e1 : cn A = 1 := by rw [← h.pA]; exact cn_pp h.zA h.fA hA
  have e2 : 0 < ld A := by rw [← h.pA]; exact pp_lead h.zA h.fA hA
  have ci : ((c : Nat) : Rat) = (((c : Nat) : Int) : Rat) := rfl
  refine ⟨h.fA.psc _, by rw [ci]; exact h.zA.psc _, fun _ => ?_, ?_, by rw [mn_psc hcr h.fA]; exact hg⟩
  ·rw [ld_psc hcr h.fA]
   refine Rat.mul_pos ?_ e2
   exact_mod_cast Nat.pos_of_ne_zero hc0
  ·rw [ci, cn_psc (by exact_mod_cast hc0) h.zA h.fA, e1, ← hc]; simp
theorem IsZG.uniq {F G D E : Nat → Rat} (h : IsZG F G D) (k : IsZG F G E) : D = E := by
 obtain ⟨f1, z1, l1, c1, g1⟩ := h
 obtain ⟨f2, z2, l2, c2, g2⟩ := k
 have e := g1.uniq g2
 by_cases hD : D = pz
 ·have : E = pz := mn_eq_pz f2 (by rw [← e, hD, mn_pz])
  rw [hD, this]
 have hE : E ≠ pz := fun hE => hD (mn_eq_pz f1 (by rw [e, hE, mn_pz]))
 have hcD := cn_ne z1 f1 hD
 -- E = a D with a positive; the contents agree
 have lD := l1 hD; have lE := l2 hE
 have hDl := ld_ne f1 hD; have hEl := ld_ne f2 hE
 have e1 : psc (ld E) D = psc (ld D) E := by
  funext n
  have := congrFun e n
  show ld E * D n = ld D * E n
  simp only [mn, psc] at this
  have h1 : ld D * ld E * (1 / ld D * D n) = ld D * ld E * (1 / ld E * E n) := by rw [this]
  grind
 obtain ⟨x, hx⟩ : ∃ x : Int, ld D = (x : Rat) := z1 _
 obtain ⟨y, hy⟩ : ∃ y : Int, ld E = (y : Rat) := z2 _
 have hx0 : 0 < x := by rw [hx] at lD; exact_mod_cast lD
 have hy0 : 0 < y := by rw [hy] at lE; exact_mod_cast lE
 have e2 : cn (psc (ld E) D) = cn (psc (ld D) E) := by rw [e1]
 rw [hx, hy, cn_psc (by omega) z1 f1, cn_psc (by omega) z2 f2, c1, c2, ← c1] at e2
 have e3 : y.natAbs = x.natAbs := Nat.eq_of_mul_eq_mul_right (Nat.pos_of_ne_zero hcD) e2
 have e4 : x = y := by omega
 have : ld D = ld E := by rw [hx, hy, e4]
 rw [this] at e1
 funext n
 have := congrFun e1 n
 simp only [psc] at this
 grind
theorem zi_quot {F Q D : Nat → Rat} (zF : ZI F) (fF : Fin_ F) (zD : ZI D) (fD : Fin_ D) (hD : D ≠ pz) (fQ : Fin_ Q) (e : F = cv Q D) (hc : cn D ∣ cn F) : ZI Q := by
 obtain ⟨n, hs⟩ := fQ
 have fQ : Fin_ Q := ⟨n, hs⟩
 have zC := clr_zi hs
 have fC := clr_fin (n := n) fQ
 have e1 : psc (((dl n Q : Nat) : Int) : Rat) F = cv (clr n Q) D := by
  rw [e]; unfold clr; rw [psc_cv]; rfl
 have hdl := dl_pos Q n
 have e2 : cn (psc (((dl n Q : Nat) : Int) : Rat) F) = cn (cv (clr n Q) D) := by rw [e1]
 rw [cn_psc (by omega) zF fF, gauss zC zD fC fD, Int.natAbs_natCast] at e2
 obtain ⟨m, hm⟩ := hc
 have hcD := Nat.pos_of_ne_zero (cn_ne zD fD hD)
 have e3 : dl n Q * m = cn (clr n Q) := by
  refine Nat.eq_of_mul_eq_mul_right hcD ?_
  rw [← e2, hm, Nat.mul_assoc, Nat.mul_comm m]
 intro i
 have h1 := cn_dvd fC i
 have h2 : ((dl n Q : Nat) : Int) ∣ (clr n Q i).num := Int.dvd_trans ⟨(m : Int), by rw [← e3]; simp⟩ h1
 obtain ⟨k, hk⟩ := h2
 refine ⟨k, ?_⟩
 have h3 := zC.num i
 rw [hk, Rat.intCast_mul] at h3
 have h4 : clr n Q i = ((dl n Q : Nat) : Rat) * Q i := rfl
 rw [h4] at h3
 have h5 := dl_ne n Q
 have h6 : (((dl n Q : Nat) : Int) : Rat) = ((dl n Q : Nat) : Rat) := rfl
 rw [h6] at h3
 grind
theorem IsZG.zdv {F G D : Nat → Rat} (h : IsZG F G D) (zF : ZI F) (fF : Fin_ F) (hD : D ≠ pz) : Zdv F D := by
 obtain ⟨f1, z1, l1, c1, g1⟩ := h
 obtain ⟨Q, fQ, e⟩ := g1.2.2.1
 have e1 : F = cv (psc (1 / ld D) Q) D := by rw [e]; unfold mn; rw [cv_psc, psc_cv]
 exact ⟨_, zi_quot zF fF z1 f1 hD (fQ.psc _) e1 (by rw [c1]; exact Nat.gcd_dvd_left _ _), fQ.psc _, e1⟩
theorem IsG.symm_ {F G D : Nat → Rat} (h : IsG F G D) : IsG G F D := ⟨h.1, h.2.1, h.2.2.2.1, h.2.2.1, fun E hE a b => h.2.2.2.2 E hE b a⟩
theorem IsZG.symm_ {F G D : Nat → Rat} (h : IsZG F G D) : IsZG G F D := ⟨h.1, h.2.1, h.2.2.1, by rw [Nat.gcd_comm]; exact h.2.2.2.1, h.2.2.2.2.symm_⟩
theorem bez_ex : ∀ (n : Nat) {F G : Nat → Rat}, Fin_ F → Fin_ G → pl G ≤ n → ∃ U V D, Fin_ U ∧ Fin_ V ∧ IsG F G D ∧ pad (cv U F) (cv V G) = D := by
 intro n
 induction n with
 | zero =>
  intro F G fF fG hn
  have : G = pz := (pl_zero fG).1 (by omega)
  subst this
  refine ⟨psc (1 / ld F) pone, pz, mn F, Fin_.psc _ ⟨1, (Sup.pz 0).cs 1⟩, Fin_.pz, IsG.zero fF, ?_⟩
  rw [psc_cv, pone_cv, pz_cv]
  funext m; simp only [pad, pz, mn]; grind
 | succ n ih =>
  intro F G fF fG hn
  by_cases h0 : G = pz
  ·exact ih fF fG (by rw [h0, pl_pz]; omega)
  ·have hp := pl_pos fG h0
   have hr := pl_le (pr_sup fF fG h0)
   obtain ⟨U, V, D, fU, fV, hg, e⟩ := ih fG (pr_fin fF fG) (by omega)
   refine ⟨V, psb U (cv V (pq F G)), D, fV, fU.psb (fV.cv (pq_fin F G)), hg.of fun E hE => dv_step, ?_⟩
   rw [← e]
   have e1 : cv V F = pad (cv V (cv (pq F G) G)) (cv V (pr F G)) := by
    have h2 : cv V F = cv V (pad (cv (pq F G) G) (pr F G)) := by rw [← pq_pr F G]
    rw [h2, cv_pad]
   rw [e1, psb_cv, cv_assoc]
   funext m; simp only [pad, psb]; grind
theorem IsG.bez {F G D : Nat → Rat} (fF : Fin_ F) (fG : Fin_ G) (h : IsG F G D) : ∃ U V, Fin_ U ∧ Fin_ V ∧ pad (cv U F) (cv V G) = D := by
 obtain ⟨U, V, D', fU, fV, hg, e⟩ := bez_ex (pl G) fF fG (Nat.le_refl _)
 exact ⟨U, V, fU, fV, by rw [h.uniq hg]; exact e⟩
theorem Dv.cvr {D F : Nat → Rat} (h : Dv D F) (H : Nat → Rat) : Dv (Hp.cv D H) (Hp.cv F H) := by
 obtain ⟨Q, fQ, e⟩ := h
 exact ⟨Q, fQ, by rw [e, cv_assoc]⟩
theorem isG_common {F G D H P : Nat → Rat} (fF : Fin_ F) (fG : Fin_ G) (fH : Fin_ H) (h : IsG F G (mn D)) (fD : Fin_ D) {a : Rat} (ha : a ≠ 0) (hP : P = psc a (cv D H)) : IsG (cv F H) (cv G H) (mn P) := by
 have fP : Fin_ P := by rw [hP]; exact (fD.cv fH).psc a
 refine ⟨mn_fin fP, fun hn => mn_ld fP (fun e => hn (by rw [e, mn_pz])), ?_, ?_, fun E hE k1 k2 => ?_⟩
 ·have h1 : Dv (cv D H) (cv F H) := ((dv_mn D).trans h.2.2.1).cvr H
  have h2 : Dv (mn P) (cv D H) := by
   rw [hP, mn_psc ha (fD.cv fH)]; exact mn_dv (fD.cv fH)
  exact h2.trans h1
 ·have h1 : Dv (cv D H) (cv G H) := ((dv_mn D).trans h.2.2.2.1).cvr H
  have h2 : Dv (mn P) (cv D H) := by
   rw [hP, mn_psc ha (fD.cv fH)]; exact mn_dv (fD.cv fH)
  exact h2.trans h1
 ·obtain ⟨U, V, fU, fV, e⟩ := h.bez fF fG
  have h1 : Dv E (cv (mn D) H) := by
   rw [← e, pad_cv, cv_assoc, cv_assoc]
   exact (k1.mul fU).pad (k2.mul fV)
  have h2 : Dv E (cv D H) := by
   obtain ⟨Q, fQ, e2⟩ := mn_dv fD
   rw [e2, cv_assoc]; exact h1.mul fQ
  rw [dv_mn_iff fP, hP, dv_psc_iff ha]; exact h2
theorem IsZG.common {F G D H E : Nat → Rat} (fF : Fin_ F) (fG : Fin_ G) (zF : ZI F) (zG : ZI G) (fH : Fin_ H) (zH : ZI H) (h : IsZG F G D) (k : IsZG (cv F H) (cv G H) E) : E = cv D H ∨ E = psc ((-1 : Int) : Rat) (cv D H) := by
 obtain ⟨f1, z1, l1, c1, g1⟩ := h
 have hcn : ∀ a : Int, a.natAbs = 1 → cn (psc (a : Rat) (cv D H)) = Nat.gcd (cn (cv F H)) (cn (cv G H)) := fun a ha => by
  rw [cn_psc (by omega) (z1.cv zH) (f1.cv fH), ha, Nat.one_mul, gauss z1 zH f1 fH, gauss zF zH fF fH, gauss zG zH fG fH, c1, Nat.gcd_mul_right]
 have key : ∀ a : Int, a.natAbs = 1 → (cv D H ≠ pz → 0 < (a : Rat) * ld (cv D H)) → E = psc (a : Rat) (cv D H) := fun a ha hl => by
  have ha0 : (a : Rat) ≠ 0 := by
   have : a ≠ 0 := by omega
   exact_mod_cast this
  refine k.uniq ⟨(f1.cv fH).psc _, (z1.cv zH).psc a, fun hn => ?_, hcn a ha, isG_common fF fG fH g1 f1 ha0 rfl⟩
  rw [ld_psc ha0 (f1.cv fH)]
  exact hl fun e => hn (by rw [e, psc_pz])
 by_cases hp : 0 < ld (cv D H)
 ·refine .inl ?_
  have := key 1 rfl (fun _ => by simpa using hp)
  rwa [show (((1 : Int)) : Rat) = 1 from rfl, psc_one] at this
 ·refine .inr (key (-1) rfl (fun hn => ?_))
  have := ld_ne (f1.cv fH) hn
  have e : (((-1 : Int)) : Rat) = -1 := rfl
  rw [e]
  have h2 : ld (cv D H) < 0 := Rat.lt_of_le_of_ne (Rat.not_lt.1 hp) this
  grind
theorem GzSt.run {F0 G0 : Nat → Rat} {D S : Nat} : ∀ (n : Nat) {A B : Nat → Rat}, GzSt F0 G0 D S A B → pl B ≤ n → ∃ A', GzSt F0 G0 D S A' pz := by
 intro n
 induction n with
 | zero =>
  intro A B h hn
  have : B = pz := (pl_zero h.fB).1 (by omega)
  subst this
  exact ⟨A, h⟩
 | succ n ih =>
  intro A B h hn
  by_cases h0 : B = pz
  ·subst h0; exact ⟨A, h⟩
  ·obtain ⟨h1, h2⟩ := h.step h0 rfl
   exact ih h1 (by omega)
open Classical in
/-- The greatest common divisor over the integers. -/
noncomputable def zgc (F G : Nat → Rat) : Nat → Rat := if h : ∃ D, IsZG F G D then h.choose else pz
theorem zgc_eq {F G D : Nat → Rat} (h : IsZG F G D) : zgc F G = D := by
 have hx : ∃ D, IsZG F G D := ⟨D, h⟩
 unfold zgc
 rw [dif_pos hx]
 exact hx.choose_spec.uniq h
theorem one_le_qsz (q : Rat) : 1 ≤ qsz q := by
 unfold qsz
 have := sz_pos (n := q.den) (by have := q.den_pos; omega)
 omega
theorem zgc_all {F G : Nat → Rat} {S : Nat} (fF : Fin_ F) (fG : Fin_ G) (zF : ZI F) (zG : ZI G) (qF : ∀ i, qsz (F i) ≤ S) (qG : ∀ i, qsz (G i) ≤ S) : IsZG F G (zgc F G) ∧ ∀ i, qsz (zgc F G i) ≤ S + (S + 1) * 2 ^ (pl F + pl G) := by
 obtain ⟨A, h⟩ := (GzSt.start fF fG zF zG qF qG).run (pl (pp G)) (Nat.le_refl _)
 have h1 := h.end_ fF fG zF zG rfl
 have h2 := zgc_eq h1
 rw [h2]
 refine ⟨h1, fun i => ?_⟩
 have h3 := qsz_mul (((Nat.gcd (cn F) (cn G) : Nat)) : Rat) (A i)
 have h4 := (h.room rfl).1 i
 have h5 : qsz (((Nat.gcd (cn F) (cn G) : Nat)) : Rat) ≤ S := by
  show qsz ((((Nat.gcd (cn F) (cn G) : Nat) : Int)) : Rat) ≤ S
  rw [qsz_cast]
  have a1 := one_le_qsz (F 0)
  have a2 := qF 0
  have b1 := cn_sz qF (pl F)
  have b2 : sz (Nat.gcd (cn F) (cn G)) ≤ S := by
   by_cases e : cn F = 0
   ·have b3 := cn_sz qG (pl G)
    rw [e, Nat.gcd_zero_left]; exact b3
   ·exact Nat.le_trans (sz_mono (Nat.gcd_le_left _ (Nat.pos_of_ne_zero e))) b1
  simp only [Int.natAbs_natCast]
  omega
 show qsz ((((Nat.gcd (cn F) (cn G) : Nat)) : Rat) * A i) ≤ _
 omega
end Go.Hp
namespace Go.Proofs.YtfacbpnegkjcgaaDoor
open Go.RowKit Go.Hp
set_option maxRecDepth 20000 in
set_option maxHeartbeats 8000000 in
theorem zgcd_z (v u : Value) (l m : List Int) (S M : Nat) (w : World) (hv : HzV 0 w v l) (hu : HzV 0 w u m) (hs : ∀ i, qsz (cz l i) ≤ S) (ht : ∀ i, qsz (cz m i) ≤ S) (hn : l.length ≤ 549755813888) (hm : m.length ≤ 549755813888) (hM : (S + 1) * 2 ^ (pl (cz l) + pl (cz m)) ≤ M) (hB : M + (pl (cz l) + pl (cz m) + 1) * (M + 1) + M ≤ 549755813888) :
  Calls Tryd.prog 13 #[v, u] w (Gives w fun r w' => IsZP 0 w' r (zgc (cz l) (cz m))) := by
 have HV := Lib.hid hv; have HU := Lib.hid hu
 obtain ⟨A0, c0, rfl⟩ := hv.len
 obtain ⟨A1, c1, rfl⟩ := hu.len
 clear hv hu
 have hc1 := pl_le (cz_sup l)
 have hc2 := pl_le (cz_sup m)
 have hSM : S + 1 ≤ M := by
  have h : 0 < 2 ^ (pl (cz l) + pl (cz m)) := Nat.pow_pos (by decide)
  have := Nat.le_mul_of_pos_right (S + 1) h; omega
 have hcn : sz (cn (cz l)) ≤ S ∧ sz (cn (cz m)) ≤ S := ⟨cn_sz hs _, cn_sz ht _⟩
 have hst := GzSt.start (Fin_.cz l) (Fin_.cz m) (ZI.cz l) (ZI.cz m) hs ht
 have hP1 := fun W (x : Ext w W) => primitive_zp _ l W (HV.out.ext x) (by omega)
 have hP2 := fun W (x : Ext w W) => primitive_zp _ m W (HU.out.ext x) (by omega)
 have hC1 := content_zp _ l w HV.out (by omega)
 have hC2 := fun W (x : Ext w W) => content_zp _ m W (HU.out.ext x) (by omega)
 have hz := (show (∀ A, GzSt (cz l) (cz m) (pl (cz l) + pl (cz m)) S A pz → psc ((Nat.gcd (cn (cz l)) (cn (cz m)) : Nat) : Rat) A = zgc (cz l) (cz m)) from
  fun A h => (zgc_eq (h.end_ (Fin_.cz l) (Fin_.cz m) (ZI.cz l) (ZI.cz m) rfl)).symm)
 have hpl : pl (cz l) + pl (cz m) ≤ 1099511627776 := by omega
 obtain ⟨F, hF⟩ : ∃ F, F = cz l := ⟨_, rfl⟩
 obtain ⟨G, hG⟩ : ∃ G, G = cz m := ⟨_, rfl⟩
 rw [← hF] at hcn hC1
 rw [← hG] at hcn
 rw [← hF, ← hG] at hM hB hst hz hpl ⊢
 simp only [← hF] at hP1
 simp only [← hG] at hP2 hC2
 have HC := Lib.hid (And.intro hC1 (And.intro hC2 (And.intro hP1 hP2)))
 have HX := Lib.hid (And.intro hM (And.intro hB (And.intro hz (And.intro hcn hSM))))
 have HSt := Lib.hid (And.intro hst hpl)
 clear hs ht hn hm hM hB hc1 hc2 hSM hcn hst hP1 hP2 hC1 hC2 hz hF hG hpl HV HU
 go_enter Tryd.func13, Tryd.ntmps13
 go_wp2_with fail
 refine Calls.mono HC.out.1 ?_
 rintro e w1 ⟨r1, rfl, hr1, hx⟩
 go_wp2_with fail
 refine Calls.mono (HC.out.2.1 w1 hx) ?_
 rintro e w2 ⟨r2, rfl, hr2, hx2⟩
 have H12 := Lib.hid (And.intro ((hr1.kd hx2.kd).has (by have h1 := HX.out.2.2.2.1.1; have h2 := HX.out.2.2.2.2; have h3 := HX.out.2.1; simp; omega)) (hr2.has (by have h1 := HX.out.2.2.2.1.2; have h2 := HX.out.2.2.2.2; have h3 := HX.out.2.1; simp; omega)))
 replace hx := hx.trans hx2
 clear hr1 hr2 hx2
 go_wp2_with fail
 refine Calls.mono (gcd_z _ _ (cn F : Nat) (cn G : Nat) _ H12.out.1 H12.out.2) ?_
 rintro e w3 ⟨r3, rfl, hr3, hx3⟩
 obtain ⟨b5, A5, n5, c5, rfl⟩ := hr3.cells
 obtain ⟨cc, hcc⟩ : ∃ cc : Nat, cc = Nat.gcd (cn F) (cn G) := ⟨_, rfl⟩
 replace hr3 : IsZ w3 (.agg #[.bool b5, .slice A5 n5 c5]) (cc : Nat) := by rw [hcc]; exact hr3
 obtain ⟨W4, eW4, e4, x4⟩ := Box.made w3 28 #[.bool b5, .slice A5 n5 c5] (by simp [isDig])
 have ec := BoxZ.mk e4 (hr3.kd x4.kd)
 replace hx := (hx.trans hx3).trans x4
 have HCC := Lib.hid hcc
 clear hx3 x4 hr3 e4 H12 hcc
 go_wp2_with fail
 rw [← eW4]
 clear eW4
 generalize w3.heap.size = gc at *
 refine Calls.mono (HC.out.2.2.1 W4 hx) ?_
 rintro e w5 ⟨r5, rfl, hr5, hx5⟩
 have ec5 := ec.ext hx5
 replace hx := hx.trans hx5
 have H5 := Lib.hid (hr5.base_le (Nat.zero_le _)); clear hr5 hx5
 go_wp2_with fail
 refine Calls.mono (HC.out.2.2.2 w5 hx) ?_
 rintro e w6 ⟨r6, rfl, hr6, hx6⟩
 replace ec5 := ec5.ext hx6
 replace hx := hx.trans hx6
 have h5 := H5.out.ext hx6
 have h6 := hr6.base_le (Nat.zero_le _)
 clear hr6 hx6 H5
 go_wp2
 go_loopw [0, 1] (fun fv gv wr => ∃ A B, IsZP 0 wr fv A ∧ IsZP 0 wr gv B ∧ GzSt F G (pl F + pl G) S A B ∧ BoxZ wr gc 28 (cc : Nat) ∧ Ext w wr) (fun _ gv _ => lenV gv)
 case atStart => exact ⟨_, _, h5, h6, HSt.out.1, ec5, hx⟩
 case round =>
  clear h5 h6 ec5 hx ec
  obtain ⟨A, B, hA, hB, hst, ec, hx⟩ := hrel
  obtain ⟨A2, c2, rfl, -⟩ := hA.shape
  obtain ⟨A3, c3, rfl, -⟩ := hB.shape
  have HA := Lib.hid (And.intro hA hB); clear hA hB
  have HS := Lib.hid hst; clear hst
  by_cases h0 : 0 < pl B
  ·have hbn : B ≠ pz := fun e => by rw [e, pl_pz] at h0; omega
   have hroom := HS.out.room rfl
   have hpl := HS.out.deg
   have HR := Lib.hid (show (∀ i, qsz (A i) ≤ M) ∧ (∀ i, qsz (B i) ≤ M) ∧ M + (pl A + 1) * (M + 1) + M ≤ 549755813888 ∧ B ≠ pz ∧ pl A ≤ 1099511627776 ∧ pl B ≤ 1099511627776 from by
    refine ⟨fun i => Nat.le_trans (hroom.1 i) HX.out.1, fun i => Nat.le_trans (hroom.2.1 i) HX.out.1, ?_, hbn, by have := HSt.out.2; omega, by have := HSt.out.2; omega⟩
    have h1 := HX.out.2.1
    have h2 : (pl A + 1) * (M + 1) ≤ (pl F + pl G + 1) * (M + 1) := Nat.mul_le_mul_right _ (by omega)
    omega)
   have hst2 := HS.out.step hbn (R := psR A B (pl A + 1 - pl B)) rfl
   have HS2 := Lib.hid (And.intro hst2.1 (And.intro hst2.2 hroom.2.2)); clear hst2 hbn hroom hpl
   go_wp2_with fail
   refine Calls.mono (pdiv_p _ _ A B M _ HA.out.1 HA.out.2 HR.out.1 HR.out.2.1 HR.out.2.2.2.1 (by have h1 := HR.out.2.2.1; have : (pl A + 1) * 1 ≤ (pl A + 1) * (M + 1) := Nat.mul_le_mul_left _ (by omega); omega) (by
    have h1 := HX.out.2.1; have h2 := HS.out.deg
    have : (pl F + pl G + 1) * 1 ≤ (pl F + pl G + 1) * (M + 1) := Nat.mul_le_mul_left _ (by omega); omega) HR.out.2.2.1) ?_
   rintro e w7 ⟨r7, rfl, ⟨qv, rv, rfl, hq, hr⟩, hx7⟩
   have hrr := hr.base_le (b := 0) (Nat.zero_le _)
   have hB7 := HA.out.2.ext hx7
   have ec7 := ec.ext hx7
   replace hx := hx.trans hx7
   have H7 := Lib.hid (And.intro hrr hB7); clear hr hrr hB7 hq hx7 ec
   go_wp2_with fail
   refine Calls.mono (primitive_p _ _ _ H7.out.1 (fun i => by
    have h1 := HS2.out.2.2 i
    have h2 := HX.out.1
    have h3 : (S + 1) * 2 ^ (pl F + pl G - (pl A + pl B) + (pl A + 1 - pl B)) ≤ (S + 1) * 2 ^ (pl F + pl G) * 2 := by
     have e1 : (S + 1) * 2 ^ (pl F + pl G) * 2 = (S + 1) * 2 ^ (pl F + pl G + 1) := by rw [Nat.pow_succ, Nat.mul_assoc]
     rw [e1]
     refine Nat.mul_le_mul_left _ (Nat.pow_le_pow_right (by decide) ?_)
     have := HS.out.deg
     omega
    have h4 := HX.out.2.1
    omega) (by have := psR_top HS.out.fA HS.out.fB HR.out.2.2.2.1; have := HR.out.2.2.2.2.2; omega)) ?_
   rintro e w8 ⟨r8, rfl, hr8, hx8⟩
   have hB8 := H7.out.2.ext hx8
   have hp8 := hr8.base_le (b := 0) (Nat.zero_le _)
   have ec8 := ec7.ext hx8
   replace hx := hx.trans hx8
   obtain ⟨A4, c4, rfl, -⟩ := hr8.shape
   have H8 := Lib.hid (And.intro hB8 hp8); clear hB8 hp8 hr8 hx8 ec7 H7
   go_wp2
   go_roundw
   case rel => exact ⟨_, _, H8.out.1, H8.out.2, HS2.out.1, ec8, hx⟩
   case measure => exact HS2.out.2.1
  ·have hbz : B = pz := (pl_zero HS.out.fB).1 (by omega)
   have hroom := HS.out.room rfl
   subst hbz
   have hz := HX.out.2.2.1 A HS.out
   have HZ := Lib.hid (And.intro hz (And.intro hroom.1 (show pl A ≤ 1099511627776 by have := HS.out.deg; have := HSt.out.2; omega))); have h0 : pl pz = 0 := pl_pz
   rw [h0]
   clear hz hroom
   obtain ⟨b, Bv, bn, bc, e8, hb8⟩ := ec
   have Hb := Lib.hid hb8; clear hb8
   obtain ⟨ce80, ce81⟩ := e8.cells2
   have fe8 := e8.frozen
   go_wp2_with fail
   refine Calls.mono (zscale_pp _ _ A (cc : Nat) _ HA.out.1 (fun i => by have h1 := HZ.out.2.1 i; have h2 := HX.out.1; have h3 := HX.out.2.1; omega) (Hb.out.has (by
    rw [HCC.out]
    have h1 := HX.out.2.2.2.1
    have h2 : sz (Nat.gcd (cn F) (cn G)) ≤ S := by
     by_cases e : cn F = 0
     ·rw [e, Nat.gcd_zero_left]; exact h1.2
     ·exact Nat.le_trans (sz_mono (Nat.gcd_le_left _ (Nat.pos_of_ne_zero e))) h1.1
    have h3 := HX.out.2.2.2.2
    have h4 := HX.out.2.1
    simp only [Int.natAbs_natCast]
    omega)) HZ.out.2.2) ?_
   rintro e w9 ⟨r9, rfl, hr9, hx9⟩
   have h9 : IsZP 0 w9 r9 (zgc F G) := by
    rw [← HZ.out.1, ← HCC.out]; exact hr9
   have H9 := Lib.hid h9; clear h9 hr9
   go_wp2
   go_ret
   exact Gives.mk H9.out (hx.trans hx9)
theorem zgcd_p (v u : Value) (F G : Nat → Rat) (S M : Nat) (w : World) (hv : IsZP 0 w v F) (hu : IsZP 0 w u G) (hs : ∀ i, qsz (F i) ≤ S) (ht : ∀ i, qsz (G i) ≤ S) (hn : pl F ≤ 549755813888) (hm : pl G ≤ 549755813888) (hM : (S + 1) * 2 ^ (pl F + pl G) ≤ M) (hB : M + (pl F + pl G + 1) * (M + 1) + M ≤ 549755813888) :
  Calls Tryd.prog 13 #[v, u] w (Gives w fun r w' => IsZP 0 w' r (zgc F G)) := by
 have hSM : S + 1 ≤ M := by
  have h : 0 < 2 ^ (pl F + pl G) := Nat.pow_pos (by decide)
  have := Nat.le_mul_of_pos_right (S + 1) h; omega
 obtain ⟨l, h1, h2, -, rfl⟩ := hv.hz (fun i => by have := hs i; omega)
 obtain ⟨m, k1, k2, -, rfl⟩ := hu.hz (fun i => by have := ht i; omega)
 exact zgcd_z v u l m S M w h1 k1 hs ht (by omega) (by omega) hM hB
end Go.Proofs.YtfacbpnegkjcgaaDoor
namespace Go.Hp
open Go.RowKit
def TupE (w : World) (v : Value) (x : Int) (e : Int) : Prop := ∃ a, v = .tuple #[a, .int .i64 e] ∧ IsZ w a x
theorem TupE.ext {w w' : World} {v : Value} {x e : Int} (h : TupE w v x e) (k : Ext w w') : TupE w' v x e := by
 obtain ⟨a, h1, h2⟩ := h; exact ⟨a, h1, h2.kd k.kd⟩
def ZdOut (base : Nat) (F G : Nat → Rat) (r : Value) (w : World) : Prop := (Zdv F G → ∃ q, r = .tuple #[q, .int .i64 0] ∧ IsZP base w q (pq F G)) ∧ (¬ Zdv F G → r = .tuple #[.slice none 0 0, .int .i64 6])
end Go.Hp
namespace Go.Proofs.YtfacbpnegkjcgaaDoor
open Go.RowKit Go.Hp
set_option maxHeartbeats 1000000 in
theorem exact_zn (v u : Value) (x y : Int) (w : World) (hv : HasZ w v x) (hu : HasZ w u y) (h0 : y ≠ 0) (hd : ¬ y ∣ x) : Calls Tryd.prog 26 #[v, u] w (Gives w fun r w' => TupE w' r 0 6) := by
 have Hv := Lib.hid hv; have Hu := Lib.hid hu
 obtain ⟨neg, A, n, c, N, rfl, h1, h2, h3, hN, hx⟩ := hv.form
 obtain ⟨neg', A', n', c', M, rfl, k1, k2, k3, kN, hy⟩ := hu.form
 clear hN hx hv hu kN hy
 have hz : x % y ≠ 0 := fun e => hd (Int.dvd_of_emod_eq_zero e)
 have hp : 0 < sz (x % y).natAbs := Nat.pos_of_ne_zero fun e => hz (by have := (sz_le_iff (n := (x % y).natAbs) (k := 0)).1 (by omega); rw [bp_zero] at this; omega)
 have H0 := Lib.hid (And.intro h0 hp); clear h0 hd hz hp
 go_enter Tryd.func26, Tryd.ntmps26
 go_wp2_with fail
 refine Calls.mono (divmod_z _ _ x y _ (Hv.out.ext ((((Ext.refl w).alloc _).alloc _).alloc _)) (Hu.out.ext ((((Ext.refl w).alloc _).alloc _).alloc _))) ?_
 rintro e w1 ⟨r, rfl, ⟨q, m, rfl, hq, hm⟩, hx1⟩
 rw [if_neg H0.out.1] at hm
 rw [if_neg H0.out.1]
 obtain ⟨b, A1, n1, c1, rfl⟩ := hq.cells
 obtain ⟨A2, c2, rfl, -⟩ := hm.form
 obtain ⟨n2, hn2⟩ : ∃ n2, n2 = sz (x % y).natAbs := ⟨_, rfl⟩
 rw [← hn2]
 have hn0 : 0 < n2 := by have := H0.out.2; omega
 obtain ⟨bb, hbb⟩ : ∃ bb, bb = decide (x % y < 0) := ⟨_, rfl⟩
 rw [← hbb]
 clear hq hm hn2 hbb
 have hx2 := (hx1.alloc (Obj.cells #[Value.bool b, Value.slice A1 n1 c1] 28)).alloc (Obj.cells #[Value.bool bb, Value.slice A2 n2 c2] 28)
 have hc2 := hx2.cells
 have hf2 := hx2.frozens
 have Hfin := Lib.hid (fin_z (isZ_zero ((w1.alloc (Obj.cells #[Value.bool b, Value.slice A1 n1 c1] 28)).alloc (Obj.cells #[Value.bool bb, Value.slice A2 n2 c2] 28))) hx2.a3 (NoDig.at_ hx2 (g := w.heap.size + 1 + 1) (by simp) (by simp [isDig])) (by omega))
 have hc1 := hx1.cells
 have hf1 := hx1.frozens
 go_wp2
 refine bodyPost_ret (v := .tuple #[.agg #[.bool false, .slice none 0 0], .int .i64 6]) (by simp [results, Tryd.results26, go_sem, hc2]) rfl ?_
 obtain ⟨r, e, hr, hx⟩ := Hfin.out
 cases e
 exact Gives.mk ⟨_, rfl, hr⟩ hx
theorem exact_e (v u : Value) (x y : Int) (w : World) (hv : HasZ w v x) (hu : HasZ w u y) (h0 : y ≠ 0) (hd : y ∣ x) : Calls Tryd.prog 26 #[v, u] w (Gives w fun r w' => TupE w' r (x / y) 0) := exact_z v u x y w hv hu h0 hd
set_option maxRecDepth 20000 in
set_option maxHeartbeats 16000000 in
theorem zdivide_z (v u : Value) (l m : List Int) (s t : Nat) (w : World) (hv : HzV 0 w v l) (hu : HzV 0 w u m) (hs : ∀ i, qsz (cz l i) ≤ s) (ht : ∀ i, qsz (cz m i) ≤ t) (hn : l.length ≤ 549755813888) (hm : m.length ≤ 549755813888) (h0 : cz m ≠ pz) (hst : s + (l.length + 2) * (t + 1) + t ≤ 1099511627776) :
  Calls Tryd.prog 42 #[v, u] w (Gives w (ZdOut w.heap.size (cz l) (cz m))) := by
 have HV := Lib.hid hv; have HU := Lib.hid hu
 obtain ⟨A0, c0, rfl⟩ := hv.len
 obtain ⟨A1, c1, rfl⟩ := hu.len
 clear hv hu
 have hN1 := normal_zarr _ l w HV.out (by omega)
 rw [trimZ_pl] at hN1
 have hN2 := fun W (x : Ext w W) => normal_zarr _ m W (HU.out.ext x) (by omega)
 simp only [trimZ_pl] at hN2
 have hc1 := pl_le (cz_sup l)
 have hc2 := pl_le (cz_sup m)
 have hfF := Fin_.cz l; have hzF := ZI.cz l; have hfG := Fin_.cz m; have hzG := ZI.cz m
 have hL := pl_pos hfG h0
 have ht1 := take_lzf l; have ht2 := take_lzf m
 obtain ⟨F, hF⟩ : ∃ F, F = cz l := ⟨_, rfl⟩
 obtain ⟨G, hG⟩ : ∃ G, G = cz m := ⟨_, rfl⟩
 rw [← hF] at hN1 hs hc1 hfF hzF ht1
 rw [← hG] at hc2 hfG hzG hL ht h0 ht2
 simp only [← hG] at hN2
 rw [← hF, ← hG]
 obtain ⟨P, hP⟩ : ∃ P, P = pl F := ⟨_, rfl⟩
 obtain ⟨L, hLe⟩ : ∃ L, L = pl G := ⟨_, rfl⟩
 obtain ⟨K, hK⟩ : ∃ K, K = pl F + 1 - pl G := ⟨_, rfl⟩
 have HB := Lib.hid (show (∀ k, k ≤ K → ∀ q, q ≤ s + k * (t + 1) → q ≤ 1099511627776 ∧ q + t ≤ 1099511627776) ∧ sz (ld G).num.natAbs ≤ 1099511627776 ∧ (∀ j, sz (G j).num.natAbs ≤ t) ∧ t ≤ 1099511627776 by
  have key : ∀ k, k ≤ K → k * (t + 1) ≤ (l.length + 2) * (t + 1) := fun k hk => Nat.mul_le_mul_right _ (by omega)
  have g1 : ∀ j, sz (G j).num.natAbs ≤ t := fun j => Nat.le_trans (qsz_nm _) (ht j)
  have g2 : sz (ld G).num.natAbs ≤ t := g1 _
  exact ⟨fun k hk q hq => by have := key k hk; omega, by omega, g1, by omega⟩)
 have HX := Lib.hid (And.intro hfF (And.intro hzF (And.intro hfG (And.intro hzG (And.intro h0 (And.intro hF (And.intro hG (And.intro hs ht))))))))
 have HP := Lib.hid (And.intro hP (And.intro hLe hK))
 rw [← hP] at hc1 hN1 ht1
 rw [← hLe] at hc2 hL ht2
 simp only [← hLe] at hN2
 have HN1 := Lib.hid hN1; have HN2 := Lib.hid hN2
 have HT := Lib.hid (And.intro ht1 ht2)
 have hKe : K = P + 1 - L := by rw [hP, hLe]; exact hK
 clear hs ht hst hfF hzF hfG hzG h0 hF hG hP hLe hK ht1 ht2 hN1 hN2
 have hb1 : ((L : Int) == 0) = false := by simpa using (show L ≠ 0 by omega)
 go_enter Tryd.func42, Tryd.ntmps42
 go_wp2_with fail
 refine Calls.mono HN1.out ?_
 rintro e w1 ⟨r1, rfl, ⟨rfl, er⟩, hx⟩
 have hg1 := er.lt
 go_wp2_with fail
 refine Calls.mono (HN2.out w1 hx) ?_
 rintro e w2 ⟨r2, rfl, ⟨rfl, eg⟩, hx2⟩
 have hg2 := eg.lt
 replace er := er.ext hx2
 replace hx := hx.trans hx2
 clear hx2
 have hK1 : P + 1 ≤ K + L ∧ (0 < K → P + 1 = K + L) := by omega
 have HK := Lib.hid hK1
 replace er := er.pre P
 rw [HT.out.1] at er
 replace eg := eg.pre L
 rw [HT.out.2] at eg
 obtain ⟨W0, hmk, eq, hxq⟩ := make_zs K (max ((P : Int) - L + 1) 0) (by omega) (by omega) w2
 replace er := er.ext hxq
 replace eg := eg.ext hxq
 replace hx := hx.trans hxq
 have hg3 := eq.lt
 rw [← lzf_rep] at eq
 have hK40 : K ≤ 1099511627776 := by omega
 clear hK1 hKe
 have hst0 : ZdSt F G K s t K pz F := ZdSt.start ((pl_sup HX.out.1).mono (by have := HK.out; have := HP.out; omega)) HX.out.2.1 HX.out.2.2.2.2.2.2.2.1
 have HS0 := Lib.hid hst0; clear hst0
 generalize hgG : w1.heap.size = gG at *
 generalize hgq : w2.heap.size = gq at *
 go_wp2
 clear hmk hxq
 go_loopw [8] (fun iv wr => ∃ (i : Nat) (Q R : Nat → Rat), i ≤ K ∧ iv = .int .i64 ((i : Int) - 1) ∧ ZArr wr w.heap.size 28 (lzf P R) ∧ ZArr wr gq 28 (lzf K Q) ∧ ZArr wr gG 28 (lzf L G) ∧ ZdSt F G K s t i Q R ∧ Sup P R ∧ Ext w wr) (fun iv _ => (intOf iv + 1).toNat)
 case atStart => exact ⟨K, pz, F, Nat.le_refl _, by go_num, er, eq, eg, HS0.out, by rw [HP.out.1]; exact pl_sup HX.out.1, hx⟩
 case round =>
  clear er eq eg hx
  obtain ⟨i, Q, R, hi, rfl, er, eq, eg, hst, hsP, hx⟩ := hrel
  have HR := Lib.hid hst; have HSP := Lib.hid hsP; clear hst hsP
  by_cases hi0 : 0 < i
  ·obtain ⟨k, rfl⟩ : ∃ k, i = k + 1 := ⟨i - 1, by omega⟩
   have hii : ((k + 1 : Nat) : Int) - 1 = (k : Int) := by omega
   rw [hii]
   clear hii hi0
   have hkK : k < K := by omega
   have hkP : k + L ≤ P := by have := HK.out.2; omega
   have hkL : k + L - 1 < P := by omega
   obtain ⟨z0, Z0, zn0, zc0, cr0, cr1, hzc⟩ := er.at_ (j := k + L - 1) (by rw [lzf_len]; exact hkL)
   rw [lzf_get] at hzc
   have hLP : ((k : Int) + L - 1).toNat = k + L - 1 := by omega
   have HQ := Lib.hid (show (∀ n, sz (R n).num.natAbs ≤ 1099511627776) ∧ (ld G).num ≠ 0 ∧ R (k + L - 1) = R (k + pl G - 1) from by
    refine ⟨fun n => ?_, fun e => ?_, by rw [HP.out.2.1]⟩
    ·have h1 := HR.out.2.2.2.2.2.2 n
     have h2 := HB.out.1 _ (show K - (k + 1) ≤ K by omega) _ h1
     have h3 := qsz_nm (R n); omega
    ·have := ld_ne HX.out.2.2.1 HX.out.2.2.2.2.1
     exact this (by rw [show ld G = ((ld G).num : Rat) from HX.out.2.2.2.1.num _, e]; rfl))
   have Hz := Lib.hid (And.intro hzc (show IsZP w.heap.size _ (.slice (some ⟨gG, 0, none⟩) L m.length) G by
    have h1 := eg
    have h2 := HP.out.2.1
    rw [h2] at h1
    rw [h2]
    exact h1.whole HX.out.2.2.2.1 HX.out.2.2.1 (by omega) (by omega) (by omega)))
   clear hzc
   obtain ⟨rv, hrv⟩ : ∃ rv, rv = (R (k + L - 1)).num := ⟨_, rfl⟩
   rw [← hrv] at Hz
   by_cases hd : (ld G).num ∣ rv
   ·obtain ⟨z, hzz⟩ : ∃ z, z = rv / (ld G).num := ⟨_, rfl⟩
    have HD := Lib.hid (And.intro hd (And.intro hrv hzz)); clear hd hzz
    go_wp2_with fail
    go_cut [9, 10] (fun pv ev wx => ∃ gc, pv = .pointer (some ⟨gc, 0, none⟩) ∧ ev = .int .i64 0 ∧ BoxZ wx gc 28 z ∧ wr.heap.size ≤ gc ∧ Ext wr wx)
    case first =>
     refine wp_region_late (k := 15) (ℓ := 13) (nl := 1) (D := [36, 37, 38, 39, 40, 41, 42, 43, 44, 45, 46, 35, 47, 48, 9]) (T := [[], [], [], [2], [1, 2, 3], [1, 2, 3, 4], [0, 1, 2, 3, 4, 5], [0, 1, 2, 3, 4, 5, 6], [], [8], [0, 1, 2, 3, 4, 5, 6, 7, 8, 9], [0, 1, 2, 3, 4, 5, 6, 7, 8, 9, 10], [0, 1, 2, 3, 4, 5, 6, 7, 8, 9, 10, 11], [0, 1, 2, 3, 4, 5, 6, 7, 8, 9, 10, 11], [], [0, 1, 2, 3, 4, 5, 6, 7, 8, 9, 10, 11, 12, 14], [0, 1, 2, 3, 4, 5, 6, 7, 8, 9, 10, 11, 12, 13, 14, 15]]) (EK := [6, 8, 1]) (EV := [?e1x0, ?e1x1, ?e1x2]) (VL := [(kv ?v1x0), (kv ?v1x1), (kv ?v1x2), (kv ?v1x3), (kv ?v1x4), (kv ?v1x5), (kv ?v1x6), (kv ?v1x7), (kv ?v1x8), (fun γ => γ 9), (fun γ => γ 10), (fun γ => γ 10), (fun γ => γ 12), (kv ?v1x13), (fun γ => γ 14)]) (FL := fun γ w' => [True, True, True, True, True, True, True, True, True, IsZ w' (γ 9) (ld G).num, TupE w' (γ 10) z 0, True, IsZ w' (γ 12) z, True, NewAt w' (γ 14) wr.heap.size #[.bool false, .slice none 0 0] 28]) _ rfl ?hE1 (by kernel_rfl) (by kernel_rfl) (by kernel_rfl) (by kernel_rfl) (by kernel_rfl) (by rfl) (by kernel_rfl) ?hloc1 ?hmono1 ?hstep1 ?htail1 ?hlate1
     case hE1 => refine ⟨?_, ?_, ?_, trivial⟩ <;> (simp only [List.getElem?_toArray, List.getElem?_cons_succ, List.getElem?_cons_zero]; rfl)
     case hstep1 =>
      refine ⟨⟨⟨⟨⟨⟨⟨⟨⟨⟨⟨⟨⟨⟨⟨trivial, ?_⟩, ?_⟩, ?_⟩, ?_⟩, ?_⟩, ?_⟩, ?_⟩, ?_⟩, ?_⟩, ?_⟩, ?_⟩, ?_⟩, ?_⟩, ?_⟩, ?_⟩
      iterate 9 focus
       intro γ w' he hf; clear hf; refine ⟨by trivial, ?_⟩; intro R hR; have hc := he.cells
       have cq0 := he.cell cr0
       have cq1 := he.cell cr1
       go_simp; (try go_ints); (try (rw [if_neg (by omega)])); (try (rw [if_pos (by omega)])); (try go_simp); (try go_ints)
       refine hR _ _ (Ext.refl _) ?_ trivial; rfl
      ·intro γ w' he hf; clear hf; refine ⟨trivial, ?_⟩; intro R hR
       go_simp
       refine Calls.mono (show Calls _ _ _ w' (Gives w' fun r w'' => IsZ w'' (r) (ld G).num) from lead_z _ w.heap.size G w' (Hz.out.2.ext he) HX.out.2.2.2.2.1) ?_
       rintro e w2 ⟨v, rfl, hv, hx⟩
       exact ⟨v, rfl, hR v w2 hx rfl hv⟩
      ·intro γ w' he hf; have f9 : IsZ w' (γ 9) (ld G).num := hf 9 (by decide); clear hf; refine ⟨trivial, ?_⟩; intro R hR
       go_simp
       refine Calls.mono (show Calls _ _ _ w' (Gives w' fun r w'' => TupE w'' (r) z 0) from HD.out.2.2 ▸ exact_e _ _ _ _ w' ((Hz.out.1.kd he.kd).has (by rw [HD.out.2.1]; exact HQ.out.1 _)) (f9.has HB.out.2.1) HQ.out.2.1 HD.out.1) ?_
       rintro e w2 ⟨v, rfl, hv, hx⟩
       exact ⟨v, rfl, hR v w2 hx rfl hv⟩
      ·intro γ w' he hf; have f9 : IsZ w' (γ 9) (ld G).num := hf 9 (by decide); have f10 : TupE w' (γ 10) z 0 := hf 10 (by decide); clear hf; refine ⟨trivial, ?_⟩; intro R hR
       have hc := he.cells
       go_simp
       (try go_ints); (try (rw [if_neg (by omega)])); (try (rw [if_pos (by omega)])); (try go_simp); (try go_ints)
       refine hR _ _ (Ext.refl _) ?_ trivial
       rfl
      ·intro γ w' he hf; have f9 : IsZ w' (γ 9) (ld G).num := hf 9 (by decide); have f10 : TupE w' (γ 10) z 0 := hf 10 (by decide); clear hf; refine ⟨trivial, ?_⟩; intro R hR
       obtain ⟨a, e, ha⟩ := f10
       go_simp
       exact hR _ _ (Ext.refl _) rfl ha
      ·intro γ w' he hf; have f9 : IsZ w' (γ 9) (ld G).num := hf 9 (by decide); have f10 : TupE w' (γ 10) z 0 := hf 10 (by decide); clear hf; refine ⟨trivial, ?_⟩; intro R hR
       obtain ⟨a, e, ha⟩ := f10
       have hc := he.cells
       go_simp
       (try go_ints); (try (rw [if_neg (by omega)])); (try (rw [if_pos (by omega)])); (try go_simp); (try go_ints)
       refine hR _ _ (Ext.refl _) ?_ trivial
       rfl
      ·intro γ w' he hf; clear hf; refine ⟨trivial, ?_⟩; intro R hR
       go_simp
       exact hR _ _ ((Ext.refl _).alloc _) rfl (NewAt.mk (Nat.le_trans (by simp) he.size) (by simp [isDig]))
     case hloc1 =>
      exact ⟨⟨⟨⟨⟨⟨⟨⟨⟨⟨⟨⟨⟨⟨⟨trivial, (fun γ γ' h => ⟨rfl, fun _ => rfl⟩)⟩, (fun γ γ' h => ⟨rfl, fun _ => rfl⟩)⟩, (fun γ γ' h => ⟨rfl, fun _ => rfl⟩)⟩, (fun γ γ' h => ⟨rfl, fun _ => rfl⟩)⟩, (fun γ γ' h => ⟨rfl, fun _ => rfl⟩)⟩, (fun γ γ' h => ⟨rfl, fun _ => rfl⟩)⟩, (fun γ γ' h => ⟨rfl, fun _ => rfl⟩)⟩, (fun γ γ' h => ⟨rfl, fun _ => rfl⟩)⟩, (fun γ γ' h => ⟨rfl, fun _ => rfl⟩)⟩, (fun γ γ' h => ⟨h 9 rfl, fun w' => (congrArg (fun a => IsZ w' (a) (ld G).num) (h 9 rfl))⟩)⟩, (fun γ γ' h => ⟨h 10 rfl, fun w' => (congrArg (fun a => TupE w' (a) z 0) (h 10 rfl))⟩)⟩, (fun γ γ' h => ⟨(congrArg (fun a => a) (h 10 rfl)), fun _ => rfl⟩)⟩, (fun γ γ' h => ⟨h 12 rfl, fun w' => (congrArg (fun a => IsZ w' (a) z) (h 12 rfl))⟩)⟩, (fun γ γ' h => ⟨rfl, fun _ => rfl⟩)⟩, (fun γ γ' h => ⟨h 14 rfl, fun w' => (congrArg (fun a => NewAt w' (a) wr.heap.size #[.bool false, .slice none 0 0] 28) (h 14 rfl))⟩)⟩
     case hmono1 =>
      exact ⟨⟨⟨⟨⟨⟨⟨⟨⟨⟨⟨⟨⟨⟨⟨trivial, (fun γ wA w' e h => h)⟩, (fun γ wA w' e h => h)⟩, (fun γ wA w' e h => h)⟩, (fun γ wA w' e h => h)⟩, (fun γ wA w' e h => h)⟩, (fun γ wA w' e h => h)⟩, (fun γ wA w' e h => h)⟩, (fun γ wA w' e h => h)⟩, (fun γ wA w' e h => h)⟩, (fun γ wA w' e h => (show IsZ wA (γ 9) (ld G).num from h).ext e)⟩, (fun γ wA w' e h => (show TupE wA (γ 10) z 0 from h).ext e)⟩, (fun γ wA w' e h => h)⟩, (fun γ w w' e h => IsZ.ext_ h e)⟩, (fun γ wA w' e h => h)⟩, (fun γ wA w' e h => (show NewAt wA (γ 14) wr.heap.size #[.bool false, .slice none 0 0] 28 from h).ext e)⟩
     case hlate1 =>
      intro γ w3 hx3 hF
      have p9 : IsZ w3 (γ 9) (ld G).num := (Each.get hF 9 (by decide)).resolve_left (by decide)
      have p10 : TupE w3 (γ 10) z 0 := (Each.get hF 10 (by decide)).resolve_left (by decide)
      have p12 : IsZ w3 (γ 12) z := (Each.get hF 12 (by decide)).resolve_left (by decide)
      have p14 : NewAt w3 (γ 14) wr.heap.size #[.bool false, .slice none 0 0] 28 := (Each.get hF 14 (by decide)).resolve_left (by decide)
      clear hF
      simp only [fillAll, gV, kv, List.getD_cons_zero, List.getD_cons_succ, Act.put, List.setIfInBounds_toArray, List.set_cons_zero, List.set_cons_succ, List.toList_toArray, List.drop_succ_cons, List.drop_zero, List.drop_nil, Nat.zero_add, Nat.reduceAdd, lateP, Array.getD_eq_getD_getElem?, List.getElem?_toArray, List.getElem?_cons_succ, List.getElem?_cons_zero, Option.getD_some]
      generalize γ 9 = g9 at *
      generalize γ 10 = g10 at *
      generalize γ 12 = g12 at *
      generalize γ 14 = g14 at *
      clear γ
      obtain ⟨a10, rfl, -⟩ := p10
      obtain ⟨gc, rfl, hgc, ec⟩ := p14
      obtain ⟨b5, A5, n5, c5, rfl⟩ := p12.cells
      clear cr0 cr1 p9 hLP
      obtain ⟨cec0, cec1⟩ := ec.cells2
      have fec := ec.frozen
      go_wp2
      refine ⟨?_, trivial⟩
      go_wp2
      skip
      obtain ⟨W4, eW, ec', U⟩ := ec.put2 (.bool b5) (.slice A5 n5 c5) rfl rfl
      rw [← eW]
      clear eW ec
      replace p12 := p12.kd U.kd
      replace hx3 := U.from_ hx3 (by simp <;> omega)
      have ec := ec'
      clear U ec'
      go_meet
      case rel => exact ⟨gc, rfl, rfl, BoxZ.mk ec p12, hgc, hx3⟩
     intro γ w3 hx3 hF
     have p9 : IsZ w3 (γ 9) (ld G).num := Each.get hF 9 (by decide)
     have p10 : TupE w3 (γ 10) z 0 := Each.get hF 10 (by decide)
     have p12 : IsZ w3 (γ 12) z := Each.get hF 12 (by decide)
     have p14 : NewAt w3 (γ 14) wr.heap.size #[.bool false, .slice none 0 0] 28 := Each.get hF 14 (by decide)
     clear hF
     simp only [fillAll, gV, kv, List.getD_cons_zero, List.getD_cons_succ, Act.put, List.setIfInBounds_toArray, List.set_cons_zero, List.set_cons_succ, List.toList_toArray, List.drop_succ_cons, List.drop_zero, List.drop_nil, Nat.zero_add, Nat.reduceAdd]
     generalize γ 9 = g9 at *
     generalize γ 10 = g10 at *
     generalize γ 12 = g12 at *
     generalize γ 14 = g14 at *
     clear γ
     obtain ⟨a10, rfl, -⟩ := p10
     obtain ⟨gc, rfl, hgc, ec⟩ := p14
     obtain ⟨b5, A5, n5, c5, rfl⟩ := p12.cells
     clear cr0 cr1 p9 hLP
     obtain ⟨cec0, cec1⟩ := ec.cells2
     have fec := ec.frozen
     go_wp2
     skip
     obtain ⟨W4, eW, ec', U⟩ := ec.put2 (.bool b5) (.slice A5 n5 c5) rfl rfl
     rw [← eW]
     clear eW ec
     replace p12 := p12.kd U.kd
     replace hx3 := U.from_ hx3 (by simp <;> omega)
     have ec := ec'
     clear U ec'
     go_meet
     case rel => exact ⟨gc, rfl, rfl, BoxZ.mk ec p12, hgc, hx3⟩
    case rest =>
     clear cr0 cr1 hLP
     obtain ⟨gc, rfl, rfl, ⟨b, B, bn, bc, e8, hb⟩, hgc, hx3⟩ := hcut
     have hgq := eq.lt
     have hgr := er.lt
     have hgg := eg.lt
     replace er := er.ext hx3
     replace eq := eq.ext hx3
     replace eg := eg.ext hx3
     replace hx := hx.trans hx3
     clear hx3
     have hzk : Q k = 0 := HR.out.1 k (by omega)
     have hzv : R (k + pl G - 1) = (z : Rat) * ld G := by
      rw [← HQ.out.2.2, HD.out.2.2, HD.out.2.1]
      exact HR.out.yes HX.out.2.2.2.1 (by rw [← HD.out.2.1]; exact HD.out.1)
     have HZ := Lib.hid (show ZdSt F G K s t k (pad Q (mono k (z : Rat))) (psb R (cv (mono k (z : Rat)) G)) ∧ Q k = 0 ∧ sz z.natAbs ≤ 1099511627776 ∧ (∀ j, sz (z * (G j).num).natAbs ≤ 1099511627776) ∧ ∀ n, sz (R n).num.natAbs ≤ 1099511627776 from by
      have hl := ld_ne HX.out.2.2.1 HX.out.2.2.2.2.1
      have h1 : qsz (z : Rat) ≤ qsz (R (k + pl G - 1)) := qsz_quot hl (HX.out.2.2.2.1 _) hzv
      have h2 := HR.out.2.2.2.2.2.2 (k + pl G - 1)
      have h3 := HB.out.1 _ (show K - (k + 1) ≤ K by omega) _ h2
      have h4 : sz z.natAbs ≤ qsz (z : Rat) := by rw [qsz_cast]; omega
      refine ⟨HR.out.step HX.out.2.2.1 HX.out.2.2.2.2.1 HX.out.2.2.2.1 HX.out.2.2.2.2.2.2.2.2 hkK hzv, hzk, by omega, fun j => ?_, HQ.out.1⟩
      have h5 := mul_sz2 (x := z) (y := (G j).num) h4 (HB.out.2.2.1 j)
      omega)
     clear hzk hzv
     have Hb := Lib.hid hb; clear hb
     have hkl : k < (lzf K Q).length := by rw [lzf_len]; exact hkK
     have Hkl := Lib.hid hkl
     obtain ⟨ce80, ce81⟩ := e8.cells2
     have fe8 := e8.frozen
     obtain ⟨_, _, _, _, ca0, ca1, -⟩ := eq.at_ (j := k) (by first | omega | (simp; omega))
     have fa0 := eq.frozen (k * 2)
     have fa1 := eq.frozen (k * 2 + 1)
     clear hkl
     go_wp2
     have hkl := Hkl.out
     have hb := Hb.out
     obtain ⟨W7, eW, eq', U⟩ := eq.put (k := k) (by first | omega | (simp; omega)) hb
     rw [← eW]
     clear eW eq
     replace hb := hb.kd U.kd
     replace er := er.upd U (by simp <;> omega)
     replace eg := eg.upd U (by simp <;> omega)
     replace e8 := e8.upd U (by simp <;> omega)
     replace hx := U.from_ hx (by simp <;> omega)
     have eq := eq'
     clear U eq'
     rw [lzf_set (G := pad Q (mono k (z : Rat))) (fun n => padm_num HR.out.2.2.2.2.1 HZ.out.2.1 n)] at eq
     have ec := BoxZ.mk e8 hb
     clear e8 hb Hb Hkl hkl ce80 ce81 fe8
     go_loopw [57] (fun jv wx => ∃ j : Nat, j ≤ L ∧ jv = .int .i64 j ∧ ZArr wx w.heap.size 28 (lzf P (subG k j (z : Rat) R G)) ∧ ZArr wx gq 28 (lzf K (pad Q (mono k (z : Rat)))) ∧ ZArr wx gG 28 (lzf L G) ∧ BoxZ wx gc 28 z ∧ Ext w wx) (fun jv _ => L - (intOf jv).toNat)
     case atStart => exact ⟨0, Nat.zero_le _, rfl, by rw [subG_zero]; exact er, eq, eg, ec, hx⟩
     case round =>
      clear er eq eg ec hx
      obtain ⟨j, hj, rfl, er, eq, eg, ec, hx⟩ := hrel
      by_cases hjl : j < L
      ·obtain ⟨y1, Y1, yn1, yc1, q0, q1, hy⟩ := eg.at_ (j := j) (by rw [lzf_len]; exact hjl)
       rw [lzf_get] at hy
       have Hy := Lib.hid hy; clear hy
       have hne := ec.lt
       have hne2 := eq.lt
       go_wp2_with fail
       obtain ⟨W10, eW10, e10, x10⟩ := Box.made wr 28 #[.bool y1, .slice Y1 yn1 yc1] (by simp [isDig])
       rw [← eW10]
       clear eW10 q0 q1
       have hy := Hy.out.kd x10.kd
       replace er := er.ext x10
       replace eq := eq.ext x10
       replace eg := eg.ext x10
       replace ec := ec.ext x10
       replace hx := hx.trans x10
       clear x10
       obtain ⟨b, B, bn, bc, e8, hb⟩ := ec
       have hij : k + j < P := by omega
       obtain ⟨z1, Z1, zn1, zc1, ca0, ca1, hz⟩ := er.at_ (j := k + j) (by rw [lzf_len]; exact hij)
       rw [lzf_get, subG_at] at hz
       obtain ⟨rj, hrj⟩ : ∃ rj, rj = (R (k + j)).num := ⟨_, rfl⟩
       rw [← hrj] at hz
       have Hrj := Lib.hid hrj; clear hrj
       have Hz' := Lib.hid (And.intro hz (And.intro hb hy)); clear hz hb hy Hy
       obtain ⟨ce80, ce81⟩ := e8.cells2
       have fe8 := e8.frozen
       obtain ⟨ce100, ce101⟩ := e10.cells2
       have fe10 := e10.frozen
       go_wp2_with fail
       refine wp_region_par (k := 14) (D := [62, 63, 64, 65, 66, 67, 68, 69, 70, 71, 72, 73, 74, 75]) (T := [[], [], [], [1, 2], [], [], [], [5, 6], [4, 5, 6, 7], [4, 5, 6, 7, 8], [], [], [10, 11], [4, 5, 6, 7, 8, 9, 10, 11, 12], [0, 1, 2, 3, 4, 5, 6, 7, 8, 9, 10, 11, 12, 13], [0, 1, 2, 3, 4, 5, 6, 7, 8, 9, 10, 11, 12, 13, 14]]) (EK := [6, 8, 11, 9, 12]) (EV := [?e2x0, ?e2x1, ?e2x2, ?e2x3, ?e2x4]) (VL := [(kv ?v2x0), (kv ?v2x1), (kv ?v2x2), (kv ?v2x3), (kv ?v2x4), (kv ?v2x5), (kv ?v2x6), (kv ?v2x7), (kv ?v2x8), (kv ?v2x9), (kv ?v2x10), (kv ?v2x11), (fun γ => γ 12), (fun γ => γ 13)]) (FL := fun γ w' => [True, True, True, True, True, True, True, True, True, True, True, True, IsZ w' (γ 12) (z * (G j).num), IsZ w' (γ 13) (rj - z * (G j).num)]) ?hE2 (by kernel_rfl) (by kernel_rfl) (by rfl) (by kernel_rfl) ?hloc2 ?hmono2 ?hstep2 ?htail2
       case hE2 => refine ⟨?_, ?_, ?_, ?_, ?_, trivial⟩ <;> (simp only [List.getElem?_toArray, List.getElem?_cons_succ, List.getElem?_cons_zero]; rfl)
       case hstep2 =>
        refine ⟨⟨⟨⟨⟨⟨⟨⟨⟨⟨⟨⟨⟨⟨trivial, ?_⟩, ?_⟩, ?_⟩, ?_⟩, ?_⟩, ?_⟩, ?_⟩, ?_⟩, ?_⟩, ?_⟩, ?_⟩, ?_⟩, ?_⟩, ?_⟩
        iterate 12 focus
         intro γ w' he hf; clear hf; refine ⟨by trivial, ?_⟩; intro R hR; have hc := he.cells
         have cq0 := he.cell ca0
         have cq1 := he.cell ca1
         have cq2 := he.cell ce80
         have cq3 := he.cell ce81
         have cq4 := he.cell ce100
         have cq5 := he.cell ce101
         go_simp; (try go_ints); (try (rw [if_neg (by omega)])); (try (rw [if_pos (by omega)])); (try go_simp); (try go_ints)
         refine hR _ _ (Ext.refl _) ?_ trivial; rfl
        ·intro γ w' he hf; clear hf; refine ⟨trivial, ?_⟩; intro R hR
         go_simp
         refine Calls.mono (show Calls _ _ _ w' (Gives w' fun r w'' => IsZ w'' (r) (z * (G j).num)) from mul_z _ _ _ _ w' ((Hz'.out.2.1.kd he.kd).has HZ.out.2.2.1) ((Hz'.out.2.2.kd he.kd).has (by have h1 := HB.out.2.2.1 j; have h2 := HB.out.2.2.2; omega))) ?_
         rintro e w2 ⟨v, rfl, hv, hx⟩
         exact ⟨v, rfl, hR v w2 hx rfl hv⟩
        ·intro γ w' he hf; have f12 : IsZ w' (γ 12) (z * (G j).num) := hf 12 (by decide); clear hf; refine ⟨trivial, ?_⟩; intro R hR
         go_simp
         refine Calls.mono (show Calls _ _ _ w' (Gives w' fun r w'' => IsZ w'' (r) (rj - z * (G j).num)) from sub_z _ _ _ _ w' ((Hz'.out.1.kd he.kd).has (by rw [Hrj.out]; exact HZ.out.2.2.2.2 _)) (f12.has (HZ.out.2.2.2.1 j))) ?_
         rintro e w2 ⟨v, rfl, hv, hx⟩
         exact ⟨v, rfl, hR v w2 hx rfl hv⟩
       case hloc2 =>
        exact ⟨⟨⟨⟨⟨⟨⟨⟨⟨⟨⟨⟨⟨⟨trivial, (fun γ γ' h => ⟨rfl, fun _ => rfl⟩)⟩, (fun γ γ' h => ⟨rfl, fun _ => rfl⟩)⟩, (fun γ γ' h => ⟨rfl, fun _ => rfl⟩)⟩, (fun γ γ' h => ⟨rfl, fun _ => rfl⟩)⟩, (fun γ γ' h => ⟨rfl, fun _ => rfl⟩)⟩, (fun γ γ' h => ⟨rfl, fun _ => rfl⟩)⟩, (fun γ γ' h => ⟨rfl, fun _ => rfl⟩)⟩, (fun γ γ' h => ⟨rfl, fun _ => rfl⟩)⟩, (fun γ γ' h => ⟨rfl, fun _ => rfl⟩)⟩, (fun γ γ' h => ⟨rfl, fun _ => rfl⟩)⟩, (fun γ γ' h => ⟨rfl, fun _ => rfl⟩)⟩, (fun γ γ' h => ⟨rfl, fun _ => rfl⟩)⟩, (fun γ γ' h => ⟨h 12 rfl, fun w' => (congrArg (fun a => IsZ w' (a) (z * (G j).num)) (h 12 rfl))⟩)⟩, (fun γ γ' h => ⟨h 13 rfl, fun w' => (congrArg (fun a => IsZ w' (a) (rj - z * (G j).num)) (h 13 rfl))⟩)⟩
       case hmono2 =>
        exact ⟨⟨⟨⟨⟨⟨⟨⟨⟨⟨⟨⟨⟨⟨trivial, (fun γ wA w' e h => h)⟩, (fun γ wA w' e h => h)⟩, (fun γ wA w' e h => h)⟩, (fun γ wA w' e h => h)⟩, (fun γ wA w' e h => h)⟩, (fun γ wA w' e h => h)⟩, (fun γ wA w' e h => h)⟩, (fun γ wA w' e h => h)⟩, (fun γ wA w' e h => h)⟩, (fun γ wA w' e h => h)⟩, (fun γ wA w' e h => h)⟩, (fun γ wA w' e h => h)⟩, (fun γ wA w' e h => (show IsZ wA (γ 12) (z * (G j).num) from h).ext e)⟩, (fun γ wA w' e h => (show IsZ wA (γ 13) (rj - z * (G j).num) from h).ext e)⟩
       intro γ w6 hx6 hF
       have p12 : IsZ w6 (γ 12) (z * (G j).num) := Each.get hF 12 (by decide)
       have p13 : IsZ w6 (γ 13) (rj - z * (G j).num) := Each.get hF 13 (by decide)
       clear hF
       simp only [fillAll, gV, kv, List.getD_cons_zero, List.getD_cons_succ, Act.put, List.setIfInBounds_toArray, List.set_cons_zero, List.set_cons_succ, List.toList_toArray, List.drop_succ_cons, List.drop_zero, List.drop_nil, Nat.zero_add, Nat.reduceAdd]
       generalize γ 12 = g12 at *
       generalize γ 13 = g13 at *
       clear γ
       have hb := Hz'.out.2.1.kd hx6.kd
       clear p12 Hz' ca0 ca1 ce80 ce81 fe8 ce100 ce101 fe10 e10
       replace er := er.ext hx6
       replace eq := eq.ext hx6
       replace eg := eg.ext hx6
       replace e8 := e8.ext hx6
       replace hx := hx.trans hx6
       clear hx6
       obtain ⟨b5, A5, n5, c5, rfl⟩ := p13.cells
       have hkf : k + j < (lzf P (subG k j (z : Rat) R G)).length := by rw [lzf_len]; exact hij
       have Hkf := Lib.hid hkf
       have Hb := Lib.hid hb; clear hb
       obtain ⟨_, _, _, _, ca0, ca1, -⟩ := er.at_ (j := k + j) (by first | omega | (simp; omega))
       have fa0 := er.frozen ((k + j) * 2)
       have fa1 := er.frozen ((k + j) * 2 + 1)
       clear hkf
       go_wp2
       have hkf := Hkf.out
       have hb := Hb.out
       obtain ⟨W9, eW, er', U⟩ := er.put (k := k + j) (by first | omega | (simp; omega)) p13
       rw [← eW]
       clear eW er
       replace hb := hb.kd U.kd
       replace eq := eq.upd U (by simp <;> omega)
       replace eg := eg.upd U (by simp <;> omega)
       replace e8 := e8.upd U (by simp <;> omega)
       replace hx := U.from_ hx (by simp <;> omega)
       have er := er'
       clear U er'
       go_roundw
       case rel => exact ⟨j + 1, by omega, by go_num, by
        rw [Hrj.out, lzf_set (G := subG k (j + 1) (z : Rat) R G) (fun n => subG_num HR.out.2.2.2.2.2.1 HX.out.2.2.2.1 n)] at er
        exact er, eq, eg, BoxZ.mk e8 hb, hx⟩
       case measure => simp [intOf]; omega
      ·obtain rfl : L = j := by omega
       rw [subG_full (pl_sup HX.out.2.2.1 |>.mono (by rw [← HP.out.2.1]; exact Nat.le_refl _))] at er
       go_wp2
       go_roundw
       case rel => exact ⟨k, _, _, by omega, by go_num, er, eq, eg, HZ.out.1, HSP.out.psb (((mono_sup k _).cv (pl_sup HX.out.2.2.1)).mono (by have := HP.out.2.1; omega)), hx⟩
       case measure => simp [intOf] <;> omega
   ·have hno : ¬ Zdv F G := HR.out.no HX.out.2.2.1 HX.out.2.2.2.2.1 HX.out.2.2.2.1 (by rw [← HQ.out.2.2, ← hrv]; exact hd)
    have HD := Lib.hid (And.intro hd (And.intro hrv hno)); clear hd hno
    go_wp2_with fail
    go_cut [9, 10] (fun pv ev wx => ∃ gc, pv = .pointer (some ⟨gc, 0, none⟩) ∧ ev = .int .i64 6 ∧ BoxZ wx gc 28 0 ∧ wr.heap.size ≤ gc ∧ Ext wr wx)
    case first =>
     refine wp_region_late (k := 15) (ℓ := 13) (nl := 1) (D := [36, 37, 38, 39, 40, 41, 42, 43, 44, 45, 46, 35, 47, 48, 9]) (T := [[], [], [], [2], [1, 2, 3], [1, 2, 3, 4], [0, 1, 2, 3, 4, 5], [0, 1, 2, 3, 4, 5, 6], [], [8], [0, 1, 2, 3, 4, 5, 6, 7, 8, 9], [0, 1, 2, 3, 4, 5, 6, 7, 8, 9, 10], [0, 1, 2, 3, 4, 5, 6, 7, 8, 9, 10, 11], [0, 1, 2, 3, 4, 5, 6, 7, 8, 9, 10, 11], [], [0, 1, 2, 3, 4, 5, 6, 7, 8, 9, 10, 11, 12, 14], [0, 1, 2, 3, 4, 5, 6, 7, 8, 9, 10, 11, 12, 13, 14, 15]]) (EK := [6, 8, 1]) (EV := [?e3x0, ?e3x1, ?e3x2]) (VL := [(kv ?v3x0), (kv ?v3x1), (kv ?v3x2), (kv ?v3x3), (kv ?v3x4), (kv ?v3x5), (kv ?v3x6), (kv ?v3x7), (kv ?v3x8), (fun γ => γ 9), (fun γ => γ 10), (fun γ => γ 10), (fun γ => γ 12), (kv ?v3x13), (fun γ => γ 14)]) (FL := fun γ w' => [True, True, True, True, True, True, True, True, True, IsZ w' (γ 9) (ld G).num, TupE w' (γ 10) 0 6, True, IsZ w' (γ 12) 0, True, NewAt w' (γ 14) wr.heap.size #[.bool false, .slice none 0 0] 28]) _ rfl ?hE3 (by kernel_rfl) (by kernel_rfl) (by kernel_rfl) (by kernel_rfl) (by kernel_rfl) (by rfl) (by kernel_rfl) ?hloc3 ?hmono3 ?hstep3 ?htail3 ?hlate3
     case hE3 => refine ⟨?_, ?_, ?_, trivial⟩ <;> (simp only [List.getElem?_toArray, List.getElem?_cons_succ, List.getElem?_cons_zero]; rfl)
     case hstep3 =>
      refine ⟨⟨⟨⟨⟨⟨⟨⟨⟨⟨⟨⟨⟨⟨⟨trivial, ?_⟩, ?_⟩, ?_⟩, ?_⟩, ?_⟩, ?_⟩, ?_⟩, ?_⟩, ?_⟩, ?_⟩, ?_⟩, ?_⟩, ?_⟩, ?_⟩, ?_⟩
      iterate 9 focus
       intro γ w' he hf; clear hf; refine ⟨by trivial, ?_⟩; intro R hR; have hc := he.cells
       have cq0 := he.cell cr0
       have cq1 := he.cell cr1
       go_simp; (try go_ints); (try (rw [if_neg (by omega)])); (try (rw [if_pos (by omega)])); (try go_simp); (try go_ints)
       refine hR _ _ (Ext.refl _) ?_ trivial; rfl
      ·intro γ w' he hf; clear hf; refine ⟨trivial, ?_⟩; intro R hR
       go_simp
       refine Calls.mono (show Calls _ _ _ w' (Gives w' fun r w'' => IsZ w'' (r) (ld G).num) from lead_z _ w.heap.size G w' (Hz.out.2.ext he) HX.out.2.2.2.2.1) ?_
       rintro e w2 ⟨v, rfl, hv, hx⟩
       exact ⟨v, rfl, hR v w2 hx rfl hv⟩
      ·intro γ w' he hf; have f9 : IsZ w' (γ 9) (ld G).num := hf 9 (by decide); clear hf; refine ⟨trivial, ?_⟩; intro R hR
       go_simp
       refine Calls.mono (show Calls _ _ _ w' (Gives w' fun r w'' => TupE w'' (r) 0 6) from exact_zn _ _ _ _ w' ((Hz.out.1.kd he.kd).has (by rw [HD.out.2.1]; exact HQ.out.1 _)) (f9.has HB.out.2.1) HQ.out.2.1 HD.out.1) ?_
       rintro e w2 ⟨v, rfl, hv, hx⟩
       exact ⟨v, rfl, hR v w2 hx rfl hv⟩
      ·intro γ w' he hf; have f9 : IsZ w' (γ 9) (ld G).num := hf 9 (by decide); have f10 : TupE w' (γ 10) 0 6 := hf 10 (by decide); clear hf; refine ⟨trivial, ?_⟩; intro R hR
       have hc := he.cells
       go_simp
       (try go_ints); (try (rw [if_neg (by omega)])); (try (rw [if_pos (by omega)])); (try go_simp); (try go_ints)
       refine hR _ _ (Ext.refl _) ?_ trivial
       rfl
      ·intro γ w' he hf; have f9 : IsZ w' (γ 9) (ld G).num := hf 9 (by decide); have f10 : TupE w' (γ 10) 0 6 := hf 10 (by decide); clear hf; refine ⟨trivial, ?_⟩; intro R hR
       obtain ⟨a, e, ha⟩ := f10
       go_simp
       exact hR _ _ (Ext.refl _) rfl ha
      ·intro γ w' he hf; have f9 : IsZ w' (γ 9) (ld G).num := hf 9 (by decide); have f10 : TupE w' (γ 10) 0 6 := hf 10 (by decide); clear hf; refine ⟨trivial, ?_⟩; intro R hR
       obtain ⟨a, e, ha⟩ := f10
       have hc := he.cells
       go_simp
       (try go_ints); (try (rw [if_neg (by omega)])); (try (rw [if_pos (by omega)])); (try go_simp); (try go_ints)
       refine hR _ _ (Ext.refl _) ?_ trivial
       rfl
      ·intro γ w' he hf; clear hf; refine ⟨trivial, ?_⟩; intro R hR
       go_simp
       exact hR _ _ ((Ext.refl _).alloc _) rfl (NewAt.mk (Nat.le_trans (by simp) he.size) (by simp [isDig]))
     case hloc3 =>
      exact ⟨⟨⟨⟨⟨⟨⟨⟨⟨⟨⟨⟨⟨⟨⟨trivial, (fun γ γ' h => ⟨rfl, fun _ => rfl⟩)⟩, (fun γ γ' h => ⟨rfl, fun _ => rfl⟩)⟩, (fun γ γ' h => ⟨rfl, fun _ => rfl⟩)⟩, (fun γ γ' h => ⟨rfl, fun _ => rfl⟩)⟩, (fun γ γ' h => ⟨rfl, fun _ => rfl⟩)⟩, (fun γ γ' h => ⟨rfl, fun _ => rfl⟩)⟩, (fun γ γ' h => ⟨rfl, fun _ => rfl⟩)⟩, (fun γ γ' h => ⟨rfl, fun _ => rfl⟩)⟩, (fun γ γ' h => ⟨rfl, fun _ => rfl⟩)⟩, (fun γ γ' h => ⟨h 9 rfl, fun w' => (congrArg (fun a => IsZ w' (a) (ld G).num) (h 9 rfl))⟩)⟩, (fun γ γ' h => ⟨h 10 rfl, fun w' => (congrArg (fun a => TupE w' (a) 0 6) (h 10 rfl))⟩)⟩, (fun γ γ' h => ⟨(congrArg (fun a => a) (h 10 rfl)), fun _ => rfl⟩)⟩, (fun γ γ' h => ⟨h 12 rfl, fun w' => (congrArg (fun a => IsZ w' (a) 0) (h 12 rfl))⟩)⟩, (fun γ γ' h => ⟨rfl, fun _ => rfl⟩)⟩, (fun γ γ' h => ⟨h 14 rfl, fun w' => (congrArg (fun a => NewAt w' (a) wr.heap.size #[.bool false, .slice none 0 0] 28) (h 14 rfl))⟩)⟩
     case hmono3 =>
      exact ⟨⟨⟨⟨⟨⟨⟨⟨⟨⟨⟨⟨⟨⟨⟨trivial, (fun γ wA w' e h => h)⟩, (fun γ wA w' e h => h)⟩, (fun γ wA w' e h => h)⟩, (fun γ wA w' e h => h)⟩, (fun γ wA w' e h => h)⟩, (fun γ wA w' e h => h)⟩, (fun γ wA w' e h => h)⟩, (fun γ wA w' e h => h)⟩, (fun γ wA w' e h => h)⟩, (fun γ wA w' e h => (show IsZ wA (γ 9) (ld G).num from h).ext e)⟩, (fun γ wA w' e h => (show TupE wA (γ 10) 0 6 from h).ext e)⟩, (fun γ wA w' e h => h)⟩, (fun γ w w' e h => IsZ.ext_ h e)⟩, (fun γ wA w' e h => h)⟩, (fun γ wA w' e h => (show NewAt wA (γ 14) wr.heap.size #[.bool false, .slice none 0 0] 28 from h).ext e)⟩
     case hlate3 =>
      intro γ w3 hx3 hF
      have p9 : IsZ w3 (γ 9) (ld G).num := (Each.get hF 9 (by decide)).resolve_left (by decide)
      have p10 : TupE w3 (γ 10) 0 6 := (Each.get hF 10 (by decide)).resolve_left (by decide)
      have p12 : IsZ w3 (γ 12) 0 := (Each.get hF 12 (by decide)).resolve_left (by decide)
      have p14 : NewAt w3 (γ 14) wr.heap.size #[.bool false, .slice none 0 0] 28 := (Each.get hF 14 (by decide)).resolve_left (by decide)
      clear hF
      simp only [fillAll, gV, kv, List.getD_cons_zero, List.getD_cons_succ, Act.put, List.setIfInBounds_toArray, List.set_cons_zero, List.set_cons_succ, List.toList_toArray, List.drop_succ_cons, List.drop_zero, List.drop_nil, Nat.zero_add, Nat.reduceAdd, lateP, Array.getD_eq_getD_getElem?, List.getElem?_toArray, List.getElem?_cons_succ, List.getElem?_cons_zero, Option.getD_some]
      generalize γ 9 = g9 at *
      generalize γ 10 = g10 at *
      generalize γ 12 = g12 at *
      generalize γ 14 = g14 at *
      clear γ
      obtain ⟨a10, rfl, -⟩ := p10
      obtain ⟨gc, rfl, hgc, ec⟩ := p14
      obtain ⟨b5, A5, n5, c5, rfl⟩ := p12.cells
      clear cr0 cr1 p9 hLP
      obtain ⟨cec0, cec1⟩ := ec.cells2
      have fec := ec.frozen
      go_wp2
      refine ⟨?_, trivial⟩
      go_wp2
      skip
      obtain ⟨W4, eW, ec', U⟩ := ec.put2 (.bool b5) (.slice A5 n5 c5) rfl rfl
      rw [← eW]
      clear eW ec
      replace p12 := p12.kd U.kd
      replace hx3 := U.from_ hx3 (by simp <;> omega)
      have ec := ec'
      clear U ec'
      go_meet
      case rel => exact ⟨gc, rfl, rfl, BoxZ.mk ec p12, hgc, hx3⟩
     intro γ w3 hx3 hF
     have p9 : IsZ w3 (γ 9) (ld G).num := Each.get hF 9 (by decide)
     have p10 : TupE w3 (γ 10) 0 6 := Each.get hF 10 (by decide)
     have p12 : IsZ w3 (γ 12) 0 := Each.get hF 12 (by decide)
     have p14 : NewAt w3 (γ 14) wr.heap.size #[.bool false, .slice none 0 0] 28 := Each.get hF 14 (by decide)
     clear hF
     simp only [fillAll, gV, kv, List.getD_cons_zero, List.getD_cons_succ, Act.put, List.setIfInBounds_toArray, List.set_cons_zero, List.set_cons_succ, List.toList_toArray, List.drop_succ_cons, List.drop_zero, List.drop_nil, Nat.zero_add, Nat.reduceAdd]
     generalize γ 9 = g9 at *
     generalize γ 10 = g10 at *
     generalize γ 12 = g12 at *
     generalize γ 14 = g14 at *
     clear γ
     obtain ⟨a10, rfl, -⟩ := p10
     obtain ⟨gc, rfl, hgc, ec⟩ := p14
     obtain ⟨b5, A5, n5, c5, rfl⟩ := p12.cells
     clear cr0 cr1 p9 hLP
     obtain ⟨cec0, cec1⟩ := ec.cells2
     have fec := ec.frozen
     go_wp2
     skip
     obtain ⟨W4, eW, ec', U⟩ := ec.put2 (.bool b5) (.slice A5 n5 c5) rfl rfl
     rw [← eW]
     clear eW ec
     replace p12 := p12.kd U.kd
     replace hx3 := U.from_ hx3 (by simp <;> omega)
     have ec := ec'
     clear U ec'
     go_meet
     case rel => exact ⟨gc, rfl, rfl, BoxZ.mk ec p12, hgc, hx3⟩
    case rest =>
     clear cr0 cr1 hLP
     obtain ⟨gc, rfl, rfl, -, -, hx3⟩ := hcut
     go_wp2
     go_ret2
     exact Gives.mk ⟨fun h => absurd h HD.out.2.2, fun _ => rfl⟩ (hx.trans hx3)
  ·obtain rfl : i = 0 := by omega
   have hm1 : ((0 : Nat) : Int) - 1 = -1 := by omega
   rw [hm1]
   have hfR := HR.out.fin
   have hcR : cz (lzf P R) = R := cz_lzf HR.out.2.2.2.2.2.1 HSP.out
   have hend := HR.out.end_ HX.out.1 HX.out.2.2.1 HX.out.2.2.2.2.1
   have hout := HR.out.out HX.out.1 HX.out.2.2.1 HX.out.2.2.2.2.1
   have hcQ : cz (lzf K Q) = Q := cz_lzf hend.2.2.2 hend.2.2.1
   have hT2 := trimmed_zs w.heap.size (some ⟨w.heap.size, 0, none⟩) l.length (lzf P R) wr (by rw [lzf_len]; exact hc1) (by omega) (er.row (Nat.le_refl _))
   have hT1 := trimmed_zs w.heap.size (some ⟨gq, 0, none⟩) K (lzf K Q) wr (by rw [lzf_len]; exact Nat.le_refl _) (by omega) (eq.row (by omega))
   rw [lzf_len] at hT1 hT2
   rw [trimZ_pl, hcR] at hT2
   have HE := Lib.hid (And.intro (eq.row (base := w.heap.size) (by omega)) (And.intro hcQ (And.intro hend (And.intro hout hfR))))
   clear er eq eg hm1 hcR hcQ hend hout hfR
   go_wp2_with fail
   refine Calls.mono hT2 ?_
   rintro e w3 ⟨rfl, rfl⟩
   by_cases hz : R = pz
   ·have h0 : pl R = 0 := by rw [hz, pl_pz]
    have hyes := HE.out.2.2.2.1.2 hz
    have HY := Lib.hid hyes; clear hz hyes
    rw [h0]
    go_wp2_with fail
    refine Calls.mono hT1 ?_
    rintro e w3 ⟨rfl, rfl⟩
    go_wp2
    go_ret2
    exact Gives.mk ⟨fun _ => ⟨_, rfl, by
     rw [← HE.out.2.2.1.1]
     exact IsZP.of_trim (ZsV.trim HE.out.1 (by rw [lzf_len]; exact Nat.le_refl _) (by omega)) HE.out.2.1⟩, fun h => absurd HY.out h⟩ hx
   ·have h0 : 0 < pl R := pl_pos HE.out.2.2.2.2 hz
    have hno : ¬ Zdv F G := fun h => hz (HE.out.2.2.2.1.1 h)
    have HY := Lib.hid hno; clear hz hno
    go_wp2
    go_ret2
    exact Gives.mk ⟨fun h => absurd h HY.out, fun _ => rfl⟩ hx
theorem zdivide_p (v u : Value) (F G : Nat → Rat) (s t : Nat) (w : World) (hv : IsZP 0 w v F) (hu : IsZP 0 w u G) (hs : ∀ i, qsz (F i) ≤ s) (ht : ∀ i, qsz (G i) ≤ t) (hn : pl F ≤ 549755813888) (hm : pl G ≤ 549755813888) (h0 : G ≠ pz) (hst : s + (pl F + 2) * (t + 1) + t ≤ 1099511627776) :
  Calls Tryd.prog 42 #[v, u] w (Gives w (ZdOut w.heap.size F G)) := by
 obtain ⟨l, h1, h2, -, rfl⟩ := hv.hz (fun i => by have := hs i; omega)
 obtain ⟨m, k1, k2, -, rfl⟩ := hu.hz (fun i => by have := ht i; omega)
 exact zdivide_z v u l m s t w h1 k1 hs ht (by omega) (by omega) h0 (by rw [h2]; exact hst)
end Go.Proofs.YtfacbpnegkjcgaaDoor
namespace Go.Hp
open Go.RowKit
def isB : Value → Bool
 | .bool _ => true
 | _ => false
def NoB (w : World) (v : Value) : Prop := ∀ g ∈ blk v, ∀ i c, w.cell? ⟨g, i, none⟩ ≠ some (.bool c)
theorem noB_of {w : World} {g : Nat} {t : TypeId} {cur : Array Value} {n c : Nat} (hb : w.heap[g]? = some (.cells cur t (0, 0))) (h : ∀ u ∈ cur.toList, isB u = false) : NoB w (.slice (some ⟨g, 0, none⟩) n c) := by
 intro g' hg i b e
 have : g' = g := by simpa [blk, Value.ownBlock] using hg
 subst this
 rw [cell_of_row w g' i cur t (0, 0) hb] at e
 have := h (.bool b) (by
  have := Array.mem_of_getElem? e
  simpa using this)
 cases this
theorem noB_to {w : World} {g : Nat} {t : TypeId} {cur : Array Value} {n c : Nat} (hb : w.heap[g]? = some (.cells cur t (0, 0))) (h : NoB w (.slice (some ⟨g, 0, none⟩) n c)) : ∀ u ∈ cur.toList, isB u = false := by
 intro u hu
 obtain ⟨i, hi, rfl⟩ := List.getElem_of_mem hu
 have h1 := h g (by simp [blk, Value.ownBlock]) i
 rw [cell_of_row w g i cur t (0, 0) hb] at h1
 have hi' : i < cur.size := by simpa using hi
 rw [Array.getElem?_eq_getElem hi'] at h1
 rw [Array.getElem_toList]
 cases hc : cur[i] with
 | bool b => exact absurd (by rw [hc]) (h1 b)
 | _ => rfl
section
variable {P : Program}
theorem run_append_blk (w : World) (k base : Nat) (t ty e : TypeId) (i : TypeInfo) (z : Value) (bytes : Nat) (ht : P.underlying t = some (.slice e)) (hi : P.info? e = some i) (hz : i.zero = some z)
  (hsize : i.size = k) (hby : i.bytes = bytes) (hzs : z.cells.size = k) (hzd : nodig z.cells = true) (hsz : 0 < k)
  (v : Value) (n : Nat) (xs : List Value) (hown : OwnC k base e w v n xs)
  (a : Addr) (c : Nat) (news : List Value) (hl : news.length = k) (hnews : ∀ j u, news[j]? = some u → w.cell? (a.add j) = some u) (h1 : ∀ u ∈ news, u.oneCell' = true) (hnd : ∀ u ∈ news, isDig u = false)
  (h63 : n + 1 ≤ maxLen) (hbytes : (n + 1) * bytes ≤ 140737488355328) (hbase : base ≤ w.heap.size) (hvb : NoB w v) (hnb : ∀ u ∈ news, isB u = false) (hzB : ∀ u ∈ z.cells.toList, isB u = false) :
  ∃ v' w', (Builtin.append_ #[t, t] ty #[v, .slice (some a) 1 c]).run P w = .ok v' w' ∧ OwnC k base e w' v' (n + 1) (xs ++ news) ∧ Upd (blk v) w w' ∧ NoB w' v' := by
 subst hsize
 subst hby
 have hl' : news.length = 1 * i.size := by rw [Nat.one_mul]; exact hl
 have hlen : (xs ++ news).length = (n + 1) * i.size := by rw [List.length_append, hown.1, hl, Nat.succ_mul]
 have hsmall : n + 1 ≤ 9223372036854775807 := by simp only [maxLen] at h63; omega
 have hzl := all_list.1 hzd
 have hzc : ∀ m, ∀ u ∈ (Builtin.zeroCells z.cells m).toList, isDig u = false := by
  intro m u hu
  simp only [Builtin.zeroCells, Array.toList_map, Array.toList_range, List.mem_map, List.mem_range] at hu
  obtain ⟨j, hj, rfl⟩ := hu
  have : j % z.cells.size < z.cells.size := Nat.mod_lt _ (by omega)
  rw [getElem!_pos z.cells _ this]
  exact hzl _ (by simp)
 have hzb : ∀ m, ∀ u ∈ (Builtin.zeroCells z.cells m).toList, isB u = false := by
  intro m u hu
  simp only [Builtin.zeroCells, Array.toList_map, Array.toList_range, List.mem_map, List.mem_range] at hu
  obtain ⟨j, hj, rfl⟩ := hu
  have : j % z.cells.size < z.cells.size := Nat.mod_lt _ (by omega)
  rw [getElem!_pos z.cells _ this]
  exact hzB _ (by simp)
 have hxb : ∀ u ∈ xs, isB u = false := by
  rcases hown.2 with ⟨_, h0⟩ | ⟨g, cap, cur, ev, _, hb, _, _, _, htake⟩
  ·intro u hu
   have : xs = [] := List.eq_nil_of_length_eq_zero (by rw [hown.1, h0, Nat.zero_mul])
   rw [this] at hu; cases hu
  ·intro u hu
   rw [← htake] at hu
   exact noB_to hb.1 (by rw [ev] at hvb; exact hvb) _ (List.mem_of_mem_take hu)
 have hxd : ∀ u ∈ xs, isDig u = false := by
  rcases hown.2 with ⟨_, h0⟩ | ⟨g, cap, cur, _, _, hb, _, _, _, htake⟩
  ·intro u hu
   have : xs = [] := List.eq_nil_of_length_eq_zero (by rw [hown.1, h0, Nat.zero_mul])
   rw [this] at hu; cases hu
  ·intro u hu
   rw [← htake] at hu
   exact all_list.1 hb.2 _ (List.mem_of_mem_take hu)
 have grown : ∀ (old : Nat), old < n + 1 →
   OwnC i.size base e (w.drew.alloc (.cells (xs.toArray ++ news.toArray ++ Builtin.zeroCells z.cells (grownCap w (n + 1) old e - (n + 1))) e)) (.slice (some ⟨w.heap.size, 0, none⟩) (n + 1) (grownCap w (n + 1) old e)) (n + 1) (xs ++ news) ∧
   (∀ G, Upd G w (w.drew.alloc (.cells (xs.toArray ++ news.toArray ++ Builtin.zeroCells z.cells (grownCap w (n + 1) old e - (n + 1))) e))) ∧
   NoB (w.drew.alloc (.cells (xs.toArray ++ news.toArray ++ Builtin.zeroCells z.cells (grownCap w (n + 1) old e - (n + 1))) e)) (.slice (some ⟨w.heap.size, 0, none⟩) (n + 1) (grownCap w (n + 1) old e)) := by
  intro old ho
  have hge := grownCap_ge w (n + 1) old e
  have hcm : grownCap w (n + 1) old e ≤ maxLen := grownCap_le_maxLen w (n + 1) old e h63
  refine ⟨⟨hlen, .inr ⟨w.heap.size, _, _, rfl, hbase, ⟨heap_alloc_new w.drew _, ?_⟩, hge, hcm, ?_, ?_⟩⟩, fun G => Upd.of_ext ((Ext.refl w).drew.alloc _), noB_of (heap_alloc_new w.drew _) ?_⟩
  ·rw [all_list]
   intro u hu
   simp only [Array.toList_append, List.mem_append] at hu
   rcases hu with (hu | hu) | hu
   ·exact hxd u (by simpa using hu)
   ·exact hnd u (by simpa using hu)
   ·exact hzc _ u hu
  ·simp only [Array.size_append, List.size_toArray, size_zeroCells, hzs, hown.1, hl]
   rw [← Nat.succ_mul, ← Nat.add_mul]
   congr 1
   omega
  ·simp only [Array.toList_append, List.append_assoc]
   rw [← List.append_assoc, ← hlen]
   exact List.take_left
  ·intro u hu
   simp only [Array.toList_append, List.mem_append] at hu
   rcases hu with (hu | hu) | hu
   ·exact hxb u (by simpa using hu)
   ·exact hnb u (by simpa using hu)
   ·exact hzb _ u hu
 rcases hown.2 with ⟨rfl, rfl⟩ | ⟨g, cap, cur, rfl, hbg, hb, hnc, hcm, hcs, htake⟩
 ·have hx : xs = [] := List.eq_nil_of_length_eq_zero (by simpa using hown.1)
  subst hx
  have hr := run_append_nil (P := P) w t ty e i z ht hi hz a 1 c news hl' hnews (by omega) (by omega) (by have hb := hbytes; simp only [Nat.zero_add] at hb; omega)
  have hgr := grown 0 (by omega)
  simp only [Nat.zero_add, List.nil_append, Array.empty_append] at hgr ⊢
  exact ⟨_, _, hr, hgr.1, hgr.2.1 _, hgr.2.2⟩
 ·have hg := hb.1
  by_cases hroom : n + 1 ≤ cap
  ·have hfit : n * i.size + news.length ≤ cur.size := by rw [hl, hcs, ← Nat.succ_mul]; exact Nat.mul_le_mul_right _ hroom
   have hr := run_append_room (P := P) w t ty e i ht hi g n cap cur hg a 1 c news hl' hnews h1 hroom hfit
   have hnew : ∀ u ∈ cur.toList.take (n * i.size) ++ news ++ cur.toList.drop (n * i.size + news.length), isDig u = false := by
    intro u hu
    simp only [List.mem_append] at hu
    rcases hu with (hu | hu) | hu
    ·exact all_list.1 hb.2 _ (List.mem_of_mem_take hu)
    ·exact hnd u hu
    ·exact all_list.1 hb.2 _ (List.mem_of_mem_drop hu)
   have hbx : Box (w.setRow g (cur.toList.take (n * i.size) ++ news ++ cur.toList.drop (n * i.size + news.length)).toArray) g e _ := ⟨setRow_heap w g cur _ e _ hg, all_list.2 (by simpa using hnew)⟩
   refine ⟨_, _, hr, ⟨hlen, .inr ⟨g, cap, _, rfl, hbg, hbx, hroom, hcm, ?_, ?_⟩⟩, ⟨fun g' o hg' ho => ?_, kd_block hb fun h hne _ => setRow_other w g h _ hne, fun a' ha hG => ?_⟩, noB_of hbx.1 ?_⟩
   ·simp only [List.size_toArray, List.length_append, List.length_take, List.length_drop, Array.length_toList]
    omega
   ·rw [htake, ← hlen]
    exact List.take_left
   ·rw [setRow_other w g g' _ (fun e => hg' (by simp [blk, Value.ownBlock, e]))]; exact ho
   ·have hga : a'.heap.size ≤ g := hG g (by simp [blk, Value.ownBlock])
    exact ha.grown (row := some g) ⟨rfl, rfl, rfl, by simp [World.setRow], fun k _ hk => setRow_other w g k _ (fun e => hk (by rw [e]))⟩ (fun k hk => by cases hk; exact hga)
   ·intro u hu
    have hcb := noB_to hb.1 hvb
    have hu' : u ∈ cur.toList.take (n * i.size) ++ news ++ cur.toList.drop (n * i.size + news.length) := by simpa using hu
    simp only [List.mem_append] at hu'
    rcases hu' with (hu | hu) | hu
    ·exact hcb _ (List.mem_of_mem_take hu)
    ·exact hnb u hu
    ·exact hcb _ (List.mem_of_mem_drop hu)
  ·have holds : ∀ j u, xs[j]? = some u → w.cell? ((⟨g, 0, none⟩ : Addr).add j) = some u := hown.owns.cells (g := g) rfl
   have hr := run_append_grow (P := P) w t ty e i z ht hi hz ⟨g, 0, none⟩ n cap xs hown.1 holds a 1 c news hl' hnews (by omega) (by omega) (growslice_fits (by omega) hbytes)
   have hgr := grown cap (by omega)
   exact ⟨_, _, hr, hgr.1, hgr.2.1 _, hgr.2.2⟩
end
section
variable {α : Type} {k : Nat} {rd : World → Value → α → Prop} {base : Nat} {e : TypeId} {w w' : World} {v : Value} {l : List α}
theorem OwnR.append_blk {P : Program} (h : OwnR k rd base e w v l) (t ty : TypeId) (i : TypeInfo) (z : Value) (bytes : Nat) (ht : P.underlying t = some (.slice e)) (hi : P.info? e = some i) (hz : i.zero = some z)
  (hsize : i.size = k) (hby : i.bytes = bytes) (hzs : z.cells.size = k) (hzd : nodig z.cells = true) (hsz : 0 < k) {x : α}
  (a : Addr) (c : Nat) (news : Array Value) (hl : news.size = k) (hx : rd w (.agg news) x) (hnews : ∀ j u, news.toList[j]? = some u → w.cell? (a.add j) = some u) (h1 : ∀ u ∈ news.toList, u.oneCell' = true) (hnd : nodig news = true)
  (h63 : l.length + 1 ≤ maxLen) (hbytes : (l.length + 1) * bytes ≤ 140737488355328) (hbase : base ≤ w.heap.size) (hr : ∀ w' u y, KD w w' → rd w u y → rd w' u y) (hvb : NoB w v) (hnb : ∀ u ∈ news.toList, isB u = false) (hzB : ∀ u ∈ z.cells.toList, isB u = false) :
  ∃ v' w', (Builtin.append_ #[t, t] ty #[v, .slice (some a) 1 c]).run P w = .ok v' w' ∧ OwnR k rd base e w' v' (l ++ [x]) ∧ Upd (blk v) w w' ∧ NoB w' v' := by
 obtain ⟨ess, g1, g2, g3, g5⟩ := h
 obtain ⟨v', w', hrun, hown, hupd, hblk⟩ := run_append_blk (P := P) w k base t ty e i z bytes ht hi hz hsize hby hzs hzd hsz v l.length _ g3 a c news.toList (by simpa using hl) hnews h1 (all_list.1 hnd) h63 hbytes hbase hvb hnb hzB
 refine ⟨v', w', hrun, ⟨ess ++ [news], by simp [g1], ?_, ?_, ?_⟩, hupd, hblk⟩
 ·intro d hd
  rcases List.mem_append.1 hd with hd | hd
  ·exact g2 d hd
  ·simp at hd; subst hd; exact hl
 ·have e1 : (ess ++ [news]).flatMap Array.toList = ess.flatMap Array.toList ++ news.toList := by simp
  rw [e1, List.length_append]
  exact hown
 ·intro j hj hj'
  rcases Nat.lt_or_ge j l.length with hlt | hge
  ·rw [List.getElem_append_left hlt, List.getElem_append_left (by omega)]
   exact hr _ _ _ hupd.kd (g5 j hlt (by omega))
  ·have : j = l.length := by simp at hj; omega
   subst this
   rw [List.getElem_append_right (by omega), List.getElem_append_right (by omega)]
   simpa using hr _ _ _ hupd.kd hx
end
end Go.Hp
namespace Go.Hp
open Go.RowKit
theorem KD.own {A B : World} {row : Option Nat} (hg : A.grownBy B row) (hr : ∀ r, row = some r → ∃ o : Obj, A.heap[r]? = some o ∧ o.isCells = false) : KD A B := fun _ _ e => cell_kept e hg hr
theorem Box.own {A B : World} {row : Option Nat} {g : Nat} {t : TypeId} {cs : Array Value} (h : Box A g t cs) (hg : A.grownBy B row) (hr : ∀ r, row = some r → ∃ o : Obj, A.heap[r]? = some o ∧ o.isCells = false) : Box B g t cs :=
 ⟨(hg.block g h.lt (fun e => by obtain ⟨o, h1, h2⟩ := hr g e.symm; rw [h.1] at h1; cases h1; cases h2)).trans h.1, h.2⟩
theorem upd_cell {A B : World} {G : List Nat} {g i : Nat} {v : Value} (U : Upd G A B) (hg : g ∉ G) (h : A.cell? ⟨g, i, none⟩ = some v) : B.cell? ⟨g, i, none⟩ = some v := by
 obtain ⟨o, ho, hc⟩ := cells_of_cell h
 exact (World.cell?_of_block ((U.1 g o hg ho).trans ho.symm)).trans h
theorem BoxQ.own {A B : World} {row : Option Nat} {g : Nat} {t : TypeId} {q : Rat} (h : BoxQ A g t q) (hg : A.grownBy B row) (hr : ∀ r, row = some r → ∃ o : Obj, A.heap[r]? = some o ∧ o.isCells = false) : BoxQ B g t q := by
 obtain ⟨b, A1, n, c, b', A1', n', c', h1, h2⟩ := h
 exact BoxQ.mk (h1.own hg hr) (h2.kd (KD.own hg hr))
end Go.Hp
namespace Go.Hp
structure AltZ (n : Nat) (E : (Nat → Nat → Rat) → Rat) : Prop where
 lin : ∀ (A : Nat → Nat → Rat) (i : Nat), i < n → ∀ (a b : Rat) (u v : Nat → Rat), E (rw_ A i fun c => a * u c + b * v c) = a * E (rw_ A i u) + b * E (rw_ A i v)
 alt : ∀ (A : Nat → Nat → Rat) (i j : Nat), i < n → j < n → i ≠ j → A i = A j → E A = 0
 cong : ∀ (A B : Nat → Nat → Rat), (∀ i j, i < n → j < n → A i j = B i j) → E A = E B
 one : E (fun i j => if i = j then 1 else 0) = 0
theorem php : ∀ (n : Nat) (s : Nat → Nat), (∀ i, i < n + 1 → s i < n) → ∃ i j, i < j ∧ j < n + 1 ∧ s i = s j
 | 0, s, h => absurd (h 0 (by omega)) (by omega)
 | n + 1, s, h => by
  by_cases e : ∃ i, i < n + 1 ∧ s i = s (n + 1)
  ·obtain ⟨i, hi, e⟩ := e
   exact ⟨i, n + 1, hi, by omega, e⟩
  ·have e' : ∀ i, i < n + 1 → s i ≠ s (n + 1) := fun i hi q => e ⟨i, hi, q⟩
   obtain ⟨i, j, hij, hj, q⟩ := php n (fun i => if s i < s (n + 1) then s i else s i - 1) (fun i hi => by
    have h1 := h i (by omega)
    have h2 := h (n + 1) (by omega)
    have h3 := e' i hi
    show (if s i < s (n + 1) then s i else s i - 1) < n
    split <;> omega)
   refine ⟨i, j, hij, by omega, ?_⟩
   have h1 := e' i (by omega)
   have h2 := e' j hj
   have q' : (if s i < s (n + 1) then s i else s i - 1) = (if s j < s (n + 1) then s j else s j - 1) := q
   split at q' <;> split at q' <;> omega
theorem AltZ.swap {n : Nat} {E : (Nat → Nat → Rat) → Rat} (h : AltZ n E) (A : Nat → Nat → Rat) {i j : Nat} (hi : i < n) (hj : j < n) (hne : i ≠ j) : E (rw_ (rw_ A i (A j)) j (A i)) = - E A := by
 obtain ⟨u, hu⟩ : ∃ u, u = A i := ⟨_, rfl⟩
 obtain ⟨v, hv⟩ : ∃ v, v = A j := ⟨_, rfl⟩
 have comm : ∀ x y : Nat → Rat, rw_ (rw_ A i x) j y = rw_ (rw_ A j y) i x := fun x y => by
  funext r c; unfold rw_
  by_cases a : r = j
  ·subst a; rw [if_pos rfl, if_neg (Ne.symm hne), if_pos rfl]
  ·rw [if_neg a]
   by_cases b : r = i
   ·rw [if_pos b, if_pos b]
   ·rw [if_neg b, if_neg b, if_neg a]
 have z : ∀ x : Nat → Rat, E (rw_ (rw_ A i x) j x) = 0 := fun x => h.alt _ i j hi hj hne (by
  funext c
  show (if i = j then x c else if i = i then x c else A i c) = (if j = j then x c else _)
  rw [if_neg hne, if_pos rfl, if_pos rfl])
 have l2 : ∀ x a b (y1 y2 : Nat → Rat), E (rw_ (rw_ A i x) j fun c => a * y1 c + b * y2 c) = a * E (rw_ (rw_ A i x) j y1) + b * E (rw_ (rw_ A i x) j y2) := fun x a b y1 y2 => h.lin _ j hj a b y1 y2
 have l1 : ∀ y a b (x1 x2 : Nat → Rat), E (rw_ (rw_ A i fun c => a * x1 c + b * x2 c) j y) = a * E (rw_ (rw_ A i x1) j y) + b * E (rw_ (rw_ A i x2) j y) := fun y a b x1 x2 => by
  rw [comm, comm, comm]; exact h.lin _ i hi a b x1 x2
 have key := z (fun c => 1 * u c + 1 * v c)
 rw [l1, l2, l2, z u, z v] at key
 have hA : rw_ (rw_ A i u) j v = A := by rw [hu, rw_self, hv, rw_self]
 rw [hA] at key
 rw [← hu, ← hv]
 grind
theorem AltZ.sum {n : Nat} {E : (Nat → Nat → Rat) → Rat} (h : AltZ n E) (A : Nat → Nat → Rat) {i : Nat} (hi : i < n) (t : Nat → Rat) (f : Nat → Nat → Rat) : ∀ N, E (rw_ A i fun c => sm N fun k => t k * f k c) = sm N fun k => t k * E (rw_ A i (f k))
 | 0 => by
  have := h.lin A i hi 0 0 (fun _ => 0) (fun _ => 0)
  have e : (fun c => sm 0 fun k => t k * f k c) = fun c : Nat => (0 : Rat) * (0 : Rat) + 0 * 0 := by funext c; rw [sm_zero]; grind
  rw [e, this, sm_zero]; grind
 | N + 1 => by
  have e : (fun c => sm (N + 1) fun k => t k * f k c) = fun c => 1 * (sm N fun k => t k * f k c) + t N * f N c := by funext c; rw [sm_succ]; grind
  rw [e, h.lin A i hi, AltZ.sum h A hi t f N, sm_succ]; grind
def er (c : Nat) : Nat → Rat := fun k => if k = c then 1 else 0
theorem AltZ.perm {n : Nat} {E : (Nat → Nat → Rat) → Rat} (h : AltZ n E) : ∀ (d : Nat) (A : Nat → Nat → Rat) (s : Nat → Nat) (m : Nat), n = m + d → (∀ i, i < n → s i < n ∧ A i = er (s i)) → (∀ i, i < m → s i = i) → E A = 0
 | 0, A, s, m, hd, hA, hs => by
  rw [← h.one]
  refine h.cong _ _ fun i j hi hj => ?_
  rw [(hA i hi).2, hs i (by omega)]
  show (if j = i then (1 : Rat) else 0) = if i = j then 1 else 0
  by_cases e : i = j
  ·rw [if_pos e, if_pos e.symm]
  ·rw [if_neg e, if_neg (Ne.symm e)]
 | d + 1, A, s, m, hd, hA, hs => by
  by_cases hinj : ∃ i j, i < n ∧ j < n ∧ i ≠ j ∧ s i = s j
  ·obtain ⟨i, j, hi, hj, hne, e⟩ := hinj
   exact h.alt A i j hi hj hne (by rw [(hA i hi).2, (hA j hj).2, e])
  ·have hinj' : ∀ i j, i < n → j < n → s i = s j → i = j := fun i j hi hj e => Classical.byContradiction fun hne => hinj ⟨i, j, hi, hj, hne, e⟩
   have hex : ∃ j, j < n ∧ s j = m := by
    refine Classical.byContradiction fun hno => ?_
    have hno' : ∀ j, j < n → s j ≠ m := fun j hj e => hno ⟨j, hj, e⟩
    obtain ⟨n', rfl⟩ : ∃ n', n = n' + 1 := ⟨n - 1, by omega⟩
    obtain ⟨i, j, hij, hj, q⟩ := php n' (fun i => if s i < m then s i else s i - 1) (fun i hi => by
     have h1 := (hA i hi).1
     have h2 := hno' i hi
     show (if s i < m then s i else s i - 1) < n'
     split <;> omega)
    have h1 := hno' i (by omega)
    have h2 := hno' j hj
    have : s i = s j := by
     have q' : (if s i < m then s i else s i - 1) = (if s j < m then s j else s j - 1) := q
     split at q' <;> split at q' <;> omega
    have := hinj' i j (by omega) hj this
    omega
   obtain ⟨j, hj, e⟩ := hex
   have hjm : m ≤ j := by
    rcases Nat.lt_or_ge j m with a | a
    ·have := hs j a; omega
    ·exact a
   by_cases hjm' : j = m
   ·subst hjm'
    refine AltZ.perm h d A s (j + 1) (by omega) hA fun i hi => ?_
    rcases Nat.lt_or_ge i j with a | a
    ·exact hs i a
    ·obtain rfl : i = j := by omega
     exact e
   ·have h2 := AltZ.perm h d (rw_ (rw_ A m (A j)) j (A m)) (fun i => if i = m then s j else if i = j then s m else s i) (m + 1) (by omega) (fun i hi => by
     by_cases a : i = m
     ·subst a
      simp only [if_pos]
      refine ⟨by rw [e]; exact hi, ?_⟩
      funext c
      show (if i = j then A i c else if i = i then A j c else A i c) = _
      rw [if_neg (Ne.symm hjm'), if_pos rfl, (hA j hj).2]
     ·by_cases b : i = j
      ·subst b
       rw [if_neg a, if_pos rfl]
       refine ⟨(hA m (by omega)).1, ?_⟩
       funext c
       show (if i = i then A m c else _) = _
       rw [if_pos rfl, (hA m (by omega)).2]
      ·rw [if_neg a, if_neg b]
       refine ⟨(hA i hi).1, ?_⟩
       funext c
       show (if i = j then A m c else if i = m then A j c else A i c) = _
       rw [if_neg b, if_neg a, (hA i hi).2]) (fun i hi => by
     by_cases a : i = m
     ·simp only [if_pos a]; rw [e, a]
     ·simp only [if_neg a]
      rw [if_neg (by omega)]; exact hs i (by omega))
    have h3 := h.swap A (i := m) (j := j) (by omega) hj (Ne.symm hjm')
    rw [h2] at h3
    grind
theorem row_er (v : Nat → Rat) (n c : Nat) (h : c < n) : v c = sm n fun k => v k * er k c := by
 rw [sm_one (f := fun k => v k * er k c) h (fun i _ hne => by show v i * (if c = i then 1 else 0) = 0; rw [if_neg (Ne.symm hne)]; grind)]
 show v c = v c * (if c = c then 1 else 0)
 rw [if_pos rfl]; grind
theorem AltZ.all {n : Nat} {E : (Nat → Nat → Rat) → Rat} (h : AltZ n E) : ∀ (m : Nat), m ≤ n → ∀ (A : Nat → Nat → Rat), (∀ i, m ≤ i → i < n → ∃ c, c < n ∧ A i = er c) → E A = 0
 | 0, _, A, hA => by
  have hA' : ∀ i, ∃ c, i < n → c < n ∧ A i = er c := fun i => by
   by_cases hi : i < n
   ·obtain ⟨c, hc⟩ := hA i (Nat.zero_le _) hi; exact ⟨c, fun _ => hc⟩
   ·exact ⟨0, fun h => absurd h hi⟩
  exact h.perm n A (fun i => Classical.choose (hA' i)) 0 (by omega) (fun i hi => Classical.choose_spec (hA' i) hi) (fun i hi => by omega)
 | m + 1, hm, A, hA => by
  have e : E A = E (rw_ A m fun c => sm n fun k => A m k * er k c) := by
   refine h.cong _ _ fun i j hi hj => ?_
   unfold rw_
   split
   ·rename_i e; rw [e]; exact row_er _ _ _ hj
   ·rfl
  rw [e, h.sum A (by omega)]
  rw [show sm n (fun k => A m k * E (rw_ A m (er k))) = sm n fun _ => 0 from sm_congr fun k hk => by
   rw [AltZ.all h m (by omega) (rw_ A m (er k)) fun i hi hin => ?_]
   ·grind
   ·by_cases a : i = m
    ·exact ⟨k, hk, by subst a; funext c; show (if i = i then er k c else _) = _; rw [if_pos rfl]⟩
    ·obtain ⟨c, hc1, hc2⟩ := hA i (by omega) hin
     exact ⟨c, hc1, by rw [← hc2]; funext x; show (if i = m then er k x else A i x) = _; rw [if_neg a]⟩]
  exact sm_nil n
end Go.Hp
namespace Go.Hp
theorem sm_rev (f : Nat → Rat) : ∀ n, sm (n + 1) f = sm (n + 1) fun i => f (n - i)
 | 0 => by rw [sm_succ, sm_succ, sm_zero, sm_zero]
 | n + 1 => by
  rw [sm_succ, sm_rev f n, sm_front (n + 1)]
  rw [show sm (n + 1) (fun i => f (n + 1 - (i + 1))) = sm (n + 1) (fun i => f (n - i)) from sm_congr fun i _ => by congr 1; omega]
  rw [Nat.sub_zero]; grind
theorem conv {N p q j : Nat} {X Y : Nat → Rat} (hp : p < N) (hX : Sup (p + 1) X) :
  sm N (fun c => (if c ≤ p then X (p - c) else 0) * (if j ≤ q + c then Y (q + c - j) else 0)) = if j ≤ p + q then cv X Y (p + q - j) else 0 := by
 have h1 : sm N (fun c => (if c ≤ p then X (p - c) else 0) * (if j ≤ q + c then Y (q + c - j) else 0)) = sm (p + 1) (fun c => (if c ≤ p then X (p - c) else 0) * (if j ≤ q + c then Y (q + c - j) else 0)) :=
  sm_tail (fun i hi => by rw [if_neg (by omega)]; grind) (by omega)
 rw [h1, sm_rev]
 by_cases hj : j ≤ p + q
 ·rw [if_pos hj, cv_at hX]
  refine sm_congr fun i hi => ?_
  rw [if_pos (by omega), show p - (p - i) = i from by omega]
  by_cases a : i ≤ p + q - j
  ·rw [if_pos (by omega), if_pos a]; congr 2; omega
  ·rw [if_neg (by omega), if_neg a]
 ·rw [if_neg hj]
  rw [show sm (p + 1) (fun i => (if p - i ≤ p then X (p - (p - i)) else 0) * (if j ≤ q + (p - i) then Y (q + (p - i) - j) else 0)) = sm (p + 1) fun _ => 0 from sm_congr fun i hi => by
   rw [if_neg (show ¬ j ≤ q + (p - i) by omega)]; grind]
  exact sm_nil _
theorem pone_ne : pone ≠ pz := fun e => by have := congrFun e 0; exact absurd this (by decide)
end Go.Hp
namespace Go.Hp
def Zs_ (s : Nat) (q : Rat) : Prop := ∃ z : Int, q = (z : Rat) ∧ z.natAbs < bp s
theorem Zs_.mul {s t : Nat} {p q : Rat} (h : Zs_ s p) (k : Zs_ t q) : Zs_ (s + t) (p * q) := by
 obtain ⟨x, rfl, hx⟩ := h
 obtain ⟨y, rfl, hy⟩ := k
 refine ⟨x * y, (Rat.intCast_mul x y).symm, ?_⟩
 rw [Int.natAbs_mul, bp_add]
 exact Nat.mul_lt_mul'' hx hy
theorem Zs_.sg {s : Nat} {q : Rat} (h : Zs_ s q) (i : Nat) : Zs_ s (Hp.sg i * q) := by
 obtain ⟨x, rfl, hx⟩ := h
 unfold Hp.sg
 split
 ·exact ⟨x, by grind, hx⟩
 ·exact ⟨-x, by rw [Rat.intCast_neg]; grind, by rw [Int.natAbs_neg]; exact hx⟩
theorem Zs_.up {s t : Nat} {q : Rat} (h : Zs_ s q) (k : s ≤ t) : Zs_ t q := by
 obtain ⟨x, rfl, hx⟩ := h
 exact ⟨x, rfl, Nat.lt_of_lt_of_le hx (bp_le k)⟩
theorem Zs_.zero (s : Nat) : Zs_ s 0 := ⟨0, rfl, bp_pos s⟩
end Go.Hp
namespace Go.Hp
/-! ### the resultant with the derivative -/
theorem zi_pd {F : Nat → Rat} (h : ZI F) : ZI (pd F) := fun i => by
 obtain ⟨n, e⟩ := h (i + 1)
 exact ⟨((i + 1 : Nat) : Int) * n, by unfold pd; rw [e, Rat.intCast_mul]; rfl⟩
theorem sup_pd {F : Nat → Rat} {n : Nat} (h : Sup (n + 1) F) : Sup n (pd F) := fun i hi => by unfold pd; rw [h (i + 1) (by omega)]; exact Rat.mul_zero _
theorem pl_pd {F : Nat → Rat} (fF : Fin_ F) : pl (pd F) = pl F - 1 := by
 by_cases h : pl F = 0
 ·rw [(pl_zero fF).1 h]
  have : pd pz = pz := by funext i; exact Rat.mul_zero _
  rw [this, pl_pz]
 ·obtain ⟨m, hm⟩ : ∃ m, pl F = m + 1 := ⟨pl F - 1, by omega⟩
  have hs : Sup (m + 1) F := hm ▸ pl_sup fF
  have ht := pl_top fF (by omega)
  rw [hm] at ht ⊢
  refine pl_eq (sup_pd hs) fun h0 => ?_
  obtain ⟨k, rfl⟩ : ∃ k, m = k + 1 := ⟨m - 1, by omega⟩
  show ((k + 1 : Nat) : Rat) * F (k + 1) ≠ 0
  intro e
  rcases Rat.mul_eq_zero.1 e with e | e
  ·have : ((k + 1 : Nat) : Rat) = ((0 : Nat) : Rat) := e
   have := Rat.natCast_inj.1 this
   omega
  ·exact ht e
end Go.Hp
namespace Go.Hp
structure Pos1 (F : Nat → Rat) : Prop where
 z : ZI F
 f : Fin_ F
 n : F ≠ pz
 l : 0 < ld F
 c : cn F = 1
theorem Pos1.pp {F : Nat → Rat} (hz : ZI F) (h : Fin_ F) (h0 : F ≠ pz) : Pos1 (Hp.pp F) := ⟨pp_zi hz h, pp_fin h, pp_ne hz h h0, pp_lead hz h h0, cn_pp hz h h0⟩
theorem Pos1.pcn {F : Nat → Rat} (h : Pos1 F) : Hp.pcn F = 1 := by
 have := h.l
 unfold Hp.pcn
 rw [if_neg (by grind), h.c]; rfl
theorem Pos1.self {F : Nat → Rat} (h : Pos1 F) : Hp.pp F = F := by
 have e := pp_eq h.z h.f h.n
 rw [h.pcn] at e
 rw [show (((1 : Int)) : Rat) = 1 from rfl, psc_one] at e
 exact e.symm
theorem Pos1.pos {F : Nat → Rat} (h : Pos1 F) : 0 < pl F := pl_pos h.f h.n
theorem fin_bound {F : Nat → Rat} (h : Fin_ F) : ∃ S, ∀ i, qsz (F i) ≤ S := by
 obtain ⟨n, h⟩ := h
 induction n generalizing F with
 | zero => exact ⟨1, fun i => by rw [h i (Nat.zero_le _)]; decide⟩
 | succ n ih =>
  obtain ⟨S, hS⟩ := ih h.tl
  refine ⟨max S (qsz (F 0)), fun i => ?_⟩
  match i with
  | 0 => exact Nat.le_max_right _ _
  | i + 1 => exact Nat.le_trans (hS i) (Nat.le_max_left _ _)
theorem zgc_is {F G : Nat → Rat} (fF : Fin_ F) (fG : Fin_ G) (zF : ZI F) (zG : ZI G) : IsZG F G (zgc F G) := by
 obtain ⟨S, hS⟩ := fin_bound fF
 obtain ⟨T, hT⟩ := fin_bound fG
 exact (zgc_all fF fG zF zG (S := max S T) (fun i => Nat.le_trans (hS i) (Nat.le_max_left _ _)) (fun i => Nat.le_trans (hT i) (Nat.le_max_right _ _))).1
theorem ld_cv {F G : Nat → Rat} (h : Fin_ F) (k : Fin_ G) (hF : F ≠ pz) (hG : G ≠ pz) : ld (cv F G) = ld F * ld G := by
 have h1 := pl_cv h k hF hG
 have h2 := pl_pos h hF
 have h3 := pl_pos k hG
 unfold ld
 rw [h1]
 have := cv_top (n := pl F - 1) (m := pl G - 1) (by rw [show pl F - 1 + 1 = pl F by omega]; exact pl_sup h) (by rw [show pl G - 1 + 1 = pl G by omega]; exact pl_sup k)
 rw [show pl F + pl G - 1 - 1 = pl F - 1 + (pl G - 1) by omega]; exact this
theorem Pos1.mul {F G : Nat → Rat} (h : Pos1 F) (k : Pos1 G) : Pos1 (cv F G) :=
 ⟨h.z.cv k.z, h.f.cv k.f, fun e => by rcases cv_eq_zero h.f k.f e with e | e; exact h.n e; exact k.n e, by rw [ld_cv h.f k.f h.n k.n]; exact Rat.mul_pos h.l k.l, by rw [gauss h.z k.z h.f k.f, h.c, k.c]⟩
theorem pos_pone : Pos1 pone := by
 have e : pl pone = 1 := pl_eq pone_sup fun _ => by show (1 : Rat) ≠ 0; decide
 refine ⟨fun i => ?_, pone_fin, pone_ne, ?_, ?_⟩
 ·match i with
  | 0 => exact ⟨1, rfl⟩
  | i + 1 => exact ⟨0, rfl⟩
 ·unfold ld; rw [e]; show (0 : Rat) < 1; decide
 ·unfold cn; rw [e]; rfl
theorem Pos1.one {F : Nat → Rat} (h : Pos1 F) (h1 : pl F ≤ 1) : F = pone := by
 have hp := h.pos
 have e1 : pl F = 1 := by omega
 have hc := h.c
 have hl := h.l
 unfold ld at hl
 unfold cn at hc
 rw [e1] at hl hc
 have hc' : Int.gcd ((0 : Nat) : Int) (F 0).num = 1 := hc
 obtain ⟨z, hz⟩ := h.z 0
 rw [hz] at hc' hl
 have hn : ((z : Int) : Rat).num = z := rfl
 rw [hn] at hc'
 have hz0 : 0 < z := by exact_mod_cast hl
 have h2 : z.natAbs = 1 := by simpa [Int.gcd] using hc'
 have h3 : z = 1 := by omega
 funext i
 match i with
 | 0 => rw [hz, h3]; rfl
 | i + 1 => exact (pl_sup h.f) (i + 1) (by omega)
theorem Pos1.gcd {F G : Nat → Rat} (h : Pos1 F) (zG : ZI G) (fG : Fin_ G) : Pos1 (zgc F G) ∧ Zdv F (zgc F G) ∧ Zdv G (zgc F G) ∧ Dv (zgc F G) F ∧ Dv (zgc F G) G ∧ ∃ U V, Fin_ U ∧ Fin_ V ∧ pad (cv U F) (cv V G) = zgc F G := by
 have k := zgc_is h.f fG h.z zG
 obtain ⟨D, hD⟩ : ∃ D, D = zgc F G := ⟨_, rfl⟩
 rw [← hD] at k ⊢
 obtain ⟨f1, z1, l1, c1, g1⟩ := k
 have k' : IsZG F G D := ⟨f1, z1, l1, c1, g1⟩
 have hn : D ≠ pz := fun e => by
  have := g1.2.2.1
  rw [e, mn_pz] at this
  exact h.n (dv_pz this)
 refine ⟨⟨z1, f1, hn, l1 hn, by rw [c1, h.c, Nat.gcd_one_left]⟩, k'.zdv h.z h.f hn, k'.symm_.zdv zG fG hn, (dv_mn D).trans g1.2.2.1, (dv_mn D).trans g1.2.2.2.1, ?_⟩
 obtain ⟨U, V, fU, fV, e⟩ := g1.bez h.f fG
 refine ⟨psc (ld D) U, psc (ld D) V, fU.psc _, fV.psc _, ?_⟩
 have e2 : psc (ld D) (pad (cv U F) (cv V G)) = psc (ld D) (mn D) := by rw [e]
 have e3 : psc (ld D) (mn D) = D := by
  unfold mn
  rw [psc_psc]
  have := ld_ne f1 hn
  rw [show ld D * (1 / ld D) = 1 by grind, psc_one]
 rw [e3] at e2
 rw [psc_cv, psc_cv, ← e2]
 funext n; simp only [pad, psc]; grind
theorem zdv_quot {F D : Nat → Rat} (fD : Fin_ D) (nD : D ≠ pz) (h : Zdv F D) : ZI (pq F D) ∧ Fin_ (pq F D) ∧ F = cv (pq F D) D := by
 obtain ⟨Q, zQ, fQ, e⟩ := h
 have := (pq_mul fQ fD nD).1
 rw [← e] at this
 rw [this]
 exact ⟨zQ, fQ, e⟩
theorem Pos1.quot {F D : Nat → Rat} (h : Pos1 F) (k : Pos1 D) (hd : Zdv F D) : Pos1 (pq F D) ∧ F = cv (pq F D) D := by
 obtain ⟨zQ, fQ, e⟩ := zdv_quot k.f k.n hd
 have nQ : pq F D ≠ pz := fun e2 => h.n (by rw [e, e2, pz_cv])
 have h1 : ld F = ld (pq F D) * ld D := by rw [← ld_cv fQ k.f nQ k.n, ← e]
 have h2 : cn F = cn (pq F D) * cn D := by rw [← gauss zQ k.z fQ k.f, ← e]
 refine ⟨⟨zQ, fQ, nQ, ?_, ?_⟩, e⟩
 ·have a := h.l; have b := k.l
  rw [h1] at a
  rcases Std.lt_trichotomy 0 (ld (pq F D)) with c | c | c
  ·exact c
  ·rw [← c] at a; rw [Rat.zero_mul] at a; exact absurd a (by decide)
  ·exfalso
   have := Rat.mul_neg_iff_of_pos_right b |>.2 c
   grind
 ·rw [h.c, k.c] at h2; omega
def Cop (F G : Nat → Rat) : Prop := ∃ U V, Fin_ U ∧ Fin_ V ∧ pad (cv U F) (cv V G) = pone
theorem Cop.symm {F G : Nat → Rat} (h : Cop F G) : Cop G F := by
 obtain ⟨U, V, a, b, e⟩ := h
 exact ⟨V, U, b, a, by rw [← e]; funext n; simp only [pad]; grind⟩
theorem Cop.dv {F G D : Nat → Rat} (h : Cop F G) (k : Dv D F) : Cop D G := by
 obtain ⟨U, V, a, b, e⟩ := h
 obtain ⟨Q, fQ, rfl⟩ := k
 exact ⟨cv U Q, V, a.cv fQ, b, by rw [cv_assoc]; exact e⟩
theorem Cop.euclid {F G H : Nat → Rat} (h : Cop F G) (fH : Fin_ H) (k : Dv F (cv G H)) : Dv F H := by
 obtain ⟨U, V, a, b, e⟩ := h
 have h1 : Dv F (cv (pad (cv U F) (cv V G)) H) := by
  rw [pad_cv]
  refine Dv.pad ?_ ?_
  ·rw [cv_assoc, cv_comm F H, ← cv_assoc]
   exact (Dv.refl F).mul (a.cv fH)
  ·rw [cv_assoc]; exact k.mul b
 rw [e, pone_cv] at h1
 exact h1
theorem Cop.self {F : Nat → Rat} (fF : Fin_ F) (h : Cop F F) : pl F = 1 := by
 obtain ⟨U, V, a, b, e⟩ := h
 have h1 : Dv F pone := by rw [← e]; exact ((Dv.refl F).mul a).pad ((Dv.refl F).mul b)
 have hn : F ≠ pz := fun e2 => pone_ne (dv_pz (by rw [e2] at h1; exact h1))
 have h2 := Dv.le fF pone_fin pone_ne h1
 have h3 : pl pone ≤ 1 := pl_le pone_sup
 have := pl_pos fF hn
 omega
theorem Cop.of_gcd {F G : Nat → Rat} (h : Pos1 F) (zG : ZI G) (fG : Fin_ G) (h1 : pl (zgc F G) ≤ 1) : Cop F G := by
 obtain ⟨k, -, -, -, -, U, V, a, b, e⟩ := h.gcd zG fG
 rw [k.one h1] at e
 exact ⟨U, V, a, b, e⟩
theorem Cop.gcd {F G : Nat → Rat} (c : Cop F G) (h : Pos1 F) (zG : ZI G) (fG : Fin_ G) : zgc F G = pone := by
 obtain ⟨k, -, -, d1, d2, -⟩ := h.gcd zG fG
 have h1 := Cop.self k.f ((c.dv d1).symm.dv d2)
 exact k.one (by omega)
theorem fin_pd {F : Nat → Rat} (h : Fin_ F) : Fin_ (pd F) := by
 obtain ⟨n, h⟩ := h
 exact ⟨n, sup_pd (h.mono (Nat.le_succ n))⟩
theorem dv_pd {F : Nat → Rat} (fF : Fin_ F) (hn : F ≠ pz) (h : Dv F (pd F)) : pl F = 1 := by
 have h1 := pl_pd fF
 have h2 := pl_pos fF hn
 rcases Nat.lt_or_ge 1 (pl F) with h3 | h3
 ·have h4 : pd F ≠ pz := fun e => by rw [e, pl_pz] at h1; omega
  have := Dv.le fF (fin_pd fF) h4 h
  omega
 ·omega
def pw (F : Nat → Rat) : Nat → Nat → Rat
 | 0 => pone
 | n + 1 => cv (pw F n) F
theorem pw_fin {F : Nat → Rat} (h : Fin_ F) : ∀ n, Fin_ (pw F n)
 | 0 => pone_fin
 | n + 1 => (pw_fin h n).cv h
theorem pw_one (F : Nat → Rat) : pw F 1 = F := pone_cv F
theorem pw_pone (n : Nat) : pw pone n = pone := by
 induction n with
 | zero => rfl
 | succ n ih => show cv (pw pone n) pone = pone; rw [ih, cv_pone]
theorem pw_mul (F G : Nat → Rat) : ∀ n, pw (cv F G) n = cv (pw F n) (pw G n)
 | 0 => (pone_cv pone).symm
 | n + 1 => by
  show cv (pw (cv F G) n) (cv F G) = cv (cv (pw F n) F) (cv (pw G n) G)
  rw [pw_mul F G n, cv_assoc, cv_assoc, ← cv_assoc (pw G n) F G, cv_comm (pw G n) F, cv_assoc]
theorem pw_add (F : Nat → Rat) (m : Nat) : ∀ n, pw F (m + n) = cv (pw F m) (pw F n)
 | 0 => (cv_pone _).symm
 | n + 1 => by
  show cv (pw F (m + n)) F = cv (pw F m) (cv (pw F n) F)
  rw [pw_add F m n, cv_assoc]
theorem pos_pw {F : Nat → Rat} (h : Pos1 F) : ∀ n, Pos1 (pw F n)
 | 0 => pos_pone
 | n + 1 => (pos_pw h n).mul h
theorem pl_pw {F : Nat → Rat} (h : Pos1 F) : ∀ n, pl (pw F n) = n * (pl F - 1) + 1
 | 0 => by show pl pone = _; rw [show pl pone = 1 from pl_eq pone_sup fun _ => by show (1 : Rat) ≠ 0; decide]; omega
 | n + 1 => by
  have h1 := pl_cv (pos_pw h n).f h.f (pos_pw h n).n h.n
  have h2 := h.pos
  show pl (cv (pw F n) F) = _
  rw [h1, pl_pw h n, Nat.succ_mul]; omega
theorem dv_pw_comb {U W V C D : Nat → Rat} (fU : Fin_ U) (fW : Fin_ W) (fV : Fin_ V) (fC : Fin_ C) (h : Dv D C) : ∀ N, Dv D (pw W N) → Dv D (pw (pad (cv U W) (cv V C)) N) := by
 intro N hN
 have key : ∀ n, ∃ X, Fin_ X ∧ pw (pad (cv U W) (cv V C)) n = pad (cv (pw U n) (pw W n)) (cv X C) := by
  intro n
  induction n with
  | zero => exact ⟨pz, Fin_.pz, by show pone = pad (cv pone pone) (cv pz C); rw [pz_cv, pone_cv]; funext i; simp only [pad, pz]; grind⟩
  | succ n ih =>
   obtain ⟨X, fX, e⟩ := ih
   refine ⟨pad (cv (cv (pw U n) (pw W n)) V) (cv X (pad (cv U W) (cv V C))), ?_, ?_⟩
   ·exact (((pw_fin fU n).cv (pw_fin fW n)).cv fV).pad (fX.cv ((fU.cv fW).pad (fV.cv fC)))
   ·show cv (pw (pad (cv U W) (cv V C)) n) (pad (cv U W) (cv V C)) = pad (cv (cv (pw U n) U) (cv (pw W n) W)) _
    rw [e, pad_cv, cv_pad (cv (pw U n) (pw W n)), pad_cv (cv (cv (pw U n) (pw W n)) V)]
    have e1 : cv (cv (pw U n) (pw W n)) (cv U W) = cv (cv (pw U n) U) (cv (pw W n) W) := by
     rw [cv_assoc, cv_assoc, ← cv_assoc (pw W n) U W, cv_comm (pw W n) U, cv_assoc]
    have e2 : cv (cv X C) (pad (cv U W) (cv V C)) = cv (cv X (pad (cv U W) (cv V C))) C := by
     rw [cv_assoc, cv_comm C, ← cv_assoc]
    rw [e1, e2, cv_assoc (cv (pw U n) (pw W n)) V C]
    funext i; simp only [pad]; grind
 obtain ⟨X, fX, e⟩ := key N
 rw [e]
 exact (hN.mul (pw_fin fU N)).pad (h.mul fX)
/-! ### the rounds -/
noncomputable def yw (W C : Nat → Rat) : Nat → (Nat → Rat) × (Nat → Rat)
 | 0 => (W, C)
 | k + 1 => (zgc (yw W C k).1 (yw W C k).2, pq (yw W C k).2 (zgc (yw W C k).1 (yw W C k).2))
noncomputable def ya (W C : Nat → Rat) (k : Nat) : Nat → Rat := pq (yw W C k).1 (yw W C (k + 1)).1
noncomputable def yl (W C : Nat → Rat) : Nat → List ((Nat → Rat) × Nat)
 | 0 => []
 | k + 1 => yl W C k ++ (if 1 < pl (ya W C k) then [(ya W C k, k + 1)] else [])
section
variable {W C : Nat → Rat}
theorem yw_pos (hW : Pos1 W) (hC : Pos1 C) : ∀ k, Pos1 (yw W C k).1 ∧ Pos1 (yw W C k).2
 | 0 => ⟨hW, hC⟩
 | k + 1 => by
  obtain ⟨h1, h2⟩ := yw_pos hW hC k
  obtain ⟨k1, k2, k3, -⟩ := h1.gcd h2.z h2.f
  exact ⟨k1, (h2.quot k1 k3).1⟩
theorem yw_eq (hW : Pos1 W) (hC : Pos1 C) (k : Nat) : Pos1 (ya W C k) ∧ (yw W C k).1 = cv (ya W C k) (yw W C (k + 1)).1 ∧ (yw W C k).2 = cv (yw W C (k + 1)).2 (yw W C (k + 1)).1 ∧ Zdv (yw W C k).1 (yw W C (k + 1)).1 ∧ Zdv (yw W C k).2 (yw W C (k + 1)).1 := by
 obtain ⟨h1, h2⟩ := yw_pos hW hC k
 obtain ⟨k1, k2, k3, -⟩ := h1.gcd h2.z h2.f
 have q1 := h1.quot k1 k2
 have q2 := h2.quot k1 k3
 exact ⟨q1.1, q1.2, q2.2, k2, k3⟩
theorem zdv_trans {A B D : Nat → Rat} (h : Zdv A B) (k : Zdv B D) : Zdv A D := by
 obtain ⟨Q, a, b, rfl⟩ := h
 obtain ⟨R, c, d, rfl⟩ := k
 exact ⟨cv Q R, a.cv c, b.cv d, (cv_assoc _ _ _).symm⟩
theorem zdv_dv {A B : Nat → Rat} (h : Zdv A B) : Dv B A := by
 obtain ⟨Q, a, b, rfl⟩ := h; exact ⟨Q, b, rfl⟩
theorem yw_zdv (hW : Pos1 W) (hC : Pos1 C) : ∀ k, Zdv W (yw W C k).1 ∧ Zdv C (yw W C k).2
 | 0 => ⟨⟨pone, pos_pone.z, pone_fin, (pone_cv _).symm⟩, ⟨pone, pos_pone.z, pone_fin, (pone_cv _).symm⟩⟩
 | k + 1 => by
  obtain ⟨h1, h2⟩ := yw_zdv hW hC k
  obtain ⟨p, e1, e2, d1, d2⟩ := yw_eq hW hC k
  have q := (yw_pos hW hC (k + 1)).1
  exact ⟨zdv_trans h1 d1, zdv_trans h2 ⟨(yw W C (k + 1)).1, q.z, q.f, by rw [cv_comm]; exact e2⟩⟩
theorem yw_low (hW : Pos1 W) (hC : Pos1 C) : ∀ k, (∀ j, j ≤ k → 1 < pl (yw W C j).1) → pl (yw W C k).2 + k ≤ pl C
 | 0, _ => by show pl C + 0 ≤ _; omega
 | k + 1, h => by
  have h1 := yw_low hW hC k fun j hj => h j (by omega)
  have h2 := h (k + 1) (Nat.le_refl _)
  obtain ⟨p, e1, e2, -⟩ := yw_eq hW hC k
  obtain ⟨q1, q2⟩ := yw_pos hW hC (k + 1)
  have h3 := pl_cv q2.f q1.f q2.n q1.n
  rw [← e2] at h3
  omega
theorem yw_stop (hW : Pos1 W) (hC : Pos1 C) : ∃ K, pl (yw W C K).1 ≤ 1 ∧ (∀ j, j < K → 1 < pl (yw W C j).1) ∧ K ≤ pl C := by
 have hx : ∃ K, pl (yw W C K).1 ≤ 1 := Classical.byContradiction fun hn => by
  have h1 := yw_low hW hC (pl C) fun j _ => by
   rcases Nat.lt_or_ge 1 (pl (yw W C j).1) with a | a
   ·exact a
   ·exact absurd ⟨j, a⟩ hn
  have := (yw_pos hW hC (pl C)).2.pos
  omega
 obtain ⟨K, h1, h2⟩ := least hx
 refine ⟨K, h1, fun j hj => by have := h2 j hj; omega, ?_⟩
 match K with
 | 0 => exact Nat.zero_le _
 | K + 1 =>
  have := yw_low hW hC K fun j hj => by have := h2 j (by omega); omega
  have := (yw_pos hW hC K).2.pos
  omega
end
end Go.Hp
namespace Go.Hp
theorem evn_zi {F : Nat → Rat} (z : ZI F) (x : Int) : ∀ n, ∃ y : Int, evn n F (x : Rat) = (y : Rat) := by
 intro n
 induction n generalizing F with
 | zero => exact ⟨0, rfl⟩
 | succ n ih =>
  obtain ⟨y, hy⟩ := ih (F := tl F) fun i => z (i + 1)
  obtain ⟨a, ha⟩ := z 0
  exact ⟨a + x * y, by rw [evn_tl, hy, ha]; simp⟩
theorem ev_zi {F : Nat → Rat} (z : ZI F) (x : Int) : ∃ y : Int, ev F (x : Rat) = (y : Rat) := evn_zi z x _
theorem off_roots {F : Nat → Rat} {n : Nat} (fF : Fin_ F) (h0 : F ≠ pz) (hn : pl F ≤ n) : ∃ X : Nat → Rat, Apart X n ∧ ∀ k, k < n → ev F (X k) ≠ 0 ∧ ∃ m : Nat, m < 2 * n ∧ X k = ((m : Int) : Rat) := by
 classical
 obtain ⟨l, hl⟩ : ∃ l, l = (List.range (2 * n)).map (fun k : Nat => (((k : Nat) : Int) : Rat)) := ⟨_, rfl⟩
 have hnd : l.Nodup := by
  rw [hl, List.nodup_iff_pairwise_ne, List.pairwise_map]
  refine List.Pairwise.imp (R := fun a b => a < b) ?_ List.pairwise_lt_range
  intro a b hab e
  have : ((a : Nat) : Int) = ((b : Nat) : Int) := by exact_mod_cast e
  omega
 obtain ⟨R, hR⟩ : ∃ R, R = l.filter fun x => decide (ev F x = 0) := ⟨_, rfl⟩
 obtain ⟨N, hN⟩ : ∃ N, N = l.filter fun x => !decide (ev F x = 0) := ⟨_, rfl⟩
 have hlen : R.length + N.length = 2 * n := by
  have h1 : R.length + N.length = l.length := by
   rw [hR, hN]
   clear hR hN hl hnd
   induction l with
   | nil => rfl
   | cons a l ih =>
    simp only [List.filter_cons]
    by_cases e : ev F a = 0
    ·simp [e]; omega
    ·simp [e]; omega
  rw [h1, hl]; simp
 have hRl : R.length < pl F := by
  rcases Nat.lt_or_ge R.length (pl F) with a | a
  ·exact a
  ·exact absurd (many_roots ((pl_sup fF).mono a) (by rw [hR]; exact hnd.sublist (List.filter_sublist)) (fun x hx => by rw [hR, List.mem_filter] at hx; simpa using hx.2)) h0
 have hNn : N.Nodup := by rw [hN]; exact hnd.sublist (List.filter_sublist)
 have hNg : ∀ k (h : k < n), ∃ h' : k < N.length, N.getD k 0 = N[k] := fun k h => ⟨by omega, by rw [List.getD_eq_getElem?_getD, List.getElem?_eq_getElem (by omega)]; rfl⟩
 refine ⟨fun k => N.getD k 0, fun i k hi hk => ?_, fun k hk => ?_⟩
 ·obtain ⟨a1, a2⟩ := hNg i hi
  obtain ⟨b1, b2⟩ := hNg k (by omega)
  show N.getD i 0 ≠ N.getD k 0
  rw [a2, b2]
  intro e
  rw [List.nodup_iff_pairwise_ne, List.pairwise_iff_getElem] at hNn
  exact hNn k i b1 a1 hk e.symm
 ·obtain ⟨a1, a2⟩ := hNg k hk
  show ev F (N.getD k 0) ≠ 0 ∧ ∃ m : Nat, m < 2 * n ∧ N.getD k 0 = _
  rw [a2]
  obtain ⟨y, hy⟩ : ∃ y, y = N[k] := ⟨_, rfl⟩
  have hm : y ∈ N := by rw [hy]; exact List.getElem_mem a1
  rw [← hy]
  clear hy a2
  rw [hN, List.mem_filter, hl] at hm
  obtain ⟨b1, b2⟩ := hm
  obtain ⟨m, c1, c2⟩ := List.mem_map.1 b1
  refine ⟨by simpa using b2, m, List.mem_range.1 c1, c2.symm⟩
theorem zdv_qsz {F D : Nat → Rat} {n s : Nat} (zF : ZI F) (fF : Fin_ F) (h0 : F ≠ pz) (zD : ZI D) (fD : Fin_ D) (hd : Zdv F D) (hn : pl F ≤ n) (hn9 : n ≤ 16) (hs : ∀ i, qsz (F i) ≤ s) (hs9 : s ≤ 5) (i : Nat) : qsz (D i) ≤ 36000 := by
 obtain ⟨X, hA, hX⟩ := off_roots fF h0 hn
 have hX1 : ∀ k, k < n → qsz (X k) ≤ 1 := fun k hk => by
  obtain ⟨-, m, h1, h2⟩ := hX k hk
  have h3 : bp 1 = 4294967296 := rfl
  have h4 : sz ((m : Nat) : Int).natAbs ≤ 1 := sz_le_of_lt (by rw [h3]; omega)
  rw [h2, qsz_cast]
  omega
 have hX2 : ∀ k, k < n → qsz (X k) ≤ 2 := fun k hk => Nat.le_trans (hX1 k hk) (by omega)
 obtain ⟨Q, zQ, fQ, e⟩ := hd
 have hY : ∀ k, k < n → qsz (ev D (X k)) ≤ 113 := fun k hk => by
  have h1 := ev_qsz ((pl_sup fF).mono hn) hs (hX1 k hk)
  have h2 : n * (s + 1 + 1) ≤ 16 * 7 := Nat.mul_le_mul hn9 (by omega)
  obtain ⟨h3, m, -, h4⟩ := hX k hk
  have h5 : ev F (X k) = ev Q (X k) * ev D (X k) := by rw [e, ev_cv fQ fD]
  rw [h4] at h1 h3 h5 ⊢
  obtain ⟨a, ha⟩ := ev_zi zF (m : Int)
  obtain ⟨b, hb⟩ := ev_zi zQ (m : Int)
  obtain ⟨c, hc⟩ := ev_zi zD (m : Int)
  rw [ha] at h1 h3
  rw [ha, hb, hc] at h5
  rw [hc]
  have h6 : a = b * c := by exact_mod_cast h5
  have h7 : a ≠ 0 := fun e => h3 (by rw [e]; rfl)
  rw [qsz_cast] at h1 ⊢
  have h8 : c.natAbs ≤ a.natAbs := Nat.le_of_dvd (by omega) (Int.natAbs_dvd_natAbs.2 ⟨b, by rw [h6, Int.mul_comm]⟩)
  have := sz_mono h8
  omega
 have hDn : D ≠ pz := fun e2 => h0 (by rw [e, e2, cv_pz])
 have hDl : pl D ≤ pl F := Dv.le fD fF h0 ⟨Q, fQ, e⟩
 obtain ⟨Y, hYe⟩ : ∃ Y, Y = fun k => ev D (X k) := ⟨_, rfl⟩
 have hD : D = lgs X Y n n := through_uniq hA ((pl_sup fD).mono (by omega)) (lgs_sup X Y n n (Nat.le_refl _)) fun k hk => by
  rw [ev_lgs hA hk n (Nat.le_refl _), if_pos hk, hYe]
 have hc : ∀ j, j < n → CD 2235 (lgt X Y n j) := fun j hj => by
  have h1 := lgp_cd j n hX2 (by omega)
  have h2 := ev_qsz (lgp_sup X j n).1 (fun j => h1.elem j) (hX1 j hj)
  have h3 : (n + 1) * (3 + 7 * n + 1 + 1) ≤ 17 * 117 := Nat.mul_le_mul (by omega) (by omega)
  have h4 := qsz_div (Y j) (ev (lgp X j n) (X j))
  have h5 := hY j hj
  have h6 : qsz (Y j) ≤ 113 := by rw [hYe]; exact h5
  exact (h1.psc _).mono (by omega)
 have hl : ∀ m, m ≤ n → CD (1 + m * 2236) (lgs X Y n m) := by
  intro m
  induction m with
  | zero => intro _; exact CD.pz
  | succ m ih => intro h; exact ((ih (by omega)).pad (hc m h)).mono (by omega)
 rw [hD]
 have h9 : n * 2236 ≤ 16 * 2236 := Nat.mul_le_mul_right _ hn9
 exact Nat.le_trans ((hl n (Nat.le_refl _)).elem i) (by omega)
end Go.Hp
namespace Go.Hp
theorem Cop.mul {F G H : Nat → Rat} (fF : Fin_ F) (fG : Fin_ G) (fH : Fin_ H) (h : Cop F G) (k : Cop F H) : Cop F (cv G H) := by
 obtain ⟨U, V, a, b, e⟩ := h
 obtain ⟨X, Y, c, d, e'⟩ := k
 refine ⟨pad (cv (pad (cv U F) (cv V G)) X) (cv U (cv Y H)), cv V Y, (((a.cv fF).pad (b.cv fG)).cv c).pad (a.cv (d.cv fH)), b.cv d, ?_⟩
 have h1 : cv (pad (cv U F) (cv V G)) (pad (cv X F) (cv Y H)) = pone := by rw [e, e', pone_cv]
 rw [← h1, cv_pad, pad_cv (cv U F) (cv V G) (cv Y H), pad_cv _ _ F]
 have e1 : cv (cv (pad (cv U F) (cv V G)) X) F = cv (pad (cv U F) (cv V G)) (cv X F) := cv_assoc _ _ _
 have e2 : cv (cv U (cv Y H)) F = cv (cv U F) (cv Y H) := by rw [cv_assoc, cv_comm (cv Y H) F, ← cv_assoc]
 have e3 : cv (cv V Y) (cv G H) = cv (cv V G) (cv Y H) := by rw [cv_assoc, cv_assoc, ← cv_assoc Y G H, cv_comm Y G, cv_assoc]
 rw [e1, e2, e3]
 funext n; simp only [pad]; grind
theorem Cop.one (F : Nat → Rat) : Cop F pone := ⟨pz, pone, Fin_.pz, pone_fin, by rw [pz_cv, pone_cv]; funext n; simp only [pad, pz]; grind⟩
theorem Cop.pw {F G : Nat → Rat} (fF : Fin_ F) (fG : Fin_ G) (h : Cop F G) : ∀ n, Cop F (pw G n)
 | 0 => Cop.one F
 | n + 1 => Cop.mul fF (pw_fin fG n) fG (Cop.pw fF fG h n) h
theorem split_off {W : Nat → Rat} (hW : Pos1 W) : ∀ (n : Nat) {C : Nat → Rat}, Pos1 C → pl C ≤ n → ∃ P R N, Pos1 P ∧ Pos1 R ∧ C = cv P R ∧ Cop P W ∧ Dv R (pw W N) := by
 intro n
 induction n with
 | zero => intro C hC hn; have := hC.pos; omega
 | succ n ih =>
  intro C hC hn
  obtain ⟨k, z1, -, -, d2, -⟩ := hC.gcd hW.z hW.f
  by_cases h1 : pl (zgc C W) ≤ 1
  ·exact ⟨C, pone, 0, hC, pos_pone, (cv_pone C).symm, Cop.of_gcd hC hW.z hW.f h1, Dv.refl _⟩
  ·obtain ⟨q1, q2⟩ := hC.quot k z1
   have h2 := pl_cv q1.f k.f q1.n k.n
   rw [← q2] at h2
   obtain ⟨P, R, N, a, b, c, d, e⟩ := ih q1 (by omega)
   refine ⟨P, cv R (zgc C W), N + 1, a, b.mul k, by rw [← cv_assoc, ← c]; exact q2, d, ?_⟩
   obtain ⟨X, fX, eX⟩ := e
   obtain ⟨Y, fY, eY⟩ := d2
   refine ⟨cv X Y, fX.cv fY, ?_⟩
   show cv (pw W N) W = _
   rw [eX]
   conv => lhs; rw [eY]
   rw [cv_assoc, cv_assoc X Y, ← cv_assoc R Y, cv_comm R Y, cv_assoc Y R]
theorem cv_cancel {D A B : Nat → Rat} (fD : Fin_ D) (nD : D ≠ pz) (fA : Fin_ A) (fB : Fin_ B) (h : cv D A = cv D B) : A = B := by
 have h1 := (pq_mul fA fD nD).1
 have h2 := (pq_mul fB fD nD).1
 rw [cv_comm] at h1 h2
 rw [h] at h1
 exact h1.symm.trans h2
noncomputable def yc (g : Nat → Rat) : Nat → Rat := zgc g (pd g)
noncomputable def y0 (g : Nat → Rat) : Nat → Rat := pq g (yc g)
section
variable {g : Nat → Rat}
theorem yc_pos (h : Pos1 g) : Pos1 (yc g) ∧ Pos1 (y0 g) ∧ g = cv (y0 g) (yc g) ∧ Zdv g (yc g) ∧ Zdv (pd g) (yc g) := by
 obtain ⟨k, z1, z2, -⟩ := h.gcd (zi_pd h.z) (fin_pd h.f)
 obtain ⟨q1, q2⟩ := h.quot k z1
 exact ⟨k, q1, q2, z1, z2⟩
theorem yc_cop (h : Pos1 g) : ∃ V, Fin_ V ∧ pd g = cv V (yc g) ∧ Cop (y0 g) V := by
 obtain ⟨k, z1, z2, d1, d2, U, V, a, b, e⟩ := h.gcd (zi_pd h.z) (fin_pd h.f)
 obtain ⟨q1, q2⟩ := h.quot k z1
 obtain ⟨zQ, fQ, eQ⟩ := zdv_quot k.f k.n z2
 refine ⟨pq (pd g) (yc g), fQ, eQ, U, V, a, b, ?_⟩
 refine cv_cancel k.f k.n ((a.cv q1.f).pad (b.cv fQ)) pone_fin ?_
 rw [cv_pone]
 show cv (yc g) (pad (cv U (y0 g)) (cv V (pq (pd g) (yc g)))) = yc g
 conv => rhs; unfold yc; rw [← e]
 rw [cv_pad]
 congr 1
 ·rw [cv_comm, cv_assoc]; congr 1; exact q2.symm
 ·rw [cv_comm, cv_assoc]; congr 1; exact eQ.symm
theorem yc_dv (h : Pos1 g) : Dv (yc g) (cv (y0 g) (pd (yc g))) := by
 obtain ⟨k, q1, q2, z1, z2⟩ := yc_pos h
 have h1 := zdv_dv z2
 rw [q2, pd_cv, ← q2] at h1
 have h2 : Dv (yc g) (psb (pad (cv (pd (y0 g)) (yc g)) (cv (y0 g) (pd (yc g)))) (cv (pd (y0 g)) (yc g))) := h1.psb ((Dv.refl _).mul (fin_pd q1.f))
 have e : psb (pad (cv (pd (y0 g)) (yc g)) (cv (y0 g) (pd (yc g)))) (cv (pd (y0 g)) (yc g)) = cv (y0 g) (pd (yc g)) := by
  funext n; simp only [psb, pad]; grind
 rw [e] at h2
 exact h2
theorem yc_pw (h : Pos1 g) : ∃ N, Dv (yc g) (pw (y0 g) N) := by
 obtain ⟨k, q1, q2, z1, z2⟩ := yc_pos h
 obtain ⟨P, R, N, a, b, c, d, e⟩ := split_off q1 _ k (Nat.le_refl _)
 have h1 := yc_dv h
 have hP : Dv P (cv (y0 g) (cv (pd P) R)) := by
  have h2 : Dv P (cv (y0 g) (pd (yc g))) := Dv.trans ⟨R, b.f, by rw [cv_comm]; exact c⟩ h1
  rw [c, pd_cv, cv_pad] at h2
  have h3 : Dv P (cv (y0 g) (cv P (pd R))) := by
   rw [cv_comm P, ← cv_assoc]
   exact (Dv.refl P).mul (q1.f.cv (fin_pd b.f))
  have h4 := h2.psb h3
  have e4 : psb (pad (cv (y0 g) (cv (pd P) R)) (cv (y0 g) (cv P (pd R)))) (cv (y0 g) (cv P (pd R))) = cv (y0 g) (cv (pd P) R) := by
   funext n; simp only [psb, pad]; grind
  rw [e4] at h4
  exact h4
 have h5 := d.euclid ((fin_pd a.f).cv b.f) hP
 have h6 : Cop P R := ((Cop.pw a.f q1.f d N).symm.dv e).symm
 rw [cv_comm] at h5
 have h7 := h6.euclid (fin_pd a.f) h5
 have h8 := a.one (by have := dv_pd a.f a.n h7; omega)
 refine ⟨N, ?_⟩
 rw [c, h8, pone_cv]
 exact e
theorem pw_pd (E : Nat → Rat) (fE : Fin_ E) : ∀ k : Nat, cv E (pd (pw E k)) = psc ((k : Nat) : Rat) (cv (pw E k) (pd E))
 | 0 => by
  have e : pd (pw E 0) = pz := by
   funext i; show ((i + 1 : Nat) : Rat) * pone (i + 1) = 0
   show ((i + 1 : Nat) : Rat) * 0 = 0
   exact Rat.mul_zero _
  rw [e, cv_pz]
  funext i; simp only [psc, pz]; grind
 | k + 1 => by
  show cv E (pd (cv (pw E k) E)) = psc _ (cv (cv (pw E k) E) (pd E))
  rw [pd_cv, cv_pad]
  have e1 : cv E (cv (pd (pw E k)) E) = psc ((k : Nat) : Rat) (cv (cv (pw E k) E) (pd E)) := by
   rw [← cv_assoc, pw_pd E fE k, psc_cv, cv_assoc, cv_assoc, cv_comm (pd E) E]
  have e2 : cv E (cv (pw E k) (pd E)) = cv (cv (pw E k) E) (pd E) := by rw [← cv_assoc, cv_comm E]
  rw [e1, e2]
  funext i; simp only [pad, psc]
  have : (((k + 1 : Nat)) : Rat) = (k : Rat) + 1 := by push_cast; rfl
  rw [this]; grind
theorem dv_pw_pd {E C : Nat → Rat} (fE : Fin_ E) {k : Nat} (h : Dv (pw E k) C) : Dv (pw E k) (cv E (pd C)) := by
 obtain ⟨H, fH, rfl⟩ := h
 rw [pd_cv, cv_pad]
 refine Dv.pad ?_ ?_
 ·rw [← cv_assoc]
  exact (Dv.refl _).mul (fE.cv (fin_pd fH))
 ·rw [cv_comm H, ← cv_assoc, pw_pd E fE, psc_cv]
  refine Dv.psc _ ?_
  rw [cv_assoc, cv_comm]
  exact (Dv.refl _).mul ((fin_pd fE).cv fH)
theorem y0_free (h : Pos1 g) {E : Nat → Rat} (hE : Pos1 E) (hd : Dv (cv E E) (y0 g)) : pl E = 1 := by
 obtain ⟨k, q1, q2, z1, z2⟩ := yc_pos h
 obtain ⟨V, fV, eV, cV⟩ := yc_cop h
 have hE0 : Dv E (y0 g) := Dv.trans ⟨E, hE.f, rfl⟩ hd
 have cE : Cop E V := cV.dv hE0
 have hE1 : Dv E (pd (y0 g)) := by
  obtain ⟨U, fU, e⟩ := hd
  rw [e, pd_cv]
  refine Dv.pad ?_ ?_
  ·rw [← cv_assoc]; exact (Dv.refl E).mul ((fin_pd fU).cv hE.f)
  ·rw [pd_cv, cv_pad]
   exact ((Dv.refl E).mul (fin_pd hE.f)).mul fU |>.pad ((by rw [cv_comm E]; exact (Dv.refl E).mul (fin_pd hE.f) : Dv E (cv E (pd E))).mul fU)
 have key : ∀ n, Dv (pw E n) (yc g) := by
  intro n
  induction n with
  | zero => exact ⟨yc g, k.f, (cv_pone _).symm⟩
  | succ n ih =>
   have h1 : Dv (pw E (n + 1)) (cv V (yc g)) := by
    rw [← eV, q2, pd_cv]
    refine Dv.pad ?_ ?_
    ·obtain ⟨X, fX, eX⟩ := hE1
     obtain ⟨Y, fY, eY⟩ := ih
     refine ⟨cv X Y, fX.cv fY, ?_⟩
     show cv (pd (y0 g)) (yc g) = cv (cv X Y) (cv (pw E n) E)
     rw [eX]
     conv => lhs; rw [eY]
     rw [cv_assoc, cv_assoc X Y, ← cv_assoc E Y, cv_comm E Y, cv_assoc Y E, cv_comm E (pw E n)]
    ·obtain ⟨X, fX, eX⟩ := hd
     obtain ⟨Y, fY, eY⟩ := dv_pw_pd hE.f ih
     refine ⟨cv X Y, fX.cv fY, ?_⟩
     show cv (y0 g) (pd (yc g)) = cv (cv X Y) (cv (pw E n) E)
     rw [eX, cv_assoc, cv_assoc, eY, cv_assoc X Y]
     congr 1
     rw [← cv_assoc, cv_comm E Y, cv_assoc, cv_comm E (pw E n)]
   exact (Cop.pw fV hE.f cE.symm (n + 1)).symm.euclid k.f h1
 have h1 := Dv.le (pw_fin hE.f (pl (yc g))) k.f k.n (key (pl (yc g)))
 rw [pl_pw hE] at h1
 have h2 := hE.pos
 rcases Nat.lt_or_ge 1 (pl E) with h3 | h3
 ·have : pl (yc g) * 1 ≤ pl (yc g) * (pl E - 1) := Nat.mul_le_mul_left _ (by omega)
  omega
 ·omega
theorem yw_pw (h : Pos1 g) : ∃ N, ∀ k, Dv (yw (y0 g) (yc g) k).2 (pw (yw (y0 g) (yc g) k).1 N) := by
 obtain ⟨hC, hW, -⟩ := yc_pos h
 obtain ⟨N, hN⟩ := yc_pw h
 refine ⟨N, fun k => ?_⟩
 induction k with
 | zero => exact hN
 | succ k ih =>
  obtain ⟨p1, p2⟩ := yw_pos hW hC k
  obtain ⟨p, e1, e2, -⟩ := yw_eq hW hC k
  obtain ⟨-, -, -, -, -, U, V, fU, fV, e⟩ := p1.gcd p2.z p2.f
  have h1 := dv_pw_comb fU p1.f fV p2.f (Dv.refl _) N ih
  rw [e] at h1
  exact Dv.trans ⟨(yw (y0 g) (yc g) (k + 1)).1, (yw_pos hW hC (k + 1)).1.f, by rw [cv_comm]; exact e2⟩ h1
theorem yw_last (h : Pos1 g) {K : Nat} (hK : pl (yw (y0 g) (yc g) K).1 ≤ 1) : (yw (y0 g) (yc g) K).1 = pone ∧ (yw (y0 g) (yc g) K).2 = pone := by
 obtain ⟨hC, hW, -⟩ := yc_pos h
 obtain ⟨p1, p2⟩ := yw_pos hW hC K
 have e1 := p1.one hK
 obtain ⟨N, hN⟩ := yw_pw h
 have h1 := hN K
 rw [e1, pw_pone] at h1
 have h2 := Dv.le p2.f pone_fin pone_ne h1
 have h3 : pl pone ≤ 1 := pl_le pone_sup
 exact ⟨e1, p2.one (by omega)⟩
theorem ya_cop (h : Pos1 g) (k : Nat) : Cop (ya (y0 g) (yc g) k) (yw (y0 g) (yc g) (k + 1)).1 := by
 obtain ⟨hC, hW, -⟩ := yc_pos h
 obtain ⟨p, e1, e2, -⟩ := yw_eq hW hC k
 have q := (yw_pos hW hC (k + 1)).1
 obtain ⟨d, -, -, d1, d2, -⟩ := p.gcd q.z q.f
 refine Cop.of_gcd p q.z q.f ?_
 have h1 : Dv (cv (zgc (ya (y0 g) (yc g) k) (yw (y0 g) (yc g) (k + 1)).1) (zgc (ya (y0 g) (yc g) k) (yw (y0 g) (yc g) (k + 1)).1)) (yw (y0 g) (yc g) k).1 := by
  obtain ⟨X, fX, eX⟩ := d1
  obtain ⟨Y, fY, eY⟩ := d2
  obtain ⟨D, hD⟩ : ∃ D, D = zgc (ya (y0 g) (yc g) k) (yw (y0 g) (yc g) (k + 1)).1 := ⟨_, rfl⟩
  rw [← hD] at eX eY ⊢
  refine ⟨cv X Y, fX.cv fY, ?_⟩
  rw [e1, eX, eY, cv_assoc, cv_assoc, ← cv_assoc D Y, cv_comm D Y, cv_assoc]
 have h2 := y0_free h d (h1.trans (zdv_dv (yw_zdv hW hC k).1))
 omega
theorem yw_down (hW : Pos1 (y0 g)) (hC : Pos1 (yc g)) (k : Nat) : ∀ d, Dv (yw (y0 g) (yc g) (k + d)).1 (yw (y0 g) (yc g) k).1
 | 0 => Dv.refl _
 | d + 1 => Dv.trans (zdv_dv (yw_eq hW hC (k + d)).2.2.2.1) (yw_down hW hC k d)
theorem ya_pair (h : Pos1 g) {i j : Nat} (hij : i < j) : Cop (ya (y0 g) (yc g) i) (ya (y0 g) (yc g) j) := by
 obtain ⟨hC, hW, -⟩ := yc_pos h
 have h1 := ya_cop h i
 obtain ⟨p, e1, -⟩ := yw_eq hW hC j
 have h2 : Dv (ya (y0 g) (yc g) j) (yw (y0 g) (yc g) j).1 := ⟨(yw (y0 g) (yc g) (j + 1)).1, (yw_pos hW hC (j + 1)).1.f, by rw [cv_comm]; exact e1⟩
 have h3 := yw_down hW hC (i + 1) (j - (i + 1))
 rw [show i + 1 + (j - (i + 1)) = j by omega] at h3
 exact (h1.symm.dv (h2.trans h3)).symm
theorem yl_mem (W C : Nat → Rat) : ∀ (K : Nat) (p : (Nat → Rat) × Nat), p ∈ yl W C K → ∃ j, j < K ∧ p = (ya W C j, j + 1) ∧ 1 < pl (ya W C j) := by
 intro K
 induction K with
 | zero => intro p hp; simp [yl] at hp
 | succ K ih =>
  intro p hp
  show _
  rw [yl, List.mem_append] at hp
  rcases hp with hp | hp
  ·obtain ⟨j, a, b, c⟩ := ih p hp; exact ⟨j, by omega, b, c⟩
  ·split at hp
   ·rename_i hl
    rw [List.mem_singleton] at hp
    exact ⟨K, by omega, hp, hl⟩
   ·simp at hp
theorem yl_pair (h : Pos1 g) : ∀ K, (yl (y0 g) (yc g) K).Pairwise fun p q => p.2 < q.2 ∧ Cop p.1 q.1 := by
 intro K
 induction K with
 | zero => exact List.Pairwise.nil
 | succ K ih =>
  rw [yl, List.pairwise_append]
  refine ⟨ih, by split <;> simp, fun a ha b hb => ?_⟩
  obtain ⟨i, h1, rfl, -⟩ := yl_mem _ _ K a ha
  split at hb
  ·rw [List.mem_singleton] at hb
   subst hb
   exact ⟨by show i + 1 < K + 1; omega, ya_pair h h1⟩
  ·simp at hb
def yp (S : Nat → Rat) (l : List ((Nat → Rat) × Nat)) : Nat → Rat := l.foldl (fun A p => cv A (pw p.1 p.2)) S
theorem yp_snoc (S : Nat → Rat) (l : List ((Nat → Rat) × Nat)) (p : (Nat → Rat) × Nat) : yp S (l ++ [p]) = cv (yp S l) (pw p.1 p.2) := by simp [yp]
theorem yl_prod {W C : Nat → Rat} (hW : Pos1 W) (hC : Pos1 C) (S : Nat → Rat) : ∀ K, cv (yp S (yl W C K)) (cv (pw (yw W C K).1 (K + 1)) (yw W C K).2) = cv S (cv W C)
 | 0 => by show cv S (cv (cv pone W) C) = _; rw [pone_cv]
 | K + 1 => by
  obtain ⟨p, e1, e2, -⟩ := yw_eq hW hC K
  have e3 : yp S (yl W C (K + 1)) = cv (yp S (yl W C K)) (pw (ya W C K) (K + 1)) := by
   rw [yl]
   split
   ·exact yp_snoc _ _ _
   ·rename_i hl
    rw [p.one (by omega), pw_pone, cv_pone, List.append_nil]
  rw [e3, ← yl_prod hW hC S K, cv_assoc]
  congr 1
  conv => rhs; rw [e1, e2, pw_mul]
  obtain ⟨Y, hY⟩ : ∃ Y, Y = (yw W C (K + 1)).1 := ⟨_, rfl⟩
  rw [← hY]
  show cv (pw (ya W C K) (K + 1)) (cv (cv (pw Y (K + 1)) Y) (yw W C (K + 1)).2) = _
  rw [cv_assoc (pw (ya W C K) (K + 1)), cv_assoc (pw Y (K + 1)), cv_comm Y]
theorem yl_all (h : Pos1 g) {K : Nat} (hK : pl (yw (y0 g) (yc g) K).1 ≤ 1) (S : Nat → Rat) : yp S (yl (y0 g) (yc g) K) = cv S g := by
 obtain ⟨hC, hW, e, -⟩ := yc_pos h
 have h1 := yl_prod hW hC S K
 obtain ⟨e1, e2⟩ := yw_last h hK
 rw [e1, e2, pw_pone, pone_cv, cv_pone, ← e] at h1
 exact h1
noncomputable def ytot (l : List ((Nat → Rat) × Nat)) : Nat := (l.map fun p => p.2 * (pl p.1 - 1)).sum
theorem ytot_snoc (l : List ((Nat → Rat) × Nat)) (p : (Nat → Rat) × Nat) : ytot (l ++ [p]) = ytot l + p.2 * (pl p.1 - 1) := by simp [ytot]
theorem ytot_take (l : List ((Nat → Rat) × Nat)) (i : Nat) : ytot (l.take i) ≤ ytot l := by
 have h : ytot l = ytot (l.take i) + ytot (l.drop i) := by
  unfold ytot
  rw [← List.sum_append, ← List.map_append, List.take_append_drop]
 omega
theorem yp_pos {S : Nat → Rat} (hS : Fin_ S) (nS : S ≠ pz) (zS : ZI S) (l : List ((Nat → Rat) × Nat)) : (∀ p ∈ l, Pos1 p.1) → Fin_ (yp S l) ∧ yp S l ≠ pz ∧ ZI (yp S l) ∧ pl (yp S l) = pl S + ytot l := by
 revert l
 refine snoc_ind (fun _ => ⟨hS, nS, zS, by simp [ytot, yp]⟩) fun l p ih h => ?_
 obtain ⟨a, b, c, d⟩ := ih fun q hq => h q (List.mem_append_left _ hq)
 have k := h p (List.mem_append_right _ (List.mem_singleton.2 rfl))
 have k1 := pos_pw k p.2
 rw [yp_snoc, ytot_snoc]
 refine ⟨a.cv k1.f, fun e => ?_, c.cv k1.z, ?_⟩
 ·rcases cv_eq_zero a k1.f e with e | e
  ·exact b e
  ·exact k1.n e
 ·have h1 := pl_cv a k1.f b k1.n
  rw [pl_pw k] at h1
  omega
theorem yl_pos1 (h : Pos1 g) (K : Nat) : ∀ p ∈ yl (y0 g) (yc g) K, Pos1 p.1 ∧ 1 < pl p.1 ∧ 1 ≤ p.2 ∧ p.2 ≤ K := fun p hp => by
 obtain ⟨hC, hW, -⟩ := yc_pos h
 obtain ⟨j, h1, rfl, h3⟩ := yl_mem _ _ K p hp
 exact ⟨(yw_eq hW hC j).1, h3, by show 1 ≤ j + 1; omega, by show j + 1 ≤ K; omega⟩
theorem yl_tot (h : Pos1 g) {K : Nat} (hK : pl (yw (y0 g) (yc g) K).1 ≤ 1) : ytot (yl (y0 g) (yc g) K) + 1 = pl g := by
 have h1 := (yp_pos pone_fin pone_ne pos_pone.z _ fun p hp => (yl_pos1 h K p hp).1).2.2.2
 rw [yl_all h hK, pone_cv] at h1
 have : pl pone = 1 := pl_eq pone_sup fun _ => by show (1 : Rat) ≠ 0; decide
 omega
end
end Go.Hp
namespace Go.Hp
open Go.RowKit
def rdf : World → Value → Value × Nat → Prop := fun _ c u => c = .agg #[u.1, .int .i64 (u.2 : Nat)] ∧ ∃ A n k, u.1 = .slice A n k
theorem IsZP.updB {b : Nat} {G : List Nat} {w w' : World} {v : Value} {F : Nat → Rat} (h : IsZP b w v F) (U : Upd G w w') (hG : ∀ g ∈ G, ∀ i c, w.cell? ⟨g, i, none⟩ ≠ some (.bool c)) : IsZP b w' v F := by
 obtain ⟨l, ⟨A, c, h1, h2, h3, h4⟩, h5, rfl⟩ := h
 refine ⟨l, ⟨A, c, h1, h2, h3, fun h0 => ?_⟩, h5, rfl⟩
 obtain ⟨g, o, ha, hb, hc⟩ := h4 h0
 have hg : g ∉ G := fun hm => by
  obtain ⟨cs, q1, q2, q3⟩ := hc 0 h0
  obtain ⟨b, A1, n, c1, e⟩ := q3.cells
  obtain rfl := agg2 e
  exact hG g hm _ b (q2 0 (by omega))
 refine ⟨g, o, ha, hb, fun j hj => ?_⟩
 obtain ⟨cs, q1, q2, q3⟩ := hc j hj
 refine ⟨cs, q1, fun i hi => ?_, q3.kd U.kd⟩
 have e : cs[i]? = some (cs[i]'(by omega)) := Array.getElem?_eq_getElem (by omega)
 rw [e]
 exact upd_cell U hg ((q2 i hi).trans e)
structure Fac (base : Nat) (t : TypeId) (w : World) (v : Value) (us : List (Value × Nat)) (l : List ((Nat → Rat) × Nat)) : Prop where
 out : OwnR 2 rdf base t w v us
 len : us.length = l.length
 nb : NoB w v
 el : ∀ i (h : i < us.length) (h' : i < l.length), us[i].2 = l[i].2 ∧ IsZP 0 w us[i].1 l[i].1
section
variable {base : Nat} {t : TypeId} {w w' : World} {v : Value} {us : List (Value × Nat)} {l : List ((Nat → Rat) × Nat)}
theorem NoB.nil (w : World) : NoB w (.slice none 0 0) := fun g hg => by simp [blk, Value.ownBlock] at hg
theorem Fac.nil (base : Nat) (t : TypeId) (w : World) : Fac base t w (.slice none 0 0) [] [] := ⟨OwnR.nil _ _ _ _ _, rfl, NoB.nil w, fun i h => by simp at h⟩
theorem NoB.ext {k : Nat} {α : Type} {rd : World → Value → α → Prop} {b : Nat} {m : List α} (h : NoB w v) (o : OwnR k rd b t w v m) (x : Ext w w') : NoB w' v := fun g hg i c e => by
 have := (OwnR.blk_ge o g hg).2
 rw [x.cells g i this] at e
 exact h g hg i c e
theorem Fac.ext (h : Fac base t w v us l) (x : Ext w w') : Fac base t w' v us l :=
 ⟨h.out.ext x fun _ _ q => q, h.len, h.nb.ext h.out x, fun i a b => ⟨(h.el i a b).1, (h.el i a b).2.ext x⟩⟩
theorem Fac.base_le {b : Nat} (h : Fac base t w v us l) (hb : b ≤ base) : Fac b t w v us l := by
 obtain ⟨⟨ess, h1, h2, ⟨h3, h4⟩, h5⟩, k2, k3, k4⟩ := h
 refine ⟨⟨ess, h1, h2, ⟨h3, ?_⟩, h5⟩, k2, k3, k4⟩
 rcases h4 with h4 | ⟨g, cap, cur, a, c, d⟩
 ·exact .inl h4
 ·exact .inr ⟨g, cap, cur, a, Nat.le_trans hb c, d⟩
theorem Fac.shape (h : Fac base t w v us l) : ∃ A c, v = .slice A l.length c := by
 obtain ⟨A, c, e⟩ := h.out.len
 exact ⟨A, c, by rw [e, h.len]⟩
theorem Fac.at_ {A : Option Addr} {n c : Nat} (h : Fac base t w (.slice A n c) us l) {i : Nat} (hi : i < l.length) :
  ∃ g o E d, A = some ⟨g, o, none⟩ ∧ w.cell? ⟨g, o + i * 2, none⟩ = some (.slice E (pl l[i].1) d) ∧ w.cell? ⟨g, o + i * 2 + 1, none⟩ = some (.int .i64 (l[i].2 : Nat)) ∧ IsZP 0 w (.slice E (pl l[i].1) d) l[i].1 := by
 obtain ⟨h0, h1, -, h2⟩ := h
 have hi' : i < us.length := by omega
 obtain ⟨A', c', e, -, -, hA⟩ := OwnR.row h0
 have eA : A' = A := by injection e with h1; exact h1.symm
 subst eA
 obtain ⟨g, o, ha, hb, hc⟩ := hA (by omega)
 obtain ⟨cs, q1, q2, q3, -⟩ := hc i hi'
 obtain ⟨k1, k2⟩ := h2 i hi' hi
 obtain ⟨E, d, e2, -⟩ := IsZP.shape k2
 have e3 : cs = #[us[i].1, .int .i64 (us[i].2 : Nat)] := by injection q3
 refine ⟨g, o, E, d, ha, ?_, ?_, by rw [← e2]; exact k2⟩
 ·have := q2 0 (by omega)
  rw [e3, e2] at this
  exact this
 ·have := q2 1 (by omega)
  rw [e3, k1] at this
  exact this
theorem Fac.append {P : Program} {A : Option Addr} {n c : Nat} {F : Nat → Rat} (h : Fac base t w v us l) (hu : IsZP 0 w (.slice A n c) F) (e : Nat)
  (tt ty : TypeId) (i : TypeInfo) (z : Value) (bytes : Nat) (hT : P.underlying tt = some (.slice t)) (hi : P.info? t = some i) (hz : i.zero = some z) (hsize : i.size = 2) (hby : i.bytes = bytes) (hzs : z.cells.size = 2) (hzd : nodig z.cells = true) (hzB : ∀ u ∈ z.cells.toList, isB u = false)
  (h63 : l.length + 1 ≤ maxLen) (hbytes : (l.length + 1) * bytes ≤ 140737488355328) (hbase : base ≤ w.heap.size) :
  ∃ v' w', (Builtin.append_ #[tt, tt] ty #[v, .slice (some ⟨w.heap.size, 0, none⟩) 1 1]).run P (w.alloc (.cells #[.slice A n c, .int .i64 (e : Nat)] t)) = .ok v' w' ∧ Fac base t w' v' (us ++ [(.slice A n c, e)]) (l ++ [(F, e)]) ∧
   Upd (blk v) (w.alloc (.cells #[.slice A n c, .int .i64 (e : Nat)] t)) w' ∧ NoB (w.alloc (.cells #[.slice A n c, .int .i64 (e : Nat)] t)) v := by
 have hb := Box.new w t #[.slice A n c, .int .i64 (e : Nat)] (by simp [isDig])
 have x := (Ext.refl w).alloc (.cells #[.slice A n c, .int .i64 (e : Nat)] t)
 have h' := h.ext x
 have hu' := hu.ext x
 have hl := h.len
 obtain ⟨v', w', a, b, U, B⟩ := OwnR.append_blk (P := P) (x := ((Value.slice A n c), e)) h'.out tt ty i z bytes hT hi hz hsize hby hzs hzd (by decide) ⟨w.heap.size, 0, none⟩ 1 #[.slice A n c, .int .i64 (e : Nat)] rfl ⟨rfl, _, _, _, rfl⟩ (news_new w t _) (by simp [Value.oneCell']) (by simp [nodig, isDig]) (by omega) (by rw [hl]; exact hbytes) (Nat.le_trans hbase x.size) (fun _ _ _ _ q => q) h'.nb (by simp [isB]) hzB
 refine ⟨v', w', a, ⟨b, by simp [hl], B, fun j a1 a2 => ?_⟩, U, h'.nb⟩
 by_cases hj : j < us.length
 ·rw [List.getElem_append_left hj, List.getElem_append_left (by omega)]
  obtain ⟨k1, k2⟩ := h'.el j hj (by omega)
  exact ⟨k1, k2.updB U h'.nb⟩
 ·rw [List.getElem_append_right (by omega), List.getElem_append_right (by omega)]
  have e0 : j - us.length = 0 := by simp at a1; omega
  have e1 : j - l.length = 0 := by omega
  simp only [e0, e1, List.getElem_cons_zero]
  exact ⟨trivial, hu'.updB U h'.nb⟩
theorem IsZP.upd2 {b g : Nat} {t' : TypeId} {x y : Value} {F : Nat → Rat} {u : Value} (h : IsZP b w u F) (hF : 1 < pl F) (e : Box w g t' #[x, y]) (U : Upd [g] w w') : IsZP b w' u F := by
 obtain ⟨l, ⟨A, c, h1, h2, h3, h4⟩, h5, rfl⟩ := h
 have hl : l.length = pl (cz l) := by have := h5.pl; rw [zq_len] at this; exact this.symm
 refine ⟨l, ⟨A, c, h1, h2, h3, fun h0 => ?_⟩, h5, rfl⟩
 obtain ⟨g1, o, ha, hb, hc⟩ := h4 h0
 have hg : g1 ∉ [g] := fun hm => by
  have : g1 = g := by simpa using hm
  subst this
  obtain ⟨cs, q1, q2, q3⟩ := hc 1 (by omega)
  obtain ⟨b, A1, n, c1, e1⟩ := q3.cells
  obtain rfl := agg2 e1
  have h6 := q2 0 (by omega)
  rw [cell_of_row w g1 (o + 1 * 2 + 0) #[x, y] t' (0, 0) e.1, Array.getElem?_eq_none (by simp)] at h6
  cases h6
 refine ⟨g1, o, ha, hb, fun j hj => ?_⟩
 obtain ⟨cs, q1, q2, q3⟩ := hc j hj
 refine ⟨cs, q1, fun i hi => ?_, q3.kd U.kd⟩
 have e2 : cs[i]? = some (cs[i]'(by omega)) := Array.getElem?_eq_getElem (by omega)
 rw [e2]
 exact upd_cell U hg ((q2 i hi).trans e2)
theorem IsZP.off1 {g0 : Nat} {F : Nat → Rat} {u : Value} (h : IsZP (g0 + 1) w u F) (U : Upd [g0] w w') : IsZP (g0 + 1) w' u F := by
 obtain ⟨l, ⟨A, c, h1, h2, h3, h4⟩, h5, rfl⟩ := h
 refine ⟨l, ⟨A, c, h1, h2, h3, fun h0 => ?_⟩, h5, rfl⟩
 obtain ⟨g, o, ha, hb, hc⟩ := h4 h0
 refine ⟨g, o, ha, hb, fun j hj => ?_⟩
 obtain ⟨cs, q1, q2, q3⟩ := hc j hj
 refine ⟨cs, q1, fun i hi => ?_, q3.kd U.kd⟩
 have e : cs[i]? = some (cs[i]'(by omega)) := Array.getElem?_eq_getElem (by omega)
 rw [e]
 exact upd_cell U (by simp; omega) ((q2 i hi).trans e)
theorem Fac.upd2 {g : Nat} {t' : TypeId} {x y : Value} (h : Fac base t w v us l) (hl : ∀ p ∈ l, 1 < pl p.1) (e : Box w g t' #[x, y]) (hg : g < base) (U : Upd [g] w w') : Fac base t w' v us l := by
 have hb := OwnR.blk_ge h.out
 have hne : ∀ g' ∈ blk v, g' ∉ [g] := fun g' hg' hm => by
  have := hb g' hg'
  have : g' = g := by simpa using hm
  omega
 refine ⟨OwnR.upd h.out U hne fun _ _ q => q, h.len, fun g' hg' i c hc => ?_, fun i a b => ⟨(h.el i a b).1, (h.el i a b).2.upd2 (hl _ (List.getElem_mem b)) e U⟩⟩
 obtain ⟨o, ho⟩ : ∃ o, w.heap[g']? = some o := ⟨_, Array.getElem?_eq_getElem (hb g' hg').2⟩
 have hk := U.1 g' o (hne g' hg') ho
 rw [World.cell?_of_block (hk.trans ho.symm)] at hc
 exact h.nb g' hg' i c hc
theorem yl_len (W C : Nat → Rat) : ∀ K, (yl W C K).length ≤ K
 | 0 => Nat.le_refl _
 | K + 1 => by
  have := yl_len W C K
  rw [yl, List.length_append]
  split <;> simp <;> omega
end
end Go.Hp
namespace Go.Hp
open Go.RowKit
theorem yw_room {g : Nat → Rat} {n s : Nat} (h : Pos1 g) (hn : pl g ≤ n) (hn9 : n ≤ 16) (hs : ∀ i, qsz (g i) ≤ s) (hs9 : s ≤ 5) (k : Nat) :
  (∀ i, qsz ((yw (y0 g) (yc g) k).1 i) ≤ 36000) ∧ (∀ i, qsz ((yw (y0 g) (yc g) k).2 i) ≤ 36000) ∧ pl (yw (y0 g) (yc g) k).1 + pl (yw (y0 g) (yc g) k).2 ≤ n + 1 := by
 obtain ⟨hC, hW, e, d1, -⟩ := yc_pos h
 obtain ⟨p1, p2⟩ := yw_pos hW hC k
 obtain ⟨e1, e2⟩ := yw_zdv hW hC k
 have dW : Zdv g (y0 g) := ⟨yc g, hC.z, hC.f, by rw [cv_comm]; exact e⟩
 have l1 := Dv.le p1.f hW.f hW.n (zdv_dv e1)
 have l2 := Dv.le p2.f hC.f hC.n (zdv_dv e2)
 have l3 := pl_cv hW.f hC.f hW.n hC.n
 rw [← e] at l3
 have := hW.pos
 exact ⟨zdv_qsz h.z h.f h.n p1.z p1.f (zdv_trans dW e1) hn hn9 hs hs9, zdv_qsz h.z h.f h.n p2.z p2.f (zdv_trans d1 e2) hn hn9 hs hs9, by omega⟩
def SqK (g : Nat → Rat) (K : Nat) : Prop := pl (yw (y0 g) (yc g) K).1 ≤ 1 ∧ ∀ j, j < K → 1 < pl (yw (y0 g) (yc g) j).1
theorem SqK.uniq {g : Nat → Rat} {K L : Nat} (h : SqK g K) (k : SqK g L) : K = L := by
 rcases Nat.lt_trichotomy K L with a | a | a
 ·have := k.2 K a; have := h.1; omega
 ·exact a
 ·have := h.2 L a; have := k.1; omega
theorem yw_meas {g : Nat → Rat} (h : Pos1 g) {k : Nat} (h1 : 1 < pl (yw (y0 g) (yc g) k).1) : pl (yw (y0 g) (yc g) (k + 1)).2 + pl (yw (y0 g) (yc g) (k + 1)).1 < pl (yw (y0 g) (yc g) k).2 + pl (yw (y0 g) (yc g) k).1 := by
 obtain ⟨hC, hW, -⟩ := yc_pos h
 obtain ⟨p, e1, e2, -⟩ := yw_eq hW hC k
 obtain ⟨q1, q2⟩ := yw_pos hW hC (k + 1)
 have h2 := pl_cv p.f q1.f p.n q1.n
 have h3 := pl_cv q2.f q1.f q2.n q1.n
 rw [← e1] at h2
 rw [← e2] at h3
 have := p.pos; have := q1.pos; have := q2.pos
 omega
end Go.Hp
namespace Go.Proofs.YtfacbpnegkjcgaaDoor
open Go.RowKit Go.Hp
theorem infoF : (Tryd.prog.info? 43).map (fun i => (i.zero, i.size, i.bytes)) = some (some (.agg #[.slice none 0 0, .int .i64 0]), 2, 32) := by kernel_rfl
theorem append_fac (W : World) (v : Value) (base ty n c e : Nat) (A : Option Addr) (us : List (Value × Nat)) (l : List ((Nat → Rat) × Nat)) (F : Nat → Rat) (z : Int) (g : Nat) (h : Fac base 43 W v us l) (hu : IsZP 0 W (.slice A n c) F) (hz : z = (e : Nat)) (hg : g = W.heap.size) (hn : l.length ≤ 1000000) (hb : base ≤ W.heap.size) :
  ∃ v' w', (Builtin.append_ #[38, 38] ty #[v, .slice (some ⟨g, 0, none⟩) 1 1]).run Tryd.prog (W.alloc (.cells #[.slice A n c, .int .i64 z] 43)) = .ok v' w' ∧
   (Fac base 43 w' v' (us ++ [(.slice A n c, e)]) (l ++ [(F, e)]) ∧ Upd (blk v) (W.alloc (.cells #[.slice A n c, .int .i64 z] 43)) w' ∧ NoB (W.alloc (.cells #[.slice A n c, .int .i64 z] 43)) v) := by
 subst hz hg
 obtain ⟨i0, hi, hz0, hz1, hz2⟩ := info_parts infoF
 obtain ⟨v', w', a, b, U, N⟩ := Fac.append (P := Tryd.prog) h hu e 38 ty i0 _ 32 Tryd.underlying38 hi hz0 hz1 hz2 rfl (by simp [nodig, isDig, Value.cells]) (by simp [isB, Value.cells]) (by simp only [maxLen]; omega) (by omega) hb
 exact ⟨v', w', a, b, U, N⟩
def SqOut (base : Nat) (F : Nat → Rat) (r : Value) (w : World) : Prop := ∃ a u us K, r = .tuple #[a, u, .int .i64 0] ∧ IsZ w a (pcn F) ∧ SqK (pp F) K ∧ Fac base 43 w u us (yl (y0 (pp F)) (yc (pp F)) K)
set_option maxRecDepth 20000 in
set_option maxHeartbeats 8000000 in
theorem zsqf_z (v : Value) (l : List Int) (S n M : Nat) (w : World) (hv : HzV 0 w v l) (hs : ∀ i, qsz (cz l i) ≤ S) (hd : ∀ i, qsz (pd (pp (cz l)) i) ≤ S) (hS : S ≤ 5) (hl : l.length ≤ 1000) (hp : pl (cz l) ≤ n) (hn : n ≤ 16) (h0 : cz l ≠ pz)
  (hM : (S + 1) * 2 ^ (n + (n - 1)) ≤ M) (hB : M + (n + (n - 1) + 1) * (M + 1) + M ≤ 549755813888) :
  Calls Tryd.prog 16 #[v] w (Gives w (SqOut w.heap.size (cz l))) := by
 have HV := Lib.hid hv
 obtain ⟨A, c, rfl⟩ := hv.len
 clear hv
 have hg := Pos1.pp (ZI.cz l) (Fin_.cz l) h0
 have hpg : pl (pp (cz l)) = pl (cz l) := pp_pl (ZI.cz l) (Fin_.cz l)
 have hsg : ∀ i, qsz (pp (cz l) i) ≤ S := pp_qsz (ZI.cz l) (Fin_.cz l) hs
 have hnm := fun W (x : Ext w W) => normal_zp _ l W (HV.out.ext x) (by omega)
 have hpr : ∀ W u, IsZP 0 W u (cz l) → Calls Tryd.prog 18 #[u] W (Gives W fun r w' => IsZP W.heap.size w' r (pp (cz l))) := fun W u hu =>
  primitive_p u _ W hu (fun i => by have := hs i; omega) (by omega)
 have hl1 : ∀ W u, IsZP 0 W u (cz l) → Calls Tryd.prog 27 #[u] W (Gives W fun r w' => IsZ w' r (ld (cz l)).num) := fun W u hu => lead_z u 0 (cz l) W hu h0
 have hl2 : ∀ W u, IsZP 0 W u (pp (cz l)) → Calls Tryd.prog 27 #[u] W (Gives W fun r w' => IsZ w' r (ld (pp (cz l))).num) := fun W u hu => lead_z u 0 _ W hu hg.n
 have hex : ∀ W u z, IsZ W u (ld (cz l)).num → IsZ W z (ld (pp (cz l))).num → Calls Tryd.prog 26 #[u, z] W (Gives W fun r w' => TupE w' r (pcn (cz l)) 0) := fun W u z hu hz => by
  obtain ⟨q1, q2, q3⟩ := pcn_quot (ZI.cz l) (Fin_.cz l) h0
  have b1 := qz_num (hs (pl (cz l) - 1))
  have b2 := qz_num (hsg (pl (pp (cz l)) - 1))
  rw [← q3]
  exact exact_e u z _ _ W (hu.has (by show sz (cz l (pl (cz l) - 1)).num.natAbs ≤ _; omega)) (hz.has (by show sz (pp (cz l) (pl (pp (cz l)) - 1)).num.natAbs ≤ _; omega)) q1 q2
 have hde : ∀ W u, IsZP 0 W u (pp (cz l)) → Calls Tryd.prog 41 #[u] W (Gives W fun r w' => IsZP 0 w' r (pd (pp (cz l)))) := fun W u hu => by
  obtain ⟨m, g1, g2, -, g4⟩ := hu.hz (fun i => by have := hsg i; omega)
  rw [← g4]
  exact Gives.imp (zderivative_p _ m W g1 (by omega)) fun _ _ h => h.base_le (Nat.zero_le _)
 have hpd : pl (pd (pp (cz l))) ≤ n - 1 := by rw [pl_pd hg.f]; omega
 have hg1 : ∀ W u z, IsZP 0 W u (pp (cz l)) → IsZP 0 W z (pd (pp (cz l))) → Calls Tryd.prog 13 #[u, z] W (Gives W fun r w' => IsZP 0 w' r (yc (pp (cz l)))) := fun W u z hu hz => by
  have e : 2 ^ (pl (pp (cz l)) + pl (pd (pp (cz l)))) ≤ 2 ^ (n + (n - 1)) := Nat.pow_le_pow_right (by decide) (by omega)
  have e2 : (S + 1) * 2 ^ (pl (pp (cz l)) + pl (pd (pp (cz l)))) ≤ (S + 1) * 2 ^ (n + (n - 1)) := Nat.mul_le_mul_left _ e
  have e3 : (pl (pp (cz l)) + pl (pd (pp (cz l))) + 1) * (M + 1) ≤ (n + (n - 1) + 1) * (M + 1) := Nat.mul_le_mul_right _ (by omega)
  exact zgcd_p u z _ _ S M W hu hz hsg hd (by omega) (by omega) (by omega) (by omega)
 have hroom := yw_room hg (by omega) hn hsg hS
 obtain ⟨hC, hW, eg, dC, -⟩ := yc_pos hg
 have hd1 : ∀ W u z, IsZP 0 W u (pp (cz l)) → IsZP 0 W z (yc (pp (cz l))) → Calls Tryd.prog 42 #[u, z] W (Gives W fun r w' => ∃ q, r = .tuple #[q, .int .i64 0] ∧ IsZP 0 w' q (y0 (pp (cz l)))) := fun W u z hu hz => by
  have := (hroom 0).2.1
  have e3 : (pl (pp (cz l)) + 2) * (36000 + 1) ≤ 18 * 36001 := Nat.mul_le_mul_right _ (by omega)
  refine Gives.imp (zdivide_p u z _ _ S 36000 W hu hz hsg this (by omega) (by have := (hroom 0).2.2; have : pl (yw (y0 (pp (cz l))) (yc (pp (cz l))) 0).2 = pl (yc (pp (cz l))) := rfl; omega) hC.n (by omega)) fun r w' hr => ?_
  obtain ⟨q, e1, e2⟩ := hr.1 dC
  exact ⟨q, e1, e2.base_le (Nat.zero_le _)⟩
 have hG2 : ∀ k W a b, IsZP 0 W a (yw (y0 (pp (cz l))) (yc (pp (cz l))) k).1 → IsZP 0 W b (yw (y0 (pp (cz l))) (yc (pp (cz l))) k).2 → Calls Tryd.prog 13 #[a, b] W (Gives W fun r w' => IsZP 0 w' r (yw (y0 (pp (cz l))) (yc (pp (cz l))) (k + 1)).1) := fun k W a b ha hb => by
  obtain ⟨r1, r2, r3⟩ := hroom k
  have e : 2 ^ (pl (yw (y0 (pp (cz l))) (yc (pp (cz l))) k).1 + pl (yw (y0 (pp (cz l))) (yc (pp (cz l))) k).2) ≤ 2 ^ 17 := Nat.pow_le_pow_right (by decide) (by omega)
  have e3 : (pl (yw (y0 (pp (cz l))) (yc (pp (cz l))) k).1 + pl (yw (y0 (pp (cz l))) (yc (pp (cz l))) k).2 + 1) * (4718723072 + 1) ≤ 18 * (4718723072 + 1) := Nat.mul_le_mul_right _ (by omega)
  exact zgcd_p a b _ _ 36000 4718723072 W ha hb r1 r2 (by omega) (by omega) (by omega) (by omega)
 have hDv : ∀ (A B : Nat → Rat) W a b, (∀ i, qsz (A i) ≤ 36000) → (∀ i, qsz (B i) ≤ 36000) → pl A ≤ 17 → pl B ≤ 17 → B ≠ pz → Zdv A B → IsZP 0 W a A → IsZP 0 W b B → Calls Tryd.prog 42 #[a, b] W (Gives W fun r w' => ∃ q, r = .tuple #[q, .int .i64 0] ∧ IsZP 0 w' q (pq A B)) := fun A B W a b qa qb la lb nb dv ha hb => by
  have e3 : (pl A + 2) * (36000 + 1) ≤ 19 * 36001 := Nat.mul_le_mul_right _ (by omega)
  refine Gives.imp (zdivide_p a b _ _ 36000 36000 W ha hb qa qb (by omega) (by omega) nb (by omega)) fun r w' hr => ?_
  obtain ⟨q, e1, e2⟩ := hr.1 dv
  exact ⟨q, e1, e2.base_le (Nat.zero_le _)⟩
 have hD2 : ∀ k W a b, IsZP 0 W a (yw (y0 (pp (cz l))) (yc (pp (cz l))) k).1 → IsZP 0 W b (yw (y0 (pp (cz l))) (yc (pp (cz l))) (k + 1)).1 → Calls Tryd.prog 42 #[a, b] W (Gives W fun r w' => ∃ q, r = .tuple #[q, .int .i64 0] ∧ IsZP 0 w' q (ya (y0 (pp (cz l))) (yc (pp (cz l))) k)) := fun k W a b ha hb => by
  obtain ⟨r1, r2, r3⟩ := hroom k
  obtain ⟨s1, s2, s3⟩ := hroom (k + 1)
  obtain ⟨-, -, -, dv, -⟩ := yw_eq hW hC k
  exact hDv (yw (y0 (pp (cz l))) (yc (pp (cz l))) k).1 (yw (y0 (pp (cz l))) (yc (pp (cz l))) (k + 1)).1 W a b r1 s1 (by omega) (by omega) (yw_pos hW hC (k + 1)).1.n dv ha hb
 have hD3 : ∀ k W a b, IsZP 0 W a (yw (y0 (pp (cz l))) (yc (pp (cz l))) k).2 → IsZP 0 W b (yw (y0 (pp (cz l))) (yc (pp (cz l))) (k + 1)).1 → Calls Tryd.prog 42 #[a, b] W (Gives W fun r w' => ∃ q, r = .tuple #[q, .int .i64 0] ∧ IsZP 0 w' q (yw (y0 (pp (cz l))) (yc (pp (cz l))) (k + 1)).2) := fun k W a b ha hb => by
  obtain ⟨r1, r2, r3⟩ := hroom k
  obtain ⟨s1, s2, s3⟩ := hroom (k + 1)
  obtain ⟨-, -, -, -, dv⟩ := yw_eq hW hC k
  exact hDv (yw (y0 (pp (cz l))) (yc (pp (cz l))) k).2 (yw (y0 (pp (cz l))) (yc (pp (cz l))) (k + 1)).1 W a b r2 s1 (by omega) (by omega) (yw_pos hW hC (k + 1)).1.n dv ha hb
 have hlow := fun k (hk : ∀ j, j ≤ k → 1 < pl (yw (y0 (pp (cz l))) (yc (pp (cz l))) j).1) => yw_low hW hC k hk
 have hyc : pl (yc (pp (cz l))) ≤ 17 := by have := (hroom 0).2.2; have : pl (yw (y0 (pp (cz l))) (yc (pp (cz l))) 0).2 = pl (yc (pp (cz l))) := rfl; omega
 have hlw : ∀ k, pl (yw (y0 (pp (cz l))) (yc (pp (cz l))) k).1 ≤ 17 := fun k => by have := (hroom k).2.2; omega
 obtain ⟨F, hF⟩ : ∃ F, F = cz l := ⟨_, rfl⟩
 obtain ⟨g, hgg⟩ : ∃ g, g = pp F := ⟨_, rfl⟩
 have hpf := pl_pos (Fin_.cz l) h0
 simp only [← hF] at hnm hpr hl1 hl2 hex hde hg1 hd1 hG2 hD2 hD3 hlow hyc hg hpf hp hlw ⊢
 simp only [← hgg] at hpr hl2 hex hde hg1 hd1 hG2 hD2 hD3 hlow hyc hg hlw
 have HC := Lib.hid (And.intro hnm (And.intro hpr (And.intro hl1 (And.intro hl2 (And.intro hex (And.intro hde (And.intro hg1 hd1)))))))
 have HD := Lib.hid (And.intro hG2 (And.intro hD2 hD3))
 have HP := Lib.hid hg
 have HL := Lib.hid (And.intro hlow (And.intro hyc hlw))
 have HGG := Lib.hid hgg
 clear hnm hpr hl1 hl2 hex hde hg1 hd1 hG2 hD2 hD3 hDv hlow hyc hlw hroom hC hW eg dC hg hpd hpg hsg hs hd hS hM hB h0 HV hF hgg hl
 go_enter Tryd.func16, Tryd.ntmps16
 have ez := Box.new w 28 #[.bool false, .slice none 0 0] (by simp [isDig])
 have hx := (Ext.refl w).alloc (.cells #[.bool false, .slice none 0 0] 28)
 go_upto_region 1 with (fail)
 generalize w.alloc (.cells #[.bool false, .slice none 0 0] 28) = w0 at *
 go_wp2_with fail
 refine Calls.mono (HC.out.1 _ hx) ?_
 rintro e w1 ⟨r1, rfl, hr1, hx1⟩
 obtain ⟨A1, c1, rfl, -⟩ := hr1.shape
 have Hr := Lib.hid (hr1.base_le (b := 0) (Nat.zero_le _))
 replace ez := ez.ext hx1
 replace hx := hx.trans hx1
 clear hx1 hr1
 go_wp2_with fail
 refine Calls.mono (HC.out.2.1 _ _ Hr.out) ?_
 rintro e w2 ⟨r2, rfl, hr2, hx2⟩
 obtain ⟨A2, c2, rfl, -⟩ := hr2.shape
 have Hr2 := Lib.hid (And.intro (Hr.out.ext hx2) (hr2.base_le (b := w.heap.size + 1) ez.lt))
 replace ez := ez.ext hx2
 replace hx := hx.trans hx2
 clear hx2 hr2 Hr
 go_wp2_with fail
 refine Calls.mono (HC.out.2.2.1 _ _ Hr2.out.1) ?_
 rintro e w3 ⟨r3, rfl, hr3, hx3⟩
 have Hr3 := Lib.hid (And.intro (Hr2.out.2.ext hx3) hr3)
 replace ez := ez.ext hx3
 replace hx := hx.trans hx3
 clear hx3 hr3 Hr2
 go_wp2_with fail
 refine Calls.mono (HC.out.2.2.2.1 _ _ (Hr3.out.1.base_le (Nat.zero_le _))) ?_
 rintro e w4 ⟨r4, rfl, hr4, hx4⟩
 have Hr4 := Lib.hid (And.intro (Hr3.out.1.ext hx4) (And.intro (Hr3.out.2.kd hx4.kd) hr4))
 replace ez := ez.ext hx4
 replace hx := hx.trans hx4
 clear hx4 hr4 Hr3
 go_wp2_with fail
 refine Calls.mono (HC.out.2.2.2.2.1 _ _ _ Hr4.out.2.1 Hr4.out.2.2) ?_
 rintro e w5 ⟨r5, rfl, ⟨a5, rfl, hr5⟩, hx5⟩
 obtain ⟨b7, A7, n7, c7, rfl⟩ := hr5.cells
 have hg5 := Hr4.out.1.ext hx5
 replace ez := ez.ext hx5
 replace hx := hx.trans hx5
 clear hx5 Hr4
 obtain ⟨cez0, cez1⟩ := ez.cells2
 have fez := ez.frozen
 go_upto_region 6 with (fail)
 have hr := hr5
 obtain ⟨W6, eW, ez', U⟩ := ez.put2 (.bool b7) (.slice A7 n7 c7) rfl rfl
 rw [← eW]
 have HG6 := Lib.hid ((hg5.off1 U).base_le (b := 0) (Nat.zero_le _))
 replace hr := hr.kd U.kd
 replace hx := U.from_ hx (by simp <;> omega)
 clear eW ez hg5
 have ez := ez'
 clear U ez'
 have Hrz := Lib.hid hr; clear hr hr5
 clear cez0 cez1 fez
 go_wp2_with fail
 refine Calls.mono (HC.out.2.2.2.2.2.1 _ _ HG6.out) ?_
 rintro e w7 ⟨r7, rfl, hr7, hx7⟩
 obtain ⟨A3, c3, rfl, -⟩ := hr7.shape
 have Hr7 := Lib.hid (And.intro (HG6.out.ext hx7) (And.intro hr7 (Hrz.out.kd hx7.kd)))
 replace ez := ez.ext hx7
 replace hx := hx.trans hx7
 clear hx7 hr7 HG6 Hrz
 go_wp2_with fail
 refine Calls.mono (HC.out.2.2.2.2.2.2.1 _ _ _ Hr7.out.1 Hr7.out.2.1) ?_
 rintro e w8 ⟨r8, rfl, hr8, hx8⟩
 obtain ⟨A4, c4, rfl, -⟩ := hr8.shape
 have Hr8 := Lib.hid (And.intro (Hr7.out.1.ext hx8) (And.intro hr8 (Hr7.out.2.2.kd hx8.kd)))
 replace ez := ez.ext hx8
 replace hx := hx.trans hx8
 clear hx8 hr8 Hr7
 go_wp2_with fail
 refine Calls.mono (HC.out.2.2.2.2.2.2.2 _ _ _ Hr8.out.1 Hr8.out.2.1) ?_
 rintro e w9 ⟨r9, rfl, ⟨q9, rfl, hq9⟩, hx9⟩
 obtain ⟨A5, c5, rfl, -⟩ := hq9.shape
 replace ez := ez.ext hx9
 replace hx := hx.trans hx9
 have Hs := Lib.hid (And.intro hq9 (And.intro (Hr8.out.2.1.ext hx9) (Hr8.out.2.2.kd hx9.kd)))
 clear hx9 hq9 Hr8
 have hbz : w.heap.size < w9.heap.size := ez.lt
 go_wp2
 go_loopw [3, 6, 7, 9] (fun lv rv sv ev wr => ∃ k us, Fac w9.heap.size 43 wr lv us (yl (y0 g) (yc g) k) ∧ IsZP 0 wr rv (yw (y0 g) (yc g) k).2 ∧ IsZP 0 wr sv (yw (y0 g) (yc g) k).1 ∧ ev = .int .i64 ((k : Int) + 1) ∧ (∀ j, j < k → 1 < pl (yw (y0 g) (yc g) j).1) ∧ Ext w9 wr ∧
   Box wr w.heap.size 28 #[.bool b7, .slice A7 n7 c7] ∧ IsZ wr (.agg #[.bool b7, .slice A7 n7 c7]) (pcn F) ∧ Ext w wr) (fun _ rv sv _ _ => lenV rv + lenV sv)
 case atStart => exact ⟨0, [], Fac.nil _ _ _, Hs.out.2.1, Hs.out.1, by go_num, fun j hj => by omega, Ext.refl _, ez, Hs.out.2.2, hx⟩
 case round =>
  clear ez hx Hs
  obtain ⟨k, us, hFac, hrep, hsim, rfl, hK, hsz, ez, hrz, hx⟩ := hrel
  obtain ⟨L, d, rfl⟩ := hFac.shape
  obtain ⟨A2, c2, rfl, -⟩ := hrep.shape
  obtain ⟨A3, c3, rfl, -⟩ := hsim.shape
  have HK := Lib.hid hK; clear hK
  have Hf := Lib.hid (And.intro hFac (And.intro hrep (And.intro hsim hrz))); clear hFac hrep hsim hrz
  by_cases h1 : 1 < pl (yw (y0 g) (yc g) k).1
  ·have hk17 : k ≤ 17 := by
    have := HL.out.1 k fun j hj => by
     rcases Nat.lt_or_ge j k with a | a
     ·exact HK.out j a
     ·obtain rfl : j = k := by omega
      exact h1
    have := HL.out.2.1
    omega
   have hlk : (yl (y0 g) (yc g) k).length ≤ k := yl_len _ _ k
   go_wp2_with fail
   refine Calls.mono (HD.out.1 k _ _ _ Hf.out.2.2.1 Hf.out.2.1) ?_
   rintro e w4 ⟨r4, rfl, hr4, hx4⟩
   obtain ⟨A6, c6, rfl, -⟩ := hr4.shape
   have Hf4 := Lib.hid (And.intro (Hf.out.1.ext hx4) (And.intro (Hf.out.2.1.ext hx4) (And.intro (Hf.out.2.2.1.ext hx4) (And.intro (Hf.out.2.2.2.kd hx4.kd) hr4))))
   replace ez := ez.ext hx4
   replace hx := hx.trans hx4
   have hsz4 := hsz.trans hx4
   clear hx4 hr4 Hf hsz
   go_wp2_with fail
   refine Calls.mono (HD.out.2.1 k _ _ _ Hf4.out.2.2.1 Hf4.out.2.2.2.2) ?_
   rintro e w5 ⟨r5, rfl, ⟨q5, rfl, hq5⟩, hx5⟩
   obtain ⟨A7, c7, rfl, -⟩ := hq5.shape
   have hFac := Hf4.out.1.ext hx5
   have hrep := Hf4.out.2.1.ext hx5
   have hm := Hf4.out.2.2.2.2.ext hx5
   have HZr := Lib.hid (Hf4.out.2.2.2.1.kd hx5.kd)
   replace ez := ez.ext hx5
   replace hx := hx.trans hx5
   have hsz := hsz4.trans hx5
   clear hx5 Hf4 hsz4
   by_cases h2 : 1 < pl (ya (y0 g) (yc g) k)
   ·have Hm := Lib.hid (And.intro hFac (And.intro hrep (And.intro hm hq5))); clear hFac hrep hm hq5
    have hbl := Hm.out.1.out.blk_ge
    have Hbl := Lib.hid hbl; clear hbl
    go_wp2_with (at_builtin; refine wpList_append_run rfl _ _ 38 rfl (.slice L (yl (y0 g) (yc g) k).length d) (.slice (some ⟨w5.heap.size, 0, none⟩) 1 1) rfl rfl (append_fac w5 _ w9.heap.size _ _ _ (k + 1) _ us _ _ _ _ Hm.out.1 Hm.out.2.2.2 (by first | rfl | (push_cast; rfl) | omega) rfl (by omega) hsz.size) ?_)
    intro v' w6 hF6 U hN
    have xa := (Ext.refl w5).alloc (.cells #[.slice A7 (pl (ya (y0 g) (yc g) k)) c7, .int .i64 ((k : Int) + 1)] 43)
    have hFac : Fac w9.heap.size 43 w6 v' (us ++ [(.slice A7 (pl (ya (y0 g) (yc g) k)) c7, k + 1)]) (yl (y0 g) (yc g) (k + 1)) := by
     rw [yl, if_pos h2]; exact hF6
    have hrep := (Hm.out.2.1.ext xa).updB U hN
    have hm := (Hm.out.2.2.1.ext xa).updB U hN
    have HZ6 := Lib.hid ((HZr.out.kd xa.kd).kd U.kd)
    replace ez := (ez.ext xa).upd U (fun hg => by have := (Hbl.out _ hg).1; omega)
    replace hx := U.from_ (hx.trans xa) (fun g' hg => by have := (Hbl.out _ hg).1; have := hx.size; omega)
    replace hsz := U.from_ (hsz.trans xa) (fun g' hg => (Hbl.out _ hg).1)
    clear hF6 U hN xa Hm Hbl HZr
    have HZr := Lib.hid HZ6.out; clear HZ6
    have Hm := Lib.hid (And.intro hm (And.intro hrep hFac)); clear hm hrep hFac
    go_wp2_with fail
    refine Calls.mono (HD.out.2.2 k _ _ _ Hm.out.2.1 Hm.out.1) ?_
    rintro e w8 ⟨r8, rfl, ⟨q8, rfl, hq8⟩, hx8⟩
    obtain ⟨A8, c8, rfl, -⟩ := hq8.shape
    replace ez := ez.ext hx8
    replace hx := hx.trans hx8
    have hF8 := Hm.out.2.2.ext hx8
    have hm8 := Hm.out.1.ext hx8
    have Hq := Lib.hid (And.intro hq8 (And.intro hm8 hF8))
    have HZ8 := Lib.hid (HZr.out.kd hx8.kd)
    replace hsz := hsz.trans hx8
    clear hx8 hq8 hm8 hF8 Hm
    go_wp2
    go_roundw
    case rel => exact ⟨k + 1, _, Hq.out.2.2, Hq.out.1, Hq.out.2.1, by go_num, fun j hj => by
     rcases Nat.lt_or_ge j k with a | a
     ·exact HK.out j a
     ·obtain rfl : j = k := by omega
      exact h1, hsz, ez, HZ8.out, hx⟩
    case measure =>
     have := yw_meas HP.out h1
     simp only [lenV]
     omega
   ·have hFac : Fac w9.heap.size 43 w5 (.slice L (yl (y0 g) (yc g) k).length d) us (yl (y0 g) (yc g) (k + 1)) := by
     rw [yl, if_neg h2, List.append_nil]; exact hFac
    have Hm := Lib.hid (And.intro hm (And.intro hrep hFac)); clear hm hrep hFac
    go_wp2_with fail
    refine Calls.mono (HD.out.2.2 k _ _ _ Hm.out.2.1 Hm.out.1) ?_
    rintro e w8 ⟨r8, rfl, ⟨q8, rfl, hq8⟩, hx8⟩
    obtain ⟨A8, c8, rfl, -⟩ := hq8.shape
    replace ez := ez.ext hx8
    replace hx := hx.trans hx8
    have hF8 := Hm.out.2.2.ext hx8
    have hm8 := Hm.out.1.ext hx8
    have Hq := Lib.hid (And.intro hq8 (And.intro hm8 hF8))
    have HZ8 := Lib.hid (HZr.out.kd hx8.kd)
    replace hsz := hsz.trans hx8
    clear hx8 hq8 hm8 hF8 Hm
    go_wp2
    go_roundw
    case rel => exact ⟨k + 1, _, Hq.out.2.2, Hq.out.1, Hq.out.2.1, by go_num, fun j hj => by
     rcases Nat.lt_or_ge j k with a | a
     ·exact HK.out j a
     ·obtain rfl : j = k := by omega
      exact h1, hsz, ez, HZ8.out, hx⟩
    case measure =>
     have := yw_meas HP.out h1
     simp only [lenV]
     omega
  ·have hSK : SqK g k := ⟨by omega, HK.out⟩
   have HS := Lib.hid hSK; clear hSK
   obtain ⟨cez0, cez1⟩ := ez.cells2
   have fez := ez.frozen
   go_wp2
   obtain ⟨W9, eW, ez', U⟩ := ez.put2 (.bool b7) (.slice A7 n7 c7) rfl rfl
   rw [← eW]
   have hF9 := Hf.out.1.upd2 (fun p hp => (yl_pos1 HP.out k p hp).2.1) ez hbz U
   have hr9 := Hf.out.2.2.2.kd U.kd
   replace hx := U.from_ hx (by simp <;> omega)
   clear eW ez cez0 cez1 fez
   have ez := ez'
   obtain ⟨cez0, cez1⟩ := ez.cells2
   have fez := ez.frozen
   refine bodyPost_ret (v := .tuple #[.agg #[.bool b7, .slice A7 n7 c7], .slice L (yl (y0 g) (yc g) k).length d, .int .i64 0]) (by simp [results, Tryd.results16, go_sem, cez0, cez1]) rfl ?_
   have hgg := HGG.out
   subst hgg
   exact Gives.mk ⟨_, _, us, k, rfl, hr9, HS.out, hF9.base_le (Nat.le_of_lt hbz)⟩ hx
end Go.Proofs.YtfacbpnegkjcgaaDoor
namespace Go.Hp
theorem yp_lin (A : Nat → Rat) (l : List ((Nat → Rat) × Nat)) : ∀ B, yp (cv A B) l = cv A (yp B l) := by
 induction l with
 | nil => intro B; rfl
 | cons p l ih =>
  intro B
  show yp (cv (cv A B) (pw p.1 p.2)) l = cv A (yp (cv B (pw p.1 p.2)) l)
  rw [cv_assoc, ih]
theorem yp_one (A : Nat → Rat) (l : List ((Nat → Rat) × Nat)) : yp A l = cv A (yp pone l) := by
 have := yp_lin A l pone
 rwa [cv_pone] at this
theorem yp_append (S : Nat → Rat) (l m : List ((Nat → Rat) × Nat)) : yp S (l ++ m) = yp (yp S l) m := by simp [yp]
theorem yp_mid {S : Nat → Rat} {l : List ((Nat → Rat) × Nat)} {i j : Nat} (h : i < l.length) (hj : j ≤ (l[i]).2) :
  yp S l = cv (cv (pw l[i].1 (l[i].2 - j)) (yp pone (l.drop (i + 1)))) (cv (yp S (l.take i)) (pw l[i].1 j)) := by
 have e : l = l.take i ++ (l[i] :: l.drop (i + 1)) := by rw [← List.drop_eq_getElem_cons h, List.take_append_drop]
 have e1 : yp S l = yp (cv (yp S (l.take i)) (pw l[i].1 l[i].2)) (l.drop (i + 1)) := by
  conv => lhs; rw [e, yp_append]
  rfl
 have e2 : pw l[i].1 l[i].2 = cv (pw l[i].1 j) (pw l[i].1 (l[i].2 - j)) := by rw [← pw_add, show j + (l[i].2 - j) = l[i].2 by omega]
 rw [e1, yp_one, e2]
 obtain ⟨A, hA⟩ : ∃ A, A = yp S (l.take i) := ⟨_, rfl⟩
 obtain ⟨R, hR⟩ : ∃ R, R = yp pone (l.drop (i + 1)) := ⟨_, rfl⟩
 rw [← hA, ← hR, ← cv_assoc A, cv_assoc (cv A _), cv_comm]
theorem yp_zdv {S : Nat → Rat} {l : List ((Nat → Rat) × Nat)} (hl : ∀ p ∈ l, Pos1 p.1) (zS : ZI S) (fS : Fin_ S) (nS : S ≠ pz) {i j : Nat} (h : i < l.length) (hj : j ≤ (l[i]).2) :
  Zdv (yp S l) (cv (yp S (l.take i)) (pw l[i].1 j)) ∧ ZI (cv (yp S (l.take i)) (pw l[i].1 j)) ∧ Fin_ (cv (yp S (l.take i)) (pw l[i].1 j)) := by
 have hp := hl _ (List.getElem_mem h)
 obtain ⟨a1, a2, a3, -⟩ := yp_pos fS nS zS (l.take i) fun p hm => hl p (List.mem_of_mem_take hm)
 obtain ⟨b1, b2, b3, -⟩ := yp_pos pone_fin pone_ne pos_pone.z (l.drop (i + 1)) fun p hm => hl p (List.mem_of_mem_drop hm)
 have k := pos_pw hp (l[i].2 - j)
 have k2 := pos_pw hp j
 exact ⟨⟨_, k.z.cv b3, k.f.cv b1, yp_mid h hj⟩, a3.cv k2.z, a1.cv k2.f⟩
theorem cs_pz_cv (a : Rat) (F : Nat → Rat) : cv (cs a pz) F = psc a F := by rw [cs_cv, pz_cv]; funext i; cases i <;> simp [pad, psc, cs, pz] <;> grind
theorem cs_pz {a : Int} (h : a ≠ 0) : ZI (cs (a : Rat) pz) ∧ Fin_ (cs (a : Rat) pz) ∧ cs (a : Rat) pz ≠ pz := by
 refine ⟨fun i => ?_, ⟨1, (Sup.pz 0).cs _⟩, fun e => ?_⟩
 ·match i with
  | 0 => exact ⟨a, rfl⟩
  | i + 1 => exact ⟨0, rfl⟩
 ·have := congrFun e 0
  have h2 : (a : Rat) = 0 := this
  exact h (by exact_mod_cast h2)
theorem cb_num {X : Nat} {F : Nat → Rat} (z : ZI F) (h : CB 1 X F) (i : Nat) : (F i).num.natAbs ≤ X := by
  obtain ⟨M, e, hM⟩ := h.2 i
  have e2 : F i = (M : Rat) := by rw [e]; show (M : Rat) / ((1 : Nat) : Rat) = _; have : ((1 : Nat) : Rat) = 1 := rfl
                                  rw [this]; grind
  rw [e2]; exact hM
theorem cb_of {X : Nat} {F : Nat → Rat} (z : ZI F) (h : ∀ i, (F i).num.natAbs ≤ X) : CB 1 X F := ⟨by omega, fun i => ⟨(F i).num, by have : ((1 : Nat) : Rat) = 1 := rfl
                                                                                                                                    rw [this, ← z.num i]; grind, h i⟩⟩
theorem small_nat {x : Rat} {s : Nat} (h : qsz x ≤ s) : x.num.natAbs ≤ bp s - 1 := by
 have := sz_le_iff.1 (Nat.le_trans (qsz_nm x) h)
 omega
theorem fgg_size {F G : Nat → Rat} (zF : ZI F) (zG : ZI G) (sF : Sup 6 F) (sG : Sup 6 G) (hF : ∀ i, qsz (F i) ≤ 1) (hG : ∀ i, qsz (G i) ≤ 1) (i : Nat) :
  (cv F (cv G G) i).num.natAbs ≤ 36 * (4294967295 * 4294967295 * 4294967295) := by
 have e1 : bp 1 - 1 = 4294967295 := rfl
 have c1 := cb_of zF fun i => small_nat (hF i)
 have c2 := cb_of zG fun i => small_nat (hG i)
 rw [e1] at c1 c2
 have c3 := CB.cv sG c2 c2
 have c4 := CB.cv sF c1 c3
 have := cb_num (zF.cv (zG.cv zG)) c4 i
 refine Nat.le_trans this ?_
 decide
theorem qsz_of_nat {F : Nat → Rat} (z : ZI F) {i s : Nat} (h : (F i).num.natAbs < bp s) (hs : 1 ≤ s) : qsz (F i) ≤ s := by
 rw [z.num i, qsz_cast]
 have := sz_le_of_lt h
 omega
theorem fgg_pd {P : Nat → Rat} (zP : ZI P) (fP : Fin_ P) (h0 : P ≠ pz) (sP : Sup 16 P) (h : ∀ i, (P i).num.natAbs ≤ 36 * (4294967295 * 4294967295 * 4294967295)) :
  (∀ i, qsz (P i) ≤ 4) ∧ ∀ i, qsz (pd (pp P) i) ≤ 4 := by
 have b4 : bp 4 = 340282366920938463463374607431768211456 := by decide
 refine ⟨fun i => qsz_of_nat zP (by have := h i; rw [b4]; omega) (by omega), fun i => ?_⟩
 refine qsz_of_nat (zi_pd (pp_zi zP fP)) ?_ (by omega)
 rcases Nat.lt_or_ge 15 (i + 1) with hi | hi
 ·have e : pd (pp P) i = 0 := by
   unfold pd pp psc
   rw [sP (i + 1) (by omega)]
   grind
  rw [e]; decide
 ·have e : (pd (pp P) i).num = ((i + 1 : Nat) : Int) * ((P (i + 1)).num / pcn P) := by
   unfold pd
   rw [pp_at zP fP h0, show (((i + 1 : Nat)) : Rat) = (((i + 1 : Nat) : Int) : Rat) from rfl, num_mul]
  rw [e, Int.natAbs_mul, b4]
  have h1 : ((P (i + 1)).num / pcn P).natAbs ≤ (P (i + 1)).num.natAbs := Int.natAbs_ediv_le_natAbs _ _
  have h2 := h (i + 1)
  have h3 : ((i + 1 : Nat) : Int).natAbs * ((P (i + 1)).num / pcn P).natAbs ≤ 16 * (36 * (4294967295 * 4294967295 * 4294967295)) := Nat.mul_le_mul (by omega) (by omega)
  omega
theorem ytot_next {l : List ((Nat → Rat) × Nat)} {i : Nat} (h : i < l.length) : ytot (l.take (i + 1)) = ytot (l.take i) + l[i].2 * (pl l[i].1 - 1) := by
 rw [List.take_succ_eq_append_getElem h, ytot_snoc]
theorem yp_next {S : Nat → Rat} {l : List ((Nat → Rat) × Nat)} {i : Nat} (h : i < l.length) : yp S (l.take (i + 1)) = cv (yp S (l.take i)) (pw l[i].1 l[i].2) := by
 rw [List.take_succ_eq_append_getElem h, yp_snoc]
end Go.Hp
namespace Go.Hp
theorem zi_cd {F : Nat → Rat} {s : Nat} (z : ZI F) (h : ∀ i, qsz (F i) ≤ s) : CD s F := by
  have h1 := one_le_qsz (F 0)
  have h2 := h 0
  refine ⟨1, bp s - 1, ⟨by omega, fun i => ⟨(F i).num, ?_, ?_⟩⟩, ?_, ?_⟩
  · have e : ((1 : Nat) : Rat) = 1 := rfl
    rw [e, ← z.num i]; grind
  · have h3 := Nat.le_trans (qsz_nm (F i)) (h i)
    have h4 := sz_le_iff.1 h3
    omega
  · have : sz 1 = 1 := by decide
    omega
  · have : 0 < bp s := by have := sz_le_iff.1 (show sz 0 ≤ s by have : sz 0 = 0 := by decide
                                                                omega); omega
    exact sz_le_of_lt (by omega)
theorem cvz_qsz {F G : Nat → Rat} {n s t : Nat} (zF : ZI F) (zG : ZI G) (hs : Sup n F) (hn : n < 4294967296) (h : ∀ i, qsz (F i) ≤ s) (k : ∀ i, qsz (G i) ≤ t) (i : Nat) : qsz (cv F G i) ≤ s + t + 1 :=
 (CD.cv hs hn (zi_cd zF h) (zi_cd zG k)).elem i
end Go.Hp
namespace Go.Hp
open Go.RowKit
def lst (l : List ((Nat → Rat) × Nat)) : Nat → Nat
 | 0 => 0
 | i + 1 => match l[i]? with | some p => p.2 | none => 0
theorem lst_succ {l : List ((Nat → Rat) × Nat)} {i : Nat} (h : i < l.length) : lst l (i + 1) = l[i].2 := by
 show (match l[i]? with | some p => p.2 | none => 0) = _
 rw [List.getElem?_eq_getElem h]
theorem lst_lt {l : List ((Nat → Rat) × Nat)} {i : Nat} (h : i < l.length) (hp : ∀ j (hj : j < i), (l[j]'(by omega)).2 < l[i].2) (h1 : 1 ≤ l[i].2) : lst l i < l[i].2 := by
 match i with
 | 0 => exact h1
 | i + 1 => rw [lst_succ (by omega)]; exact hp i (by omega)
theorem ytot_two {l : List ((Nat → Rat) × Nat)} {i k : Nat} (h : i < l.length) (hk : k < i) (hp : ∀ p ∈ l, 1 ≤ p.2) : (pl (l[k]'(by omega)).1 - 1) + (pl l[i].1 - 1) ≤ ytot l := by
 have h1 := ytot_take l (i + 1)
 rw [ytot_next h] at h1
 have h2 := ytot_take (l.take i) (k + 1)
 rw [List.take_take, show min (k + 1) i = k + 1 by omega, ytot_next (show k < l.length by omega)] at h2
 have h3 : 1 * (pl l[i].1 - 1) ≤ l[i].2 * (pl l[i].1 - 1) := Nat.mul_le_mul_right _ (hp _ (List.getElem_mem h))
 have h4 : 1 * (pl (l[k]'(by omega)).1 - 1) ≤ (l[k]'(by omega)).2 * (pl (l[k]'(by omega)).1 - 1) := Nat.mul_le_mul_right _ (hp _ (List.getElem_mem _))
 omega
end Go.Hp
namespace Go.Proofs.YtfacbpnegkjcgaaDoor
open Go.RowKit Go.Hp
theorem degree_pD (v : Value) (F : Nat → Rat) (w : World) (hv : IsZP 0 w v F) (hs : ∀ i, qsz (F i) ≤ 1099511627776) (hn : pl F ≤ 1099511627776) : Calls Tryd.prog 11 #[v] w (Gives w fun r _ => r = .int .i64 ((pl F : Int) - 1)) := by
 obtain ⟨l, h1, h2, -, rfl⟩ := hv.hz hs
 exact degree_rz v l w h1 (by omega)
set_option maxRecDepth 20000 in
set_option maxHeartbeats 16000000 in
theorem zproducts_law (v0 v1 : Value) (l0 l1 : List RawI) (w : World) (h0 : ZPolyV w v0 l0) (h1 : ZPolyV w v1 l1) :
  Calls Tryd.prog 4 #[v0, v1] w (Gives w fun r _ => r = .bool true) := by
 have H0 := Lib.hid h0; have H1 := Lib.hid h1
 obtain ⟨A0, c0, rfl, k1, k2⟩ := h0.len
 obtain ⟨A1, c1, rfl, k3, k4⟩ := h1.len
 clear h0 h1
 go_enter Tryd.func4, Tryd.ntmps4
 go_wp2_with fail
 refine Calls.mono (awake_z _) ?_
 rintro e w1 ⟨r, rfl, rfl, hx⟩
 go_wp2_with fail
 refine Calls.mono (zlong_b 6 1 w1.heap.size 2 [(_, l0), (_, l1)] _ (by decide) (by decide) (by simp) (by simp) (listsZ_two w1 _ (H0.out.ext hx) (H1.out.ext hx) rfl)) ?_
 rintro e w2 ⟨rfl, b, rfl, hb⟩
 replace hx := hx.alloc (.cells #[.slice A0 l0.length c0, .slice A1 l1.length c1] 23)
 have Hb := Lib.hid hb; clear hb
 generalize w1.alloc (.cells #[.slice A0 l0.length c0, .slice A1 l1.length c1] 23) = wb at hx ⊢
 cases b with
 | true =>
  go_wp2
  go_ret
  exact Gives.mk rfl hx
 | false =>
  obtain ⟨hl0, hs0⟩ := Hb.out (by trivial) (.slice A0 l0.length c0, l0) (by simp)
  obtain ⟨hl1, hs1⟩ := Hb.out (by trivial) (.slice A1 l1.length c1, l1) (by simp)
  simp only at hl0 hs0 hl1 hs1
  have P0 := Lib.hid (H0.out.has hs0).1; have P1 := Lib.hid (H1.out.has hs1).1
  have HC := Lib.hid (And.intro (H0.out.qsz hs0) (H1.out.qsz hs1))
  have hll0 : (l0.map zOf).length = l0.length := by simp
  have hll1 : (l1.map zOf).length = l1.length := by simp
  obtain ⟨m0, hm0⟩ : ∃ m0, m0 = l0.map zOf := ⟨_, rfl⟩
  obtain ⟨m1, hm1⟩ : ∃ m1, m1 = l1.map zOf := ⟨_, rfl⟩
  rw [← hm0] at P0 HC hll0
  rw [← hm1] at P1 HC hll1
  rw [← hll0] at hl0 k1 P0 ⊢
  rw [← hll1] at hl1 k3 P1 ⊢
  clear hs0 hs1 hm0 hm1 hll0 hll1 Hb H0 H1
  have hp0 : pl (cz m0) ≤ 6 := Nat.le_trans (pl_le (cz_sup m0)) hl0
  have hp1 : pl (cz m1) ≤ 6 := Nat.le_trans (pl_le (cz_sup m1)) hl1
  go_wp2_with fail
  refine Calls.mono (degree_rz _ m0 _ (P0.out.ext hx) (by omega)) ?_
  rintro e w3 ⟨r3, rfl, rfl, hx3⟩
  replace hx := hx.trans hx3
  clear hx3
  by_cases hz0 : pl (cz m0) = 0
  ·have hd0 : ((pl (cz m0) : Int) - 1 < 0) := by omega
   go_wp2
   go_ret
   exact Gives.mk rfl hx
  have hd0 : ¬ ((pl (cz m0) : Int) - 1 < 0) := by omega
  go_wp2_with fail
  refine Calls.mono (degree_rz _ m1 _ (P1.out.ext hx) (by omega)) ?_
  rintro e w3 ⟨r3, rfl, rfl, hx3⟩
  replace hx := hx.trans hx3
  clear hx3
  by_cases hz1 : pl (cz m1) = 0
  ·have hd1 : ((pl (cz m1) : Int) - 1 < 0) := by omega
   go_wp2
   go_ret
   exact Gives.mk rfl hx
  have hd1 : ¬ ((pl (cz m1) : Int) - 1 < 0) := by omega
  have n0 : cz m0 ≠ pz := fun e => hz0 (by rw [e, pl_pz])
  have n1 : cz m1 ≠ pz := fun e => hz1 (by rw [e, pl_pz])
  have s0 : Sup 6 (cz m0) := (cz_sup m0).mono hl0
  have s1 : Sup 6 (cz m1) := (cz_sup m1).mono hl1
  have hqG := cvz_qsz (ZI.cz m1) (ZI.cz m1) s1 (by omega) HC.out.2 HC.out.2
  have hlG : pl (cv (cz m1) (cz m1)) ≤ 11 := pl_le (s1.cv s1)
  have HGG := Lib.hid (And.intro hqG hlG); clear hqG hlG
  obtain ⟨P, hP⟩ : ∃ P, P = cv (cz m0) (cv (cz m1) (cz m1)) := ⟨_, rfl⟩
  have zP : ZI P := by rw [hP]; exact (ZI.cz m0).cv ((ZI.cz m1).cv (ZI.cz m1))
  have fP : Fin_ P := by rw [hP]; exact (Fin_.cz m0).cv ((Fin_.cz m1).cv (Fin_.cz m1))
  have nP : P ≠ pz := fun e => by
   rw [hP] at e
   rcases cv_eq_zero (Fin_.cz m0) ((Fin_.cz m1).cv (Fin_.cz m1)) e with e | e
   ·exact n0 e
   ·rcases cv_eq_zero (Fin_.cz m1) (Fin_.cz m1) e with e | e
    ·exact n1 e
    ·exact n1 e
  have sP : Sup 16 P := by rw [hP]; exact (s0.cv (s1.cv s1))
  have hsz := fgg_pd zP fP nP sP (fun i => by rw [hP]; exact fgg_size (ZI.cz m0) (ZI.cz m1) s0 s1 HC.out.1 HC.out.2 i)
  have hlP : pl P ≤ 16 := pl_le sP
  have HP := Lib.hid (And.intro hP (And.intro zP (And.intro fP (And.intro nP hsz))))
  clear hP zP fP nP sP hsz s0 s1 n0 n1
  go_wp2_with fail
  refine Calls.mono (mul_rzp _ _ m1 m1 1 1 _ (P1.out.ext hx) (P1.out.ext hx) HC.out.2 HC.out.2 (by have : (m1.length + m1.length) * (1 + 1 + 1) ≤ 12 * 3 := Nat.mul_le_mul_right _ (by omega); omega) (by omega) (by omega)) ?_
  rintro e w4 ⟨r4, rfl, hr4, hx4⟩
  replace hx := hx.trans hx4
  obtain ⟨o4, g1, g2, -, g4⟩ := (hr4.base_le (b := 0) (Nat.zero_le _)).hz (fun i => by have := HGG.out.1 i; omega)
  have H4 := Lib.hid (And.intro g1 g4); clear g1 g4 hr4 hx4
  have hl4 : o4.length ≤ 11 := by have := HGG.out.2; omega
  go_wp2_with fail
  refine Calls.mono (mul_rzp _ _ m0 o4 1 3 _ (P0.out.ext hx) H4.out.1 HC.out.1 (by rw [H4.out.2]; exact HGG.out.1) (by have : (m0.length + o4.length) * (1 + 3 + 1) ≤ 17 * 5 := Nat.mul_le_mul_right _ (by omega); omega) (by omega) (by omega)) ?_
  rintro e w5 ⟨r5, rfl, hr5, hx5⟩
  replace hx := hx.trans hx5
  rw [H4.out.2, ← HP.out.1] at hr5
  have hr5' := hr5.base_le (b := 0) (Nat.zero_le _)
  obtain ⟨A5, c5, rfl, -⟩ := hr5'.shape
  obtain ⟨lp, g1, g2, -, g4⟩ := hr5'.hz (fun i => by have := HP.out.2.2.2.2.1 i; omega)
  have H5 := Lib.hid (And.intro hr5' (And.intro g1 g4)); clear g1 g4 hr5 hr5' hx5 H4 HGG g2
  have hlp : lp.length ≤ 1000 := by
   have h1 := H5.out.2.1.len
   obtain ⟨A', c', e⟩ := h1
   have : lp.length = pl P := by injection e with e1 e2 e3; exact e2.symm
   omega
  go_wp2_with fail
  refine Calls.mono (zsqf_z _ lp 4 16 10737418240 _ H5.out.2.1 (by rw [H5.out.2.2]; exact HP.out.2.2.2.2.1) (by rw [H5.out.2.2]; exact HP.out.2.2.2.2.2) (by omega) hlp (by rw [H5.out.2.2]; exact hlP) (by omega) (by rw [H5.out.2.2]; exact HP.out.2.2.2.1) (by decide) (by decide)) ?_
  rintro e w6 ⟨r6, rfl, ⟨a6, u6, us6, K, rfl, hz6, hK, hF6⟩, hx6⟩
  rw [H5.out.2.2] at hz6 hK hF6
  obtain ⟨L6, d6, rfl⟩ := hF6.shape
  obtain ⟨b7, A7, n7, c7, rfl⟩ := hz6.cells
  have hg := Pos1.pp HP.out.2.1 HP.out.2.2.1 HP.out.2.2.2.1
  have hpg : pl (pp P) = pl P := pp_pl HP.out.2.1 HP.out.2.2.1
  obtain ⟨l, hl⟩ : ∃ l, l = yl (y0 (pp P)) (yc (pp P)) K := ⟨_, rfl⟩
  have hlm := yl_pos1 hg K
  have hlt := yl_tot hg hK.1
  have hlq := yl_pair hg K
  have hall := yl_all hg hK.1 (cs ((pcn P : Int) : Rat) pz)
  have hK17 : K ≤ 17 := by
   obtain ⟨hC, hW, eg, d1, -⟩ := yc_pos hg
   obtain ⟨K2, q1, q2, q3⟩ := yw_stop hW hC
   obtain rfl := hK.uniq ⟨q1, q2⟩
   have := Dv.le hC.f hg.f hg.n (zdv_dv d1)
   omega
  have hlen := yl_len (y0 (pp P)) (yc (pp P)) K
  rw [← hl] at hlm hlt hlq hall hF6 hlen ⊢
  have hpn : pcn P ≠ 0 := pcn_ne HP.out.2.1 HP.out.2.2.1 HP.out.2.2.2.1
  have hyP : yp (cs ((pcn P : Int) : Rat) pz) l = P := by
   rw [hall, cs_pz_cv, ← pp_eq HP.out.2.1 HP.out.2.2.1 HP.out.2.2.2.1]
  obtain ⟨S, hS⟩ : ∃ S, S = cs ((pcn P : Int) : Rat) pz := ⟨_, rfl⟩
  have hSS := cs_pz hpn
  rw [← hS] at hyP hSS
  have hroom : ∀ i j, (h : i < l.length) → j ≤ l[i].2 → (∀ n, qsz (cv (yp S (l.take i)) (pw l[i].1 j) n) ≤ 36000) ∧ pl (cv (yp S (l.take i)) (pw l[i].1 j)) ≤ 16 := fun i j h hj => by
   obtain ⟨q1, q2, q3⟩ := yp_zdv (fun p hp => (hlm p hp).1) hSS.1 hSS.2.1 hSS.2.2 h hj
   rw [hyP] at q1
   refine ⟨fun n => zdv_qsz HP.out.2.1 HP.out.2.2.1 HP.out.2.2.2.1 q2 q3 q1 hlP (by omega) (fun i => HP.out.2.2.2.2.1 i) (by omega) n, ?_⟩
   have := Dv.le q3 HP.out.2.2.1 HP.out.2.2.2.1 (zdv_dv q1)
   omega
  have hel : ∀ i, (h : i < l.length) → Pos1 l[i].1 ∧ 1 < pl l[i].1 ∧ 1 ≤ l[i].2 ∧ l[i].2 ≤ 17 ∧ (∀ n, qsz (l[i].1 n) ≤ 36000) ∧ lst l i < l[i].2 ∧ pl l[i].1 ≤ 16 := fun i h => by
   obtain ⟨q1, q2, q3, q4⟩ := hlm _ (List.getElem_mem h)
   have hz : Zdv P l[i].1 := by
    obtain ⟨r1, r2, r3⟩ := yp_zdv (fun p hp => (hlm p hp).1) hSS.1 hSS.2.1 hSS.2.2 h (j := 1) q3
    rw [hyP, pw_one] at r1
    obtain ⟨t1, t2, t3, -⟩ := yp_pos hSS.2.1 hSS.2.2 hSS.1 (l.take i) fun p hm => (hlm p (List.mem_of_mem_take hm)).1
    exact zdv_trans r1 ⟨_, t3, t1, rfl⟩
   refine ⟨q1, q2, q3, by omega, fun n => zdv_qsz HP.out.2.1 HP.out.2.2.1 HP.out.2.2.2.1 q1.z q1.f hz hlP (by omega) (fun i => HP.out.2.2.2.2.1 i) (by omega) n, ?_, ?_⟩
   ·refine lst_lt h (fun j hj => ?_) q3
    exact (List.pairwise_iff_getElem.1 hlq j i (by omega) h hj).1
   ·have := Dv.le q1.f HP.out.2.2.1 HP.out.2.2.2.1 (zdv_dv hz)
    omega
  have hcop : ∀ i k, (h : i < l.length) → (hk : k < i) → zgc l[i].1 (l[k]'(by omega)).1 = pone ∧ pl l[i].1 + pl (l[k]'(by omega)).1 ≤ 17 := fun i k h hk => by
   obtain ⟨q1, q2, -⟩ := hel i h
   obtain ⟨r1, r2, -⟩ := hel k (by omega)
   have c1 := (List.pairwise_iff_getElem.1 hlq k i (by omega) h hk).2
   have h2 := ytot_two h hk fun p hp => (hlm p hp).2.2.1
   exact ⟨c1.symm.gcd q1 r1.z r1.f, by omega⟩
  have htot : ∀ i, (h : i < l.length) → ytot (l.take (i + 1)) = ytot (l.take i) + l[i].2 * (pl l[i].1 - 1) ∧ ytot (l.take (i + 1)) ≤ 15 := fun i h => ⟨ytot_next h, by
   have := ytot_take l (i + 1)
   omega⟩
  have HR := Lib.hid (And.intro hroom (And.intro hel (And.intro hcop (And.intro htot hyP))))
  clear hroom hel hcop htot hlm hlt hlq hall hK hl
  obtain ⟨W7, eW7, e7, x7⟩ := Box.made w6 28 #[.bool b7, .slice A7 n7 c7] (by simp [isDig])
  have xa := (Ext.refl W7).alloc (.cells #[.bool b7, .slice A7 n7 c7] 28)
  have hS7 : IsZP 0 (W7.alloc (.cells #[.bool b7, .slice A7 n7 c7] 28)) (.slice (some ⟨W7.heap.size, 0, none⟩) 1 1) S := by
   rw [hS]
   exact IsZP.single (OwnZ.row (NewZ.own (NewZ.mk (hz6.kd x7.kd) (base := 0) (Nat.zero_le _) 28))) hpn
  have HF := Lib.hid (And.intro ((hF6.ext x7).ext xa) (And.intro (H5.out.1.ext ((hx6.trans x7).trans xa)) hS7))
  replace hx := hx.trans ((hx6.trans x7).trans xa)
  clear hF6 hz6 hS7 hx6 x7 xa H5 hpn hSS hS hpg hg
  go_upto_region 7 with (fail)
  rw [← eW7]
  clear eW7
  generalize w6.heap.size = gz at *
  obtain ⟨ce70, ce71⟩ := e7.cells2
  have fe7 := e7.frozen
  go_upto_region 8 with (fail)
  clear ce70 ce71 fe7 e7
  generalize W7.alloc (.cells #[.bool b7, .slice A7 n7 c7] 28) = wB at *
  go_wp2
  go_loopw [9, 10, 11, 12] (fun ov lv tv iv wr => ∃ i : Nat, i ≤ l.length ∧ IsZP 0 wr ov (yp S (l.take i)) ∧ lv = .int .i64 (lst l i : Nat) ∧ tv = .int .i64 (ytot (l.take i) : Nat) ∧ iv = .int .i64 i ∧ Ext w wr ∧ Ext wB wr) (fun _ _ _ iv _ => l.length - (intOf iv).toNat)
  case atStart => exact ⟨0, Nat.zero_le _, HF.out.2.2, rfl, rfl, rfl, hx, Ext.refl _⟩
  case round =>
   clear hx
   obtain ⟨i, hi, hov, rfl, rfl, rfl, hx, hxB⟩ := hrel
   by_cases hil : i < l.length
   ·obtain ⟨g, o, E1, d1, rfl, q0, q1, hq⟩ := HF.out.1.at_ (i := i) hil
    have HQ := Lib.hid (And.intro q0 (And.intro q1 hq))
    have Hel := Lib.hid (HR.out.2.1 i hil)
    have Htt := Lib.hid (HR.out.2.2.2.1 i hil)
    have Hrm := Lib.hid (fun j hj => HR.out.1 i j hil hj)
    have Hcp := Lib.hid (fun k hk => HR.out.2.2.1 i k hil hk)
    have Hny := Lib.hid (yp_next (S := S) hil)
    have Hls := Lib.hid (lst_succ hil)
    obtain ⟨el, hel⟩ : ∃ el, el = l[i] := ⟨_, rfl⟩
    simp only [← hel] at HQ Hel Htt Hrm Hcp Hny Hls
    obtain ⟨pA, ex⟩ := el
    simp only at HQ Hel Htt Hrm Hcp Hny Hls
    obtain ⟨N, hN⟩ : ∃ N : Nat, pl pA = N + 1 := ⟨pl pA - 1, by have := Hel.out.2.1; omega⟩
    have hN1 : 1 ≤ N := by have := Hel.out.2.1; omega
    have hN16 : N ≤ 16 := by have := Hel.out.2.2.2.2.2.2; omega
    have hx1 : 1 ≤ ex := Hel.out.2.2.1
    have hx17 : ex ≤ 17 := Hel.out.2.2.2.1
    have hlx : lst l i < ex := Hel.out.2.2.2.2.2.1
    obtain ⟨ls, hls⟩ : ∃ ls, ls = lst l i := ⟨_, rfl⟩
    obtain ⟨tt, htt⟩ : ∃ tt, tt = ytot (l.take i) := ⟨_, rfl⟩
    obtain ⟨t2, ht2⟩ : ∃ t2, t2 = ytot (l.take (i + 1)) := ⟨_, rfl⟩
    rw [← hls] at hlx ⊢
    rw [← htt] at Htt ⊢
    rw [← ht2] at Htt
    have hpr : (N : Int) * (ex : Int) = ((ex * N : Nat) : Int) := by rw [Int.mul_comm]; push_cast; rfl
    obtain ⟨pr, hpr2⟩ : ∃ pr : Nat, pr = ex * N := ⟨_, rfl⟩
    rw [← hpr2] at hpr
    have ht3 : t2 = tt + pr ∧ t2 ≤ 15 := by
     have := Htt.out
     rw [hN, show N + 1 - 1 = N from rfl, ← hpr2] at this
     exact this
    have Ht3 := Lib.hid (And.intro ht3 (And.intro ht2 hel)); clear ht3 ht2 hel hls htt hpr2 Htt
    have hpr15 : pr ≤ 15 := by have := Ht3.out.1; omega
    have htt15 : tt ≤ 15 := by have := Ht3.out.1; omega
    have q0' := hxB.cell HQ.out.1
    have q1' := hxB.cell HQ.out.2.1
    rw [hN] at q0'
    have hd0 : ((N + 1 : Nat) : Int) - 1 = N := by omega
    have hb0 : decide ((N : Int) < 1) = false := decide_eq_false (by omega)
    have hb1 : decide ((ex : Int) ≤ (ls : Int)) = false := decide_eq_false (by omega)
    have hb1' : decide (ex ≤ ls) = false := decide_eq_false (by omega)
    have hb2 : decide ((40 : Int) < (tt : Int) + (pr : Int)) = false := decide_eq_false (by have := Ht3.out.1; omega)
    have Hov := Lib.hid hov; clear hov q0 q1 hq
    go_wp2_with fail
    refine Calls.mono (degree_pD _ pA _ (by have := HQ.out.2.2.ext hxB; rw [hN] at this; exact this) (fun n => by have := Hel.out.2.2.2.2.1 n; omega) (by omega)) ?_
    rintro e w8 ⟨r8, rfl, rfl, hx8⟩
    rw [hN, hd0]
    replace q0' := hx8.cell q0'
    replace q1' := hx8.cell q1'
    replace hx := hx.trans hx8
    replace hxB := hxB.trans hx8
    have Hov2 := Lib.hid (Hov.out.ext hx8); clear hx8 Hov
    go_wp2_with fail
    refine wp_region_par (k := 24) (D := [57, 58, 59, 60, 61, 62, 63, 64, 65, 66, 67, 68, 69, 70, 71, 72, 73, 74, 75, 76, 77, 78, 79, 80]) (T := [[], [0], [0, 1], [0, 1, 2], [0, 1, 2], [0, 1, 2, 3, 4], [0, 1, 2, 3, 4, 5], [0, 1, 2, 3, 4, 5, 6], [0, 1, 2], [0, 1, 2, 3, 4, 5, 6, 7, 8], [0, 1, 2, 3, 4, 5, 6, 7, 8, 9], [0, 1, 2, 3, 4, 5, 6, 7, 8, 9, 10], [0, 1, 2, 3, 4, 5, 6, 7, 8, 9, 10, 11], [0, 1, 2, 3, 4, 5, 6, 7, 8, 9, 10, 11], [0, 1, 2, 3, 4, 5, 6, 7, 8, 9, 10, 11, 12, 13], [0, 1, 2, 3, 4, 5, 6, 7, 8, 9, 10, 11, 12, 13, 14], [0, 1, 2, 3, 4, 5, 6, 7, 8, 9, 10, 11, 12, 13, 14, 15], [0, 1, 2, 3, 4, 5, 6, 7, 8, 9, 10, 11, 12, 13, 14, 15, 16], [0, 1, 2, 3, 4, 5, 6, 7, 8, 9, 10, 11], [0, 1, 2, 3, 4, 5, 6, 7, 8, 9, 10, 11], [0, 1, 2, 3, 4, 5, 6, 7, 8, 9, 10, 11, 18, 19], [0, 1, 2, 3, 4, 5, 6, 7, 8, 9, 10, 11, 18, 19, 20], [0, 1, 2, 3, 4, 5, 6, 7, 8, 9, 10, 11, 18, 19, 20, 21], [0, 1, 2, 3, 4, 5, 6, 7, 8, 9, 10, 11, 12, 13, 14, 15, 16, 17, 18, 19, 20, 21, 22], [0, 1, 2, 3, 4, 5, 6, 7, 8, 9, 10, 11, 12, 13, 14, 15, 16, 17, 18, 19, 20, 21, 22, 23], [0, 1, 2, 3, 4, 5, 6, 7, 8, 9, 10, 11, 12, 13, 14, 15, 16, 17, 18, 19, 20, 21, 22, 23, 24]]) (EK := [13, 7, 12, 10]) (EV := [?e1x0, ?e1x1, ?e1x2, ?e1x3]) (VL := [(kv ?v1x0), (kv ?v1x1), (kv ?v1x2), (kv ?v1x3), (kv ?v1x4), (kv ?v1x5), (kv ?v1x6), (kv ?v1x7), (kv ?v1x8), (kv ?v1x9), (kv ?v1x10), (kv ?v1x11), (kv ?v1x12), (kv ?v1x13), (kv ?v1x14), (kv ?v1x15), (kv ?v1x16), (fun γ => γ 17), (kv ?v1x18), (kv ?v1x19), (kv ?v1x20), (kv ?v1x21), (kv ?v1x22), (kv (.bool true))]) (FL := fun γ w' => [True, True, True, True, True, True, True, True, True, True, True, True, True, True, True, True, True, IsZP 0 w' (γ 17) pA, True, True, True, True, True, True]) ?hE1 (by kernel_rfl) (by kernel_rfl) (by rfl) (by kernel_rfl) ?hloc1 ?hmono1 ?hstep1 ?htail1
    case hE1 => refine ⟨?_, ?_, ?_, ?_, trivial⟩ <;> (simp only [List.getElem?_toArray, List.getElem?_cons_succ, List.getElem?_cons_zero]; rfl)
    case hstep1 =>
     refine ⟨⟨⟨⟨⟨⟨⟨⟨⟨⟨⟨⟨⟨⟨⟨⟨⟨⟨⟨⟨⟨⟨⟨⟨trivial, ?_⟩, ?_⟩, ?_⟩, ?_⟩, ?_⟩, ?_⟩, ?_⟩, ?_⟩, ?_⟩, ?_⟩, ?_⟩, ?_⟩, ?_⟩, ?_⟩, ?_⟩, ?_⟩, ?_⟩, ?_⟩, ?_⟩, ?_⟩, ?_⟩, ?_⟩, ?_⟩, ?_⟩
     iterate 17 focus
      intro γ w' he hf; clear hf; refine ⟨by trivial, ?_⟩; intro R hR; have hc := he.cells
      have cq0 := he.cell q0'
      have cq1 := he.cell q1'
      go_simp; (try go_ints); (try (rw [if_neg (by omega)])); (try (rw [if_pos (by omega)])); (try go_simp); (try go_ints)
      refine hR _ _ (Ext.refl _) ?_ trivial; rfl
     ·intro γ w' he hf; clear hf; refine ⟨rfl, ?_⟩; intro R hR
      go_simp
      refine Calls.mono (show Calls _ _ _ w' (Gives w' fun r w'' => IsZP 0 w'' (r) pA) from Gives.imp (primitive_p _ pA w' (by have := HQ.out.2.2.ext (hxB.trans he); rw [hN] at this; exact this) (fun n => by have := Hel.out.2.2.2.2.1 n; omega) (by omega)) fun _ _ h => by have h2 := h.base_le (b := 0) (Nat.zero_le _); rw [Hel.out.1.self] at h2; exact h2) ?_
      rintro e w2 ⟨v, rfl, hv, hx⟩
      exact ⟨v, rfl, hR v w2 hx rfl hv⟩
     iterate 5 focus
      intro γ w' he hf; clear hf; refine ⟨by trivial, ?_⟩; intro R hR; have hc := he.cells
      have cq0 := he.cell q0'
      have cq1 := he.cell q1'
      go_simp; (try go_ints); (try (rw [if_neg (by omega)])); (try (rw [if_pos (by omega)])); (try go_simp); (try go_ints)
      refine hR _ _ (Ext.refl _) ?_ trivial; rfl
     ·intro γ w' he hf; have f17 : IsZP 0 w' (γ 17) pA := hf 17 (by decide); clear hf; refine ⟨rfl, ?_⟩; intro R hR
      go_simp
      refine Calls.mono (show Calls _ _ _ w' (Gives w' fun r _ => r = .bool true) from sameints_t _ _ pA _ _ w' f17 (by have := HQ.out.2.2.ext (hxB.trans he); rw [hN] at this; exact this) (by omega)) ?_
      rintro e w2 ⟨v, rfl, rfl, hx⟩
      exact ⟨_, rfl, hR _ w2 hx rfl trivial⟩
    case hloc1 =>
     exact ⟨⟨⟨⟨⟨⟨⟨⟨⟨⟨⟨⟨⟨⟨⟨⟨⟨⟨⟨⟨⟨⟨⟨⟨trivial, (fun γ γ' h => ⟨rfl, fun _ => rfl⟩)⟩, (fun γ γ' h => ⟨rfl, fun _ => rfl⟩)⟩, (fun γ γ' h => ⟨rfl, fun _ => rfl⟩)⟩, (fun γ γ' h => ⟨rfl, fun _ => rfl⟩)⟩, (fun γ γ' h => ⟨rfl, fun _ => rfl⟩)⟩, (fun γ γ' h => ⟨rfl, fun _ => rfl⟩)⟩, (fun γ γ' h => ⟨rfl, fun _ => rfl⟩)⟩, (fun γ γ' h => ⟨rfl, fun _ => rfl⟩)⟩, (fun γ γ' h => ⟨rfl, fun _ => rfl⟩)⟩, (fun γ γ' h => ⟨rfl, fun _ => rfl⟩)⟩, (fun γ γ' h => ⟨rfl, fun _ => rfl⟩)⟩, (fun γ γ' h => ⟨rfl, fun _ => rfl⟩)⟩, (fun γ γ' h => ⟨rfl, fun _ => rfl⟩)⟩, (fun γ γ' h => ⟨rfl, fun _ => rfl⟩)⟩, (fun γ γ' h => ⟨rfl, fun _ => rfl⟩)⟩, (fun γ γ' h => ⟨rfl, fun _ => rfl⟩)⟩, (fun γ γ' h => ⟨rfl, fun _ => rfl⟩)⟩, (fun γ γ' h => ⟨h 17 rfl, fun w' => (congrArg (fun a => IsZP 0 w' (a) pA) (h 17 rfl))⟩)⟩, (fun γ γ' h => ⟨rfl, fun _ => rfl⟩)⟩, (fun γ γ' h => ⟨rfl, fun _ => rfl⟩)⟩, (fun γ γ' h => ⟨rfl, fun _ => rfl⟩)⟩, (fun γ γ' h => ⟨rfl, fun _ => rfl⟩)⟩, (fun γ γ' h => ⟨rfl, fun _ => rfl⟩)⟩, (fun γ γ' h => ⟨rfl, fun _ => rfl⟩)⟩
    case hmono1 =>
     exact ⟨⟨⟨⟨⟨⟨⟨⟨⟨⟨⟨⟨⟨⟨⟨⟨⟨⟨⟨⟨⟨⟨⟨⟨trivial, (fun γ wA w' e h => h)⟩, (fun γ wA w' e h => h)⟩, (fun γ wA w' e h => h)⟩, (fun γ wA w' e h => h)⟩, (fun γ wA w' e h => h)⟩, (fun γ wA w' e h => h)⟩, (fun γ wA w' e h => h)⟩, (fun γ wA w' e h => h)⟩, (fun γ wA w' e h => h)⟩, (fun γ wA w' e h => h)⟩, (fun γ wA w' e h => h)⟩, (fun γ wA w' e h => h)⟩, (fun γ wA w' e h => h)⟩, (fun γ wA w' e h => h)⟩, (fun γ wA w' e h => h)⟩, (fun γ wA w' e h => h)⟩, (fun γ wA w' e h => h)⟩, (fun γ wA w' e h => (show IsZP 0 wA (γ 17) pA from h).ext e)⟩, (fun γ wA w' e h => h)⟩, (fun γ wA w' e h => h)⟩, (fun γ wA w' e h => h)⟩, (fun γ wA w' e h => h)⟩, (fun γ wA w' e h => h)⟩, (fun γ wA w' e h => h)⟩
    intro γ w9 hx9 hF
    have p17 : IsZP 0 w9 (γ 17) pA := Each.get hF 17 (by decide)
    clear hF
    simp only [fillAll, gV, kv, List.getD_cons_zero, List.getD_cons_succ, Act.put, List.setIfInBounds_toArray, List.set_cons_zero, List.set_cons_succ, List.toList_toArray, List.drop_succ_cons, List.drop_zero, List.drop_nil, Nat.zero_add, Nat.reduceAdd]
    generalize γ 17 = g17 at *
    clear γ
    clear p17
    replace q0' := hx9.cell q0'
    replace q1' := hx9.cell q1'
    replace hx := hx.trans hx9
    replace hxB := hxB.trans hx9
    have Hov3 := Lib.hid (Hov2.out.ext hx9); clear hx9 Hov2
    go_wp2
    go_loopw [9, 14] (fun ov kv wr2 => ∃ j : Nat, j ≤ ex ∧ IsZP 0 wr2 ov (cv (yp S (l.take i)) (pw pA j)) ∧ kv = .int .i64 j ∧ Ext w wr2 ∧ Ext wB wr2) (fun _ kv _ => ex - (intOf kv).toNat)
    case atStart => exact ⟨0, Nat.zero_le _, by show IsZP 0 _ _ (cv _ pone); rw [cv_pone]; exact Hov3.out, rfl, hx, hxB⟩
    case round =>
     clear hx hxB Hov3 q0' q1'
     obtain ⟨j, hj, hov, rfl, hx, hxB⟩ := hrel
     have q0' := hxB.cell HQ.out.1
     have q1' := hxB.cell HQ.out.2.1
     rw [hN] at q0'
     have Hov := Lib.hid hov; clear hov
     by_cases hje : j < ex
     ·have hrj := Hrm.out j (by omega)
      have Hrj := Lib.hid hrj; clear hrj
      go_wp2_with fail
      refine Calls.mono (rmul _ _ (cv (yp S (l.take i)) (pw pA j)) pA 36000 36000 _ Hov.out (by have := HQ.out.2.2.ext hxB; rw [hN] at this; exact this) Hrj.out.1 Hel.out.2.2.2.2.1 (by
       have h1 := Hrj.out.2
       have : (pl (cv (yp S (l.take i)) (pw pA j)) + pl pA) * (36000 + 36000 + 1) ≤ 40 * 72001 := Nat.mul_le_mul_right _ (by omega)
       omega) (by have := Hrj.out.2; omega) (by omega) (by omega) (by omega)) ?_
      rintro e w10 ⟨r10, rfl, hr10, hx10⟩
      rw [cv_assoc] at hr10
      have H10 := Lib.hid hr10
      replace hx := hx.trans hx10
      replace hxB := hxB.trans hx10
      clear hr10 hx10 Hov Hrj q0' q1'
      go_wp2
      go_roundw
      case rel => exact ⟨j + 1, by omega, H10.out, by go_num, hx, hxB⟩
      case measure => simp [intOf] <;> omega
     ·obtain rfl : j = ex := by omega
      have hfin := Hov.out
      rw [← Hny.out] at hfin
      have Hfin := Lib.hid hfin; clear hfin Hov
      go_wp2
      go_loopw [15] (fun kv wr2 => ∃ k : Nat, k ≤ i ∧ kv = .int .i64 k ∧ IsZP 0 wr2 u9 (yp S (l.take (i + 1))) ∧ Ext w wr2 ∧ Ext wB wr2) (fun kv _ => i - (intOf kv).toNat)
      case atStart => exact ⟨0, Nat.zero_le _, rfl, Hfin.out, hx, hxB⟩
      case round =>
       clear hx hxB q0' q1'
       obtain ⟨k, hk, rfl, hfin, hx, hxB⟩ := hrel
       have Hfin2 := Lib.hid hfin; clear hfin Hfin
       have q0' := hxB.cell HQ.out.1
       have q1' := hxB.cell HQ.out.2.1
       rw [hN] at q0'
       by_cases hki : k < i
       ·have hkl : k < l.length := by omega
        obtain ⟨g2, o2, E2, d2, eA2, r0, r1, hq2⟩ := HF.out.1.at_ (i := k) hkl
        cases eA2
        have Hq2 := Lib.hid hq2
        have Hek := Lib.hid (HR.out.2.1 k hkl)
        have Hck := Lib.hid (Hcp.out k hki)
        have r0' := hxB.cell r0
        clear r0 r1 hq2
        obtain ⟨pB, hpB⟩ : ∃ pB, pB = l[k].1 := ⟨_, rfl⟩
        rw [← hpB] at r0'
        simp only [← hpB] at Hq2 Hek Hck
        clear hpB
        go_wp2_with fail
        refine wp_region_par (k := 10) (D := [116, 117, 118, 119, 120, 121, 122, 123, 124, 125]) (T := [[], [], [0, 1], [0, 1, 2], [0, 1, 2, 3], [], [], [5, 6], [5, 6, 7], [5, 6, 7, 8], [0, 1, 2, 3, 4, 5, 6, 7, 8, 9], [0, 1, 2, 3, 4, 5, 6, 7, 8, 9, 10], [0, 1, 2, 3, 4, 5, 6, 7, 8, 9, 10, 11]]) (EK := [7, 12, 15]) (EV := [?e2x0, ?e2x1, ?e2x2]) (VL := [(kv ?v2x0), (kv ?v2x1), (kv ?v2x2), (kv ?v2x3), (kv ?v2x4), (kv ?v2x5), (kv ?v2x6), (kv ?v2x7), (kv ?v2x8), (kv ?v2x9)]) (FL := fun γ w' => [True, True, True, True, True, True, True, True, True, True]) ?hE2 (by kernel_rfl) (by kernel_rfl) (by rfl) (by kernel_rfl) ?hloc2 ?hmono2 ?hstep2 ?htail2
        case hE2 => refine ⟨?_, ?_, ?_, trivial⟩ <;> (simp only [List.getElem?_toArray, List.getElem?_cons_succ, List.getElem?_cons_zero]; rfl)
        case hstep2 =>
         refine ⟨⟨⟨⟨⟨⟨⟨⟨⟨⟨trivial, ?_⟩, ?_⟩, ?_⟩, ?_⟩, ?_⟩, ?_⟩, ?_⟩, ?_⟩, ?_⟩, ?_⟩
         iterate 10 focus
          intro γ w' he hf; clear hf; refine ⟨by trivial, ?_⟩; intro R hR; have hc := he.cells
          have cq0 := he.cell q0'
          have cq1 := he.cell r0'
          go_simp; (try go_ints); (try (rw [if_neg (by omega)])); (try (rw [if_pos (by omega)])); (try go_simp); (try go_ints)
          refine hR _ _ (Ext.refl _) ?_ trivial; rfl
        case hloc2 =>
         exact ⟨⟨⟨⟨⟨⟨⟨⟨⟨⟨trivial, (fun γ γ' h => ⟨rfl, fun _ => rfl⟩)⟩, (fun γ γ' h => ⟨rfl, fun _ => rfl⟩)⟩, (fun γ γ' h => ⟨rfl, fun _ => rfl⟩)⟩, (fun γ γ' h => ⟨rfl, fun _ => rfl⟩)⟩, (fun γ γ' h => ⟨rfl, fun _ => rfl⟩)⟩, (fun γ γ' h => ⟨rfl, fun _ => rfl⟩)⟩, (fun γ γ' h => ⟨rfl, fun _ => rfl⟩)⟩, (fun γ γ' h => ⟨rfl, fun _ => rfl⟩)⟩, (fun γ γ' h => ⟨rfl, fun _ => rfl⟩)⟩, (fun γ γ' h => ⟨rfl, fun _ => rfl⟩)⟩
        case hmono2 =>
         exact ⟨⟨⟨⟨⟨⟨⟨⟨⟨⟨trivial, (fun γ wA w' e h => h)⟩, (fun γ wA w' e h => h)⟩, (fun γ wA w' e h => h)⟩, (fun γ wA w' e h => h)⟩, (fun γ wA w' e h => h)⟩, (fun γ wA w' e h => h)⟩, (fun γ wA w' e h => h)⟩, (fun γ wA w' e h => h)⟩, (fun γ wA w' e h => h)⟩, (fun γ wA w' e h => h)⟩
        intro γ w9 hx9 hF
        clear hF
        simp only [fillAll, gV, kv, List.getD_cons_zero, List.getD_cons_succ, Act.put, List.setIfInBounds_toArray, List.set_cons_zero, List.set_cons_succ, List.toList_toArray, List.drop_succ_cons, List.drop_zero, List.drop_nil, Nat.zero_add, Nat.reduceAdd]
        clear γ
        go_wp2_with fail
        refine Calls.mono (zgcd_p _ _ pA pB 36000 4718723072 _ (by have := HQ.out.2.2.ext (hxB.trans hx9); rw [hN] at this; exact this) (Hq2.out.ext (hxB.trans hx9)) Hel.out.2.2.2.2.1 Hek.out.2.2.2.2.1 (by omega) (by have := Hek.out.2.2.2.2.2.2; omega) (by
         have h1 := Hck.out.2
         have : 2 ^ (pl pA + pl pB) ≤ 2 ^ 17 := Nat.pow_le_pow_right (by decide) h1
         omega) (by
         have h1 := Hck.out.2
         have : (pl pA + pl pB + 1) * (4718723072 + 1) ≤ 18 * (4718723072 + 1) := Nat.mul_le_mul_right _ (by omega)
         omega)) ?_
        rintro e w11 ⟨r11, rfl, hr11, hx11⟩
        rw [Hck.out.1] at hr11
        have H11 := Lib.hid hr11
        have Hfin3 := Lib.hid ((Hfin2.out.ext hx9).ext hx11)
        replace hx := (hx.trans hx9).trans hx11
        replace hxB := (hxB.trans hx9).trans hx11
        clear hr11 hx11 hx9 q0' q1' r0'
        have h1p : pl pone = 1 := pl_eq pone_sup fun _ => by show (1 : Rat) ≠ 0; decide
        go_wp2_with fail
        refine Calls.mono (degree_pD _ pone _ H11.out (fun n => by
         match n with
         | 0 => show qsz 1 ≤ _; decide
         | n + 1 => show qsz 0 ≤ _; decide) (by omega)) ?_
        rintro e w12 ⟨r12, rfl, rfl, hx12⟩
        rw [h1p]
        replace hx := hx.trans hx12
        replace hxB := hxB.trans hx12
        have Hfin4 := Lib.hid (Hfin3.out.ext hx12)
        clear hx12 H11 Hfin3 Hfin2
        go_wp2
        go_roundw
        case rel => exact ⟨k + 1, by omega, by go_num, Hfin4.out, hx, hxB⟩
        case measure => simp [intOf] <;> omega
       ·obtain rfl : k = i := by omega
        go_wp2
        go_roundw
        case rel => exact ⟨k + 1, by omega, Hfin2.out, by rw [Hls.out], by rw [← Ht3.out.2.1, Ht3.out.1.1]; push_cast; rfl, by go_num, hx, hxB⟩
        case measure => simp [intOf] <;> omega
   ·obtain rfl : i = l.length := by omega
    rw [List.take_length, HR.out.2.2.2.2] at hov
    have Hov := Lib.hid (And.intro hov (HF.out.2.1.ext hxB)); clear hov
    go_wp2_with fail
    refine Calls.mono (sameints_t _ _ P _ _ _ Hov.out.1 Hov.out.2 (by omega)) ?_
    rintro e w13 ⟨r13, rfl, rfl, hx13⟩
    replace hx := hx.trans hx13
    go_wp2
    go_ret
    exact Gives.mk rfl hx
end Go.Proofs.YtfacbpnegkjcgaaDoor
namespace Go.Proofs.YtfacbpnegkjcgaaDoor
open Go.ChangeShapes Go.WideShapes Go.ChangeAt Go.RowKit Go.Hp
open Go.ChangeMaps (open_string shut_string)
theorem own_ : ownKnob Tryd.prog.godebug = none := by kernel_rfl
theorem laidOut_ : laidOutB Tryd.prog = true := by kernel_rfl
theorem zpolyProducts_door (os : Os) (args : Array Value) : laidMetH Tryd.prog [("math/bits.deBruijn32tab", Rows.laid_math_bits_deBruijn32tab), ("math/bits.deBruijn64tab", Rows.laid_math_bits_deBruijn64tab), ("internal/strconv.uint64pow10", Rows.laid_internal_strconv_uint64pow10)] ((World.doorLaid Tryd.prog 400 os).forCall (fun _ _ => 0) ⟨#[], args, []⟩).memory :=
 laidMetH_of_parts3 (fuel := 8) (laidMet_of_run' 8 (by kernel_rfl) (by kernel_rfl)) (by kernel_rfl) (by kernel_rfl)
set_option maxRecDepth 100000 in
theorem zpolyProducts_lifted (os : Os) (started : os.Started) (H : Type) (enc : TypeId × Value → H) :
  ReturnsInHanded {} Tryd.checked os 4 .any (fun w args => (Rows.zpolyProductsSpec.pre enc Tryd.prog Tryd.f4 [] false w args ∧ laidMetH Tryd.prog [("math/bits.deBruijn32tab", Rows.laid_math_bits_deBruijn32tab), ("math/bits.deBruijn64tab", Rows.laid_math_bits_deBruijn64tab), ("internal/strconv.uint64pow10", Rows.laid_internal_strconv_uint64pow10)] w) ∧ sizedMet enc Tryd.prog Tryd.f4 (OpenSpec.ofChange Rows.zpolyProductsSpec) false w args)
   (Rows.zpolyProductsSpec.post enc Tryd.prog Tryd.f4 false true false false) := by
 refine returnsInHanded_of_change_and (C := Tryd.checked) (X := fun w _ => laidMetH Tryd.prog [("math/bits.deBruijn32tab", Rows.laid_math_bits_deBruijn32tab), ("math/bits.deBruijn64tab", Rows.laid_math_bits_deBruijn64tab), ("internal/strconv.uint64pow10", Rows.laid_internal_strconv_uint64pow10)] w) (fun _ _ _ hh h => h.of_heap hh) own_ started (by kernel_rfl) Tryd.func4
  (ChangeSpec.witness_shaped (enc := enc) (C := Tryd.checked) (os := os) (X := fun w _ => laidMetH Tryd.prog [("math/bits.deBruijn32tab", Rows.laid_math_bits_deBruijn32tab), ("math/bits.deBruijn64tab", Rows.laid_math_bits_deBruijn64tab), ("internal/strconv.uint64pow10", Rows.laid_internal_strconv_uint64pow10)] w) false (World.doorLaid Tryd.prog 400 os) #[.slice none 0 0, .slice none 0 0] 8 rfl (World.shaped_of_RefB (by kernel_rfl) (by kernel_rfl)) (by kernel_rfl) (by kernel_rfl) (by kernel_rfl) (zpolyProducts_door os _)) ?_
 intro W base args ds gs before hval0 hW _ _ hL _
 clear hL
 have hval : ∀ (j : Nat) t v, Tryd.f4.params[j]? = some t → args[j]? = some v → Value.okWide Tryd.prog W .any base t v := hval0
 have hW' := hW
 obtain ⟨p, q, hA0, hV, rfl, hfz, hnd⟩ := hW
 have hA : DataW.TrodAll enc Tryd.prog W 0 (fun _ => true) true Tryd.f4.params.toList args.toList ds p := hA0
 rw [Tryd.params4] at hA hval
 obtain ⟨v0, v1, d0, d1, p0, p1, hargs, rfl, rfl, h0, h1⟩ := trodAll_two hA
 obtain rfl : args = #[v0, v1] := by cases args; simp_all
 obtain ⟨rfl, rfl⟩ := trodVars_none hV
 have lt0 : ∀ x ∈ p0, x.block < W.heap.size := by obtain ⟨m, hm⟩ := h0; exact DataW.trod_lt m _ _ _ hm
 have lt1 : ∀ x ∈ p1, x.block < W.heap.size := by obtain ⟨m, hm⟩ := h1; exact DataW.trod_lt m _ _ _ hm
 obtain ⟨l0, w0⟩ : ∃ l, ZPolyV W v0 l := by obtain ⟨m, hm⟩ := h0; exact open_zpoly Tryd.underlying23 hm (okWide_slice Tryd.underlying23 (hval 0 23 v0 rfl rfl))
 obtain ⟨l1, w1⟩ : ∃ l, ZPolyV W v1 l := by obtain ⟨m, hm⟩ := h1; exact open_zpoly Tryd.underlying23 hm (okWide_slice Tryd.underlying23 (hval 1 23 v1 rfl rfl))
 clear hA0 hval0
 refine (zproducts_law v0 v1 l0 l1 W w0 w1).mono fun e W' ⟨v, he, hv, bel⟩ => ?_
 subst he hv
 exact ⟨_, rfl, _, _, _, [], _, [], hW', trodAll_mk1 (shut_bool Tryd.underlying4 _), (trodAll_cons_mk (Below.trod laidOut_ (by kernel_rfl) (of_decide_eq_true (by kernel_rfl)) h0 bel lt0) (trodAll_cons_mk (Below.trod laidOut_ (by kernel_rfl) (of_decide_eq_true (by kernel_rfl)) h1 bel lt1) trodAll_mk0)), rfl, bel.frame _, fun h => by cases h⟩
theorem zpolyProducts_over : Rows.zpolyProductsRow.holds Tryd.pinned (OpenSpec.ofChange Rows.zpolyProductsSpec) :=
 OpenClaim.holds_of_wide 4 Tryd.f4 rfl rfl rfl rfl rfl rfl rfl ⟨rfl, rfl, rfl, rfl, rfl⟩ rfl rfl rfl rfl rfl (by kernel_rfl) Tryd.func4 (by kernel_rfl)
  (of_decide_eq_true (by kernel_rfl)) (by unfold Func.isWrapper; first | (rw [if_pos (by decide +kernel)]; kernel_rfl) | (rw [if_neg (by decide +kernel)]; exact ⟨rfl, rfl⟩))
  (fun os started H enc _ => zpolyProducts_lifted os started H enc)
theorem zpolyProducts_proved : Rows.ZpolyProductsSaid := zpolyProducts_over
theorem zpolyProducts_card : Rows.ZpolyProductsCardSaid :=
 Claim7.holds_tied_plain_at .later [] [.data, .data, .data] true _ false
  zpolyProducts_over (fun _ h => by cases h) (by kernel_rfl) (fun _ h => by cases h) zpolyProducts_row_tie rfl ⟨rfl, rfl⟩ (by kernel_rfl) rfl
  (fun f fn hf hfn => by
   obtain rfl : f = 4 := Option.some.inj ((show Tryd.prog.funcNamed "halfplane/halfplanelaw05.ZpolyProducts" = some 4 by kernel_rfl).symm.trans hf) |>.symm
   obtain rfl : fn = Tryd.f4 := (Option.some.inj (Tryd.func4.symm.trans hfn)).symm
   exact ⟨by kernel_rfl, fun j t ht => by
    rw [Tryd.params4] at ht
    have hm : t ∈ [23] := by simpa using Array.mem_of_getElem? ht
    have hall : ([23].all fun u => !Tryd.prog.wantsStandIn u) = true := by kernel_rfl
    exact (show Tryd.prog.wantsStandIn t = false by simpa using List.all_eq_true.1 hall t hm)⟩)
  (by kernel_rfl)
end Go.Proofs.YtfacbpnegkjcgaaDoor
