/- The statement QpolyClears holds: for every polynomial over the fractions and every one over the integers the law returns true, and the arguments read afterwards as before. No condition. -/
import Derived.Test.YtedoifjbgokmcaaGreatK1
import Derived.Test.YtedoifjbgokmcaaGreatK2
import Derived.Test.YtedoifjbgokmcaaGreatK3
import Derived.Test.YtedoifjbgokmcaaGreatK4
import Derived.Deep.Cut
import Derived.Deep.DeepCutAuto
import Derived.Test.YtedoifjbgokmcaaGreatRows
import Derived.WalkKit
import Derived.ProofKit
import Derived.OpenShut
import Derived.ShutString
import Derived.ChangeOld
import Derived.Below
set_option linter.unusedVariables false
set_option linter.unusedSimpArgs false
namespace Go.Hp
open Go.RowKit
/-- The cells of one point. -/
def HasPt (w : World) (v : Value) (p : Rat × Rat) : Prop :=
  ∃ b1 A1 n1 c1 b2 A2 n2 c2 b3 A3 n3 c3 b4 A4 n4 c4, v = .agg #[.bool b1, .slice A1 n1 c1, .bool b2, .slice A2 n2 c2, .bool b3, .slice A3 n3 c3, .bool b4, .slice A4 n4 c4] ∧
    HasQ w (.agg #[.bool b1, .slice A1 n1 c1, .bool b2, .slice A2 n2 c2]) p.1 ∧ HasQ w (.agg #[.bool b3, .slice A3 n3 c3, .bool b4, .slice A4 n4 c4]) p.2
theorem HasPt.ext {w w' : World} {v : Value} {p : Rat × Rat} (h : HasPt w v p) (e : Ext w w') : HasPt w' v p := by
  obtain ⟨b1, A1, n1, c1, b2, A2, n2, c2, b3, A3, n3, c3, b4, A4, n4, c4, h1, h2, h3⟩ := h
  exact ⟨b1, A1, n1, c1, b2, A2, n2, c2, b3, A3, n3, c3, b4, A4, n4, c4, h1, h2.ext e, h3.ext e⟩
def PtsV (w : World) (v : Value) (l : List (Rat × Rat)) : Prop := RowV 8 HasPt 0 w v l
def PtsAt (w : World) (A : Option Addr) (l : List (Rat × Rat)) : Prop := RowAt 8 HasPt 0 w A l
theorem PtsV.ext {w w' : World} {v : Value} {l : List (Rat × Rat)} (h : PtsV w v l) (e : Ext w w') : PtsV w' v l := RowV.ext h e fun _ _ q => q.ext e
theorem PtsAt.at_ {w : World} {A : Option Addr} {l : List (Rat × Rat)} (h : PtsAt w A l) {j : Nat} (hj : j < l.length) :
    ∃ g o b1 A1 n1 c1 b2 A2 n2 c2 b3 A3 n3 c3 b4 A4 n4 c4, A = some ⟨g, o, none⟩ ∧ w.cell? ⟨g, o + j * 8, none⟩ = some (.bool b1) ∧ w.cell? ⟨g, o + j * 8 + 1, none⟩ = some (.slice A1 n1 c1) ∧ w.cell? ⟨g, o + j * 8 + 2, none⟩ = some (.bool b2) ∧ w.cell? ⟨g, o + j * 8 + 3, none⟩ = some (.slice A2 n2 c2) ∧
      w.cell? ⟨g, o + j * 8 + 4, none⟩ = some (.bool b3) ∧ w.cell? ⟨g, o + j * 8 + 5, none⟩ = some (.slice A3 n3 c3) ∧ w.cell? ⟨g, o + j * 8 + 6, none⟩ = some (.bool b4) ∧ w.cell? ⟨g, o + j * 8 + 7, none⟩ = some (.slice A4 n4 c4) ∧
      HasQ w (.agg #[.bool b1, .slice A1 n1 c1, .bool b2, .slice A2 n2 c2]) l[j].1 ∧ HasQ w (.agg #[.bool b3, .slice A3 n3 c3, .bool b4, .slice A4 n4 c4]) l[j].2 := by
  obtain ⟨g, o, ha, hb, hc⟩ := h (by omega)
  obtain ⟨cs, q1, q2, q3⟩ := hc j hj
  obtain ⟨b1, A1, n1, c1, b2, A2, n2, c2, b3, A3, n3, c3, b4, A4, n4, c4, e, h1, h2⟩ := q3
  obtain rfl : cs = #[.bool b1, .slice A1 n1 c1, .bool b2, .slice A2 n2 c2, .bool b3, .slice A3 n3 c3, .bool b4, .slice A4 n4 c4] := by injection e
  exact ⟨g, o, b1, A1, n1, c1, b2, A2, n2, c2, b3, A3, n3, c3, b4, A4, n4, c4, ha, q2 0 (by omega), q2 1 (by omega), q2 2 (by omega), q2 3 (by omega), q2 4 (by omega), q2 5 (by omega), q2 6 (by omega), q2 7 (by omega), h1, h2⟩
theorem PtsV.len {w : World} {v : Value} {l : List (Rat × Rat)} (h : PtsV w v l) : ∃ A c, v = .slice A l.length c ∧ l.length ≤ c ∧ c ≤ 9223372036854775807 ∧ PtsAt w A l := h
def px (l : List (Rat × Rat)) (i : Nat) : Rat := (l.getD i (0, 0)).1
def py (l : List (Rat × Rat)) (i : Nat) : Rat := (l.getD i (0, 0)).2
theorem px_lt {l : List (Rat × Rat)} {i : Nat} (h : i < l.length) : px l i = l[i].1 := by unfold px; rw [List.getD_eq_getElem?_getD, List.getElem?_eq_getElem h]; rfl
theorem py_lt {l : List (Rat × Rat)} {i : Nat} (h : i < l.length) : py l i = l[i].2 := by unfold py; rw [List.getD_eq_getElem?_getD, List.getElem?_eq_getElem h]; rfl
/-- No two of the first n are equal: told one by one. -/
theorem Apart.step {X : Nat → Rat} {n : Nat} (h : Apart X n) (k : ∀ j, j < n → X n ≠ X j) : Apart X (n + 1) := fun i j hi hj => by
  rcases Nat.lt_or_ge i n with l | l
  · exact h i j l hj
  · obtain rfl : i = n := by omega
    exact k j hj
end Go.Hp
namespace Go.Hp
open Go.RowKit
/-- An integer as it stands: sign and digits. -/
abbrev RawI := Bool × List Nat
def RawZ (w : World) (v : Value) (x : RawI) : Prop := IntV w v x.1 x.2
theorem RawZ.ext {w w' : World} {v : Value} {x : RawI} (h : RawZ w v x) (e : Ext w w') : RawZ w' v x := by
  obtain ⟨u, h1, h2⟩ := h; exact ⟨u, h1, h2.ext e⟩
/-- A slice of integers as they stand. -/
def ZPolyV (w : World) (v : Value) (l : List RawI) : Prop := RowV 2 RawZ 0 w v l
theorem ZPolyV.ext {w w' : World} {v : Value} {l : List RawI} (h : ZPolyV w v l) (e : Ext w w') : ZPolyV w' v l := RowV.ext h e fun _ _ q => q.ext e
/-- A point as it stands. -/
abbrev RawPt := Raw × Raw
def RawP2 (w : World) (v : Value) (x : RawPt) : Prop :=
  ∃ b1 A1 n1 c1 b2 A2 n2 c2 b3 A3 n3 c3 b4 A4 n4 c4, v = .agg #[.bool b1, .slice A1 n1 c1, .bool b2, .slice A2 n2 c2, .bool b3, .slice A3 n3 c3, .bool b4, .slice A4 n4 c4] ∧
    RawQ w (.agg #[.bool b1, .slice A1 n1 c1, .bool b2, .slice A2 n2 c2]) x.1 ∧ RawQ w (.agg #[.bool b3, .slice A3 n3 c3, .bool b4, .slice A4 n4 c4]) x.2
theorem RawP2.ext {w w' : World} {v : Value} {x : RawPt} (h : RawP2 w v x) (e : Ext w w') : RawP2 w' v x := by
  obtain ⟨b1, A1, n1, c1, b2, A2, n2, c2, b3, A3, n3, c3, b4, A4, n4, c4, h1, h2, h3⟩ := h
  exact ⟨b1, A1, n1, c1, b2, A2, n2, c2, b3, A3, n3, c3, b4, A4, n4, c4, h1, h2.ext e, h3.ext e⟩
def PointsV (w : World) (v : Value) (l : List RawPt) : Prop := RowV 8 RawP2 0 w v l
def PointsAt (w : World) (A : Option Addr) (l : List RawPt) : Prop := RowAt 8 RawP2 0 w A l
theorem PointsV.ext {w w' : World} {v : Value} {l : List RawPt} (h : PointsV w v l) (e : Ext w w') : PointsV w' v l := RowV.ext h e fun _ _ q => q.ext e
theorem PointsAt.at_ {w : World} {A : Option Addr} {l : List RawPt} (h : PointsAt w A l) {j : Nat} (hj : j < l.length) :
    ∃ g o b1 A1 n1 c1 b2 A2 n2 c2 b3 A3 n3 c3 b4 A4 n4 c4, A = some ⟨g, o, none⟩ ∧ w.cell? ⟨g, o + j * 8, none⟩ = some (.bool b1) ∧ w.cell? ⟨g, o + j * 8 + 1, none⟩ = some (.slice A1 n1 c1) ∧ w.cell? ⟨g, o + j * 8 + 2, none⟩ = some (.bool b2) ∧ w.cell? ⟨g, o + j * 8 + 3, none⟩ = some (.slice A2 n2 c2) ∧
      w.cell? ⟨g, o + j * 8 + 4, none⟩ = some (.bool b3) ∧ w.cell? ⟨g, o + j * 8 + 5, none⟩ = some (.slice A3 n3 c3) ∧ w.cell? ⟨g, o + j * 8 + 6, none⟩ = some (.bool b4) ∧ w.cell? ⟨g, o + j * 8 + 7, none⟩ = some (.slice A4 n4 c4) ∧
      RawQ w (.agg #[.bool b1, .slice A1 n1 c1, .bool b2, .slice A2 n2 c2]) l[j].1 ∧ RawQ w (.agg #[.bool b3, .slice A3 n3 c3, .bool b4, .slice A4 n4 c4]) l[j].2 := by
  obtain ⟨g, o, ha, hb, hc⟩ := h (by omega)
  obtain ⟨cs, q1, q2, q3⟩ := hc j hj
  obtain ⟨b1, A1, n1, c1, b2, A2, n2, c2, b3, A3, n3, c3, b4, A4, n4, c4, e, h1, h2⟩ := q3
  obtain rfl : cs = #[.bool b1, .slice A1 n1 c1, .bool b2, .slice A2 n2 c2, .bool b3, .slice A3 n3 c3, .bool b4, .slice A4 n4 c4] := by injection e
  exact ⟨g, o, b1, A1, n1, c1, b2, A2, n2, c2, b3, A3, n3, c3, b4, A4, n4, c4, ha, q2 0 (by omega), q2 1 (by omega), q2 2 (by omega), q2 3 (by omega), q2 4 (by omega), q2 5 (by omega), q2 6 (by omega), q2 7 (by omega), h1, h2⟩
/-- Small points read as points. -/
def SmallP (x : RawPt) : Prop := Small x.1 ∧ Small x.2
def ptOf (x : RawPt) : Rat × Rat := (ratOf x.1, ratOf x.2)
theorem PointsV.has {w : World} {v : Value} {l : List RawPt} (h : PointsV w v l) (hs : ∀ x ∈ l, SmallP x) : PtsV w v (l.map ptOf) ∧ (∀ i, i < l.length → qsz (px (l.map ptOf) i) ≤ 2 ∧ qsz (py (l.map ptOf) i) ≤ 2) := by
  obtain ⟨A, c, h1, h2, h3, h4⟩ := h
  refine ⟨⟨A, c, by simpa using h1, by simpa using h2, h3, fun h0 => ?_⟩, fun i hi => ?_⟩
  · obtain ⟨g, o, q1, q2, q3⟩ := h4 (by simpa using h0)
    refine ⟨g, o, q1, q2, fun j hj => ?_⟩
    have hj' : j < l.length := by simpa using hj
    obtain ⟨cs, r1, r2, b1, A1, n1, c1, b2, A2, n2, c2, b3, A3, n3, c3, b4, A4, n4, c4, e, k1, k2⟩ := q3 j hj'
    refine ⟨cs, r1, r2, ?_⟩
    rw [List.getElem_map]
    have hsm := hs _ (List.getElem_mem hj')
    exact ⟨b1, A1, n1, c1, b2, A2, n2, c2, b3, A3, n3, c3, b4, A4, n4, c4, e, (k1.has hsm.1).1, (k2.has hsm.2).1⟩
  · obtain ⟨g, o, q1, q2, q3⟩ := h4 (by omega)
    obtain ⟨cs, r1, r2, b1, A1, n1, c1, b2, A2, n2, c2, b3, A3, n3, c3, b4, A4, n4, c4, e, k1, k2⟩ := q3 i hi
    have hsm := hs _ (List.getElem_mem hi)
    rw [px_lt (by simpa using hi), py_lt (by simpa using hi), List.getElem_map]
    exact ⟨(k1.has hsm.1).2, (k2.has hsm.2).2⟩
end Go.Hp
namespace Go.Proofs.YtedoifjbgokmcaaGreat
open Go.RowKit Go.Hp Go.Deep Go.ChangeShapes Go.ChangeAt
section
variable {H : Type} {enc : TypeId × Value → H} {w : World} {spare : Nat → Bool} {held : Bool}
/-- A slice of structs of k cells: told by what one struct reads as. -/
theorem open_rows {α : Type} {k E : Nat} (hk : 0 < k) {rd : World → Value → α → Prop} (hsz : Tryz.prog.cellsOf E = k)
    (hop : ∀ {fuel : Nat} {cs : List Value} {x : DataW H × List MemPlace}, DataW.trod enc Tryz.prog w 0 spare held fuel E cs = some x → ∃ r : α, ∃ cs' : Array Value, cs = cs'.toList ∧ cs'.size = k ∧ rd w (.agg cs') r)
    {T fuel : Nat} {v : Value} {x : DataW H × List MemPlace} (hT : Tryz.prog.underlying T = some (.slice E)) (h : DataW.trod enc Tryz.prog w 0 spare held fuel T v.cells.toList = some x) (hv : ∃ a n c, v = .slice a n c) : ∃ l : List α, RowV k rd 0 w v l := by
  obtain ⟨a0, n0, c0, rfl⟩ := hv
  rcases open_slice hT h with ⟨hcs, _⟩ | ⟨a, n, c, m, k', D, Pl, hcs, _, hl, hm, hmm, _, hel⟩
  · simp [Value.cells] at hcs
    obtain ⟨rfl, rfl, rfl⟩ := hcs
    exact ⟨[], RowV.nil k rd 0 w⟩
  · simp [Value.cells] at hcs
    obtain ⟨rfl, rfl, rfl⟩ := hcs
    have hnm : n0 ≤ m := by rw [hmm]; split <;> omega
    rw [hsz] at hel
    have key : ∀ i, i < n0 → ∃ r : α, ∃ cs : Array Value, cs.size = k ∧ (∀ j, j < k → w.cell? ((a.add (i * k)).add j) = cs[j]?) ∧ rd w (.agg cs) r := fun i hi => by
      obtain ⟨cs', h1, h2⟩ := hel i (by omega)
      obtain ⟨r, cs, rfl, h3, h4⟩ := hop h2
      obtain ⟨_, h5, h6⟩ := World.cells?_some h1
      exact ⟨r, cs, h3, fun j hj => by rw [h6 j hj]; simp, h4⟩
    have hc : ∀ n', n' ≤ n0 → ∃ l : List α, l.length = n' ∧ ∀ i (h : i < l.length), ∃ cs : Array Value, cs.size = k ∧ (∀ j, j < k → w.cell? ((a.add (i * k)).add j) = cs[j]?) ∧ rd w (.agg cs) l[i] := by
      intro n'
      induction n' with
      | zero => intro _; exact ⟨[], rfl, fun i h => by simp at h⟩
      | succ n' ih =>
        intro hn
        obtain ⟨l, hl1, hl2⟩ := ih (by omega)
        obtain ⟨r, cs, k1, k2, k3⟩ := key n' (by omega)
        refine ⟨l ++ [r], by simp [hl1], fun i hi => ?_⟩
        rcases Nat.lt_or_ge i l.length with h' | h'
        · rw [List.getElem_append_left h']; exact hl2 i h'
        · have e : i = n' := by simp at hi; omega
          subst e
          refine ⟨cs, k1, k2, ?_⟩
          rw [List.getElem_append_right h']
          simpa [hl1] using k3
    obtain ⟨l, hl1, hl2⟩ := hc n0 (Nat.le_refl _)
    refine ⟨l, some a, c0, by rw [hl1], by omega, maxLen_le hm, fun h0 => ?_⟩
    obtain ⟨b, off, spot⟩ := a
    obtain ⟨cs, k1, k2, k3⟩ := hl2 0 h0
    have hs : spot = none := by
      have := k2 0 hk
      rw [Array.getElem?_eq_getElem (by omega)] at this
      simpa [Addr.add] using World.cell?_spot this
    subst hs
    refine ⟨b, off, rfl, Nat.zero_le _, fun j hj => ?_⟩
    obtain ⟨cs, k1, k2, k3⟩ := hl2 j hj
    refine ⟨cs, k1, fun i hi => ?_, k3⟩
    rw [← k2 i hi, addr_add, addr_add]
set_option maxRecDepth 100000 in
theorem open_zp {fuel : Nat} {cs : List Value} {x : DataW H × List MemPlace} (h : DataW.trod enc Tryz.prog w 0 spare held fuel 38 cs = some x) : ∃ r : RawI, ∃ cs' : Array Value, cs = cs'.toList ∧ cs'.size = 2 ∧ RawZ w (.agg cs') r := by
  obtain ⟨b, A, n, c, ds, rfl, hd⟩ := open_zraw h
  exact ⟨(b, ds), #[.bool b, .slice A n c], rfl, rfl, _, rfl, hd⟩
theorem open_zpoly {T fuel : Nat} {v : Value} {x : DataW H × List MemPlace} (hT : Tryz.prog.underlying T = some (.slice 38)) (h : DataW.trod enc Tryz.prog w 0 spare held fuel T v.cells.toList = some x) (hv : ∃ a n c, v = .slice a n c) : ∃ l : List RawI, ZPolyV w v l :=
  open_rows (by decide) (by kernel_rfl) (fun h => open_zp h) hT h hv
end
end Go.Proofs.YtedoifjbgokmcaaGreat
namespace Go.Hp
open Go.RowKit
theorem agg2 {cs : Array Value} {a b : Value} (e : Value.agg cs = .agg #[a, b]) : cs = #[a, b] := by injection e
def ZsV (base : Nat) (w : World) (v : Value) (l : List Int) : Prop := RowV 2 IsZ base w v l
def ZsAt (base : Nat) (w : World) (A : Option Addr) (l : List Int) : Prop := RowAt 2 IsZ base w A l
/-- A slice of integers in some form. -/
def HzV (base : Nat) (w : World) (v : Value) (l : List Int) : Prop := RowV 2 HasZ base w v l
def HzAt (base : Nat) (w : World) (A : Option Addr) (l : List Int) : Prop := RowAt 2 HasZ base w A l
theorem ZsV.ext {base : Nat} {w w' : World} {v : Value} {l : List Int} (h : ZsV base w v l) (e : Ext w w') : ZsV base w' v l := RowV.ext h e fun _ _ q => q.kd e.kd
theorem HzV.ext {base : Nat} {w w' : World} {v : Value} {l : List Int} (h : HzV base w v l) (e : Ext w w') : HzV base w' v l := RowV.ext h e fun _ _ q => q.kd e.kd
theorem ZsAt.ext {base : Nat} {w w' : World} {A : Option Addr} {l : List Int} (h : ZsAt base w A l) (e : Ext w w') : ZsAt base w' A l := RowAt.ext h e fun _ _ q => q.kd e.kd
theorem HzAt.ext {base : Nat} {w w' : World} {A : Option Addr} {l : List Int} (h : HzAt base w A l) (e : Ext w w') : HzAt base w' A l := RowAt.ext h e fun _ _ q => q.kd e.kd
theorem IsZ.ext_ {w w' : World} {v : Value} {x : Int} (h : IsZ w v x) (e : Ext w w') : IsZ w' v x := h.kd e.kd
theorem HasZ.cells {w : World} {v : Value} {x : Int} (h : HasZ w v x) : ∃ b A n c, v = .agg #[.bool b, .slice A n c] := by
  obtain ⟨b, A, n, c, N, e, _⟩ := h.form; exact ⟨b, A, n, c, e⟩
/-- The cells of the j-th element. -/
theorem HzAt.at_ {base : Nat} {w : World} {A : Option Addr} {l : List Int} (h : HzAt base w A l) {j : Nat} (hj : j < l.length) :
    ∃ g o b A1 n c, A = some ⟨g, o, none⟩ ∧ base ≤ g ∧ w.cell? ⟨g, o + j * 2, none⟩ = some (.bool b) ∧ w.cell? ⟨g, o + j * 2 + 1, none⟩ = some (.slice A1 n c) ∧ HasZ w (.agg #[.bool b, .slice A1 n c]) l[j] := by
  obtain ⟨g, o, ha, hb, hc⟩ := h (by omega)
  obtain ⟨cs, q1, q2, q3⟩ := hc j hj
  obtain ⟨b, A1, n, c, e⟩ := q3.cells
  obtain rfl := agg2 e
  exact ⟨g, o, b, A1, n, c, ha, hb, q2 0 (by omega), q2 1 (by omega), q3⟩
theorem ZsAt.at_ {base : Nat} {w : World} {A : Option Addr} {l : List Int} (h : ZsAt base w A l) {j : Nat} (hj : j < l.length) :
    ∃ g o b A1 n c, A = some ⟨g, o, none⟩ ∧ base ≤ g ∧ w.cell? ⟨g, o + j * 2, none⟩ = some (.bool b) ∧ w.cell? ⟨g, o + j * 2 + 1, none⟩ = some (.slice A1 n c) ∧ IsZ w (.agg #[.bool b, .slice A1 n c]) l[j] := by
  obtain ⟨g, o, ha, hb, hc⟩ := h (by omega)
  obtain ⟨cs, q1, q2, q3⟩ := hc j hj
  obtain ⟨b, A1, n, c, e⟩ := q3.cells
  obtain rfl := agg2 e
  exact ⟨g, o, b, A1, n, c, ha, hb, q2 0 (by omega), q2 1 (by omega), q3⟩
theorem HzV.at_ {base n c : Nat} {w : World} {A : Option Addr} {l : List Int} (h : HzV base w (.slice A n c) l) {j : Nat} (hj : j < l.length) :
    ∃ g o b A1 n1 c1, A = some ⟨g, o, none⟩ ∧ base ≤ g ∧ w.cell? ⟨g, o + j * 2, none⟩ = some (.bool b) ∧ w.cell? ⟨g, o + j * 2 + 1, none⟩ = some (.slice A1 n1 c1) ∧ HasZ w (.agg #[.bool b, .slice A1 n1 c1]) l[j] := by
  obtain ⟨A', c', e, _, _, hA⟩ := h
  have : A' = A := by injection e with h1; exact h1.symm
  subst this
  exact HzAt.at_ hA hj
theorem ZsV.at_ {base n c : Nat} {w : World} {A : Option Addr} {l : List Int} (h : ZsV base w (.slice A n c) l) {j : Nat} (hj : j < l.length) :
    ∃ g o b A1 n1 c1, A = some ⟨g, o, none⟩ ∧ base ≤ g ∧ w.cell? ⟨g, o + j * 2, none⟩ = some (.bool b) ∧ w.cell? ⟨g, o + j * 2 + 1, none⟩ = some (.slice A1 n1 c1) ∧ IsZ w (.agg #[.bool b, .slice A1 n1 c1]) l[j] := by
  obtain ⟨A', c', e, _, _, hA⟩ := h
  have : A' = A := by injection e with h1; exact h1.symm
  subst this
  exact ZsAt.at_ hA hj
theorem IsZ.two {w : World} {b : Bool} {A : Option Addr} {n c : Nat} {x : Int} (h : IsZ w (.agg #[.bool b, .slice A n c]) x) : n = sz x.natAbs ∧ b = decide (x < 0) := by
  obtain ⟨A', c', e, _⟩ := h.form
  have e := agg2 e
  simp only [Array.mk.injEq, List.cons.injEq, Value.bool.injEq, Value.slice.injEq, and_true] at e
  exact ⟨e.2.2.1, e.1⟩
theorem ZsV.has {base : Nat} {w : World} {v : Value} {l : List Int} (h : ZsV base w v l) (hs : ∀ x ∈ l, sz x.natAbs ≤ 1099511627776) : HzV 0 w v l := by
  obtain ⟨A, c, h1, h2, h3, h4⟩ := h
  refine ⟨A, c, h1, h2, h3, fun h0 => ?_⟩
  obtain ⟨g, o, q1, q2, q3⟩ := h4 h0
  refine ⟨g, o, q1, Nat.zero_le _, fun j hj => ?_⟩
  obtain ⟨cs, r1, r2, r3⟩ := q3 j hj
  exact ⟨cs, r1, r2, r3.has (hs _ (List.getElem_mem hj))⟩
theorem HzV.sz {base : Nat} {w : World} {v : Value} {l : List Int} (h : HzV base w v l) : ∀ x ∈ l, Hp.sz x.natAbs ≤ 1099511627776 := by
  obtain ⟨A, c, h1, h2, h3, h4⟩ := h
  intro q hq
  obtain ⟨i, hi, rfl⟩ := List.getElem_of_mem hq
  obtain ⟨g, o, q1, q2, q3⟩ := h4 (by omega)
  obtain ⟨cs, r1, r2, r3⟩ := q3 i hi
  exact r3.sz
theorem HzV.len {base : Nat} {w : World} {v : Value} {l : List Int} (h : HzV base w v l) : ∃ A c, v = .slice A l.length c := RowV.len h
/-! ### arrays of the call's own -/
def ZArr (w : World) (g : Nat) (t : TypeId) (l : List Int) : Prop :=
  ∃ cs, Box w g t cs ∧ l.length * 2 ≤ cs.size ∧ ∀ j (h : j < l.length), ∃ b A n c, cs[j * 2]? = some (.bool b) ∧ cs[j * 2 + 1]? = some (.slice A n c) ∧ IsZ w (.agg #[.bool b, .slice A n c]) l[j]
section
variable {w w' : World} {g : Nat} {t : TypeId} {l : List Int}
theorem ZArr.lt (h : ZArr w g t l) : g < w.heap.size := by obtain ⟨cs, h1, _⟩ := h; exact h1.lt
theorem ZArr.frozen (h : ZArr w g t l) (i : Nat) : w.frozen? ⟨g, i, none⟩ = false := by obtain ⟨cs, h1, _⟩ := h; exact h1.frozen i
theorem ZArr.ext (h : ZArr w g t l) (e : Ext w w') : ZArr w' g t l := by
  obtain ⟨cs, h1, h2, h3⟩ := h
  refine ⟨cs, h1.ext e, h2, fun j hj => ?_⟩
  obtain ⟨b, A, n, c, q0, q1, q⟩ := h3 j hj
  exact ⟨b, A, n, c, q0, q1, q.kd e.kd⟩
theorem ZArr.upd {G : List Nat} (h : ZArr w g t l) (U : Upd G w w') (hg : g ∉ G) : ZArr w' g t l := by
  obtain ⟨cs, h1, h2, h3⟩ := h
  refine ⟨cs, h1.upd U hg, h2, fun j hj => ?_⟩
  obtain ⟨b, A, n, c, q0, q1, q⟩ := h3 j hj
  exact ⟨b, A, n, c, q0, q1, q.kd U.kd⟩
theorem ZArr.at_ (h : ZArr w g t l) {j : Nat} (hj : j < l.length) :
    ∃ b A n c, w.cell? ⟨g, j * 2, none⟩ = some (.bool b) ∧ w.cell? ⟨g, j * 2 + 1, none⟩ = some (.slice A n c) ∧ IsZ w (.agg #[.bool b, .slice A n c]) l[j] := by
  obtain ⟨cs, h1, h2, h3⟩ := h
  obtain ⟨b, A, n, c, q0, q1, q⟩ := h3 j hj
  exact ⟨b, A, n, c, h1.cell q0, h1.cell q1, q⟩
theorem ZArr.put (h : ZArr w g t l) {k : Nat} (hk : k < l.length) {b : Bool} {A : Option Addr} {n c : Nat} {q : Int} (hq : IsZ w (.agg #[.bool b, .slice A n c]) q) :
    ∃ W, W = (w.setCell ⟨g, k * 2, none⟩ (.bool b)).setCell ⟨g, k * 2 + 1, none⟩ (.slice A n c) ∧ ZArr W g t (l.set k q) ∧ Upd [g] w W := by
  obtain ⟨cs, h1, h2, h3⟩ := h
  have B1 := h1.set_ (k * 2) (u := .bool b) rfl
  have B2 := B1.set_ (k * 2 + 1) (u := .slice A n c) rfl
  have U : Upd [g] w _ := (Upd.set_ h1.nodig (k * 2) (.bool b)).trans (Upd.set_ B1.nodig (k * 2 + 1) (.slice A n c))
  refine ⟨_, rfl, ⟨_, B2, by simpa using h2, fun j hj => ?_⟩, U⟩
  have hj' : j < l.length := by simpa using hj
  by_cases e : j = k
  · subst e
    refine ⟨b, A, n, c, ?_, ?_, ?_⟩
    · rw [Array.getElem?_setIfInBounds_ne (by omega), Array.getElem?_setIfInBounds, if_pos rfl, if_pos (by omega)]
    · rw [Array.getElem?_setIfInBounds, if_pos rfl, if_pos (by simp; omega)]
    · rw [List.getElem_set_self]
      exact hq.kd U.kd
  · obtain ⟨b, A, n, c, q0, q1, q⟩ := h3 j hj'
    refine ⟨b, A, n, c, ?_, ?_, ?_⟩
    · rw [Array.getElem?_setIfInBounds_ne (by omega), Array.getElem?_setIfInBounds_ne (by omega)]; exact q0
    · rw [Array.getElem?_setIfInBounds_ne (by omega), Array.getElem?_setIfInBounds_ne (by omega)]; exact q1
    · rw [List.getElem_set_ne (by omega)]; exact q.kd U.kd
theorem isZ_zero (w : World) : IsZ w (.agg #[.bool false, .slice none 0 0]) 0 :=
  ⟨false, [], ⟨_, rfl, none, 0, rfl, Nat.le_refl _, by omega, fun d hd => by simp at hd, fun h => by simp at h⟩, rfl, fun h => by simp at h, fun h => by cases h⟩
theorem ZArr.new (w : World) (t : TypeId) (n : Nat) : ZArr (w.alloc (.cells (madeCells #[.bool false, .slice none 0 0] (n * 2)) t)) w.heap.size t (List.replicate n 0) := by
  have key : ∀ j i v, j < n → i < 2 → #[Value.bool false, .slice none 0 0][i]? = some v → (madeCells #[Value.bool false, .slice none 0 0] (n * 2))[j * 2 + i]? = some v := by
    intro j i v hj hi hv
    rw [Array.getElem?_eq_getElem (by rw [size_madeCells]; omega)]
    simp only [madeCells, Array.getElem_map, Array.getElem_range]
    rw [show (j * 2 + i) % #[Value.bool false, .slice none 0 0].size = i from by show (j * 2 + i) % 2 = i; omega]
    match i, hi with
    | 0, _ => exact hv
    | 1, _ => exact hv
  refine ⟨_, Box.new w t _ ?_, by rw [size_madeCells, List.length_replicate]; exact Nat.le_refl _, fun j hj => ?_⟩
  · rw [Array.all_eq_true]
    intro i hi
    have hi' : i < n * 2 := by rw [size_madeCells] at hi; exact hi
    have hs := Array.getElem?_eq_getElem hi
    generalize (madeCells #[Value.bool false, Value.slice none 0 0] (n * 2))[i] = u at *
    have h4 : i % 2 = 0 ∨ i % 2 = 1 := by omega
    rcases h4 with h | h
    · have := key (i / 2) 0 _ (by omega) (by omega) rfl
      rw [show i / 2 * 2 + 0 = i from by omega, hs] at this; cases this; rfl
    · have := key (i / 2) 1 _ (by omega) (by omega) rfl
      rw [show i / 2 * 2 + 1 = i from by omega, hs] at this; cases this; rfl
  · have hj' : j < n := by simpa using hj
    refine ⟨false, none, 0, 0, key j 0 _ hj' (by omega) rfl, key j 1 _ hj' (by omega) rfl, ?_⟩
    rw [List.getElem_replicate]; exact isZ_zero _
/-- An array is a row. -/
theorem ZArr.row (h : ZArr w g t l) {base : Nat} (hb : base ≤ g) : ZsAt base w (some ⟨g, 0, none⟩) l := fun _ => by
  obtain ⟨cs, h1, h2, h3⟩ := h
  refine ⟨g, 0, rfl, hb, fun j hj => ?_⟩
  obtain ⟨b, A, n, c, q0, q1, q⟩ := h3 j hj
  refine ⟨_, rfl, ?_, q⟩
  intro i hi
  match i, hi with
  | 0, _ => simpa using h1.cell q0
  | 1, _ => simpa using h1.cell q1
theorem ZArr.pre (h : ZArr w g t l) (n : Nat) : ZArr w g t (l.take n) := by
  obtain ⟨cs, h1, h2, h3⟩ := h
  have hl : (l.take n).length ≤ l.length := List.length_take_le' _ _
  refine ⟨cs, h1, by omega, fun j hj => ?_⟩
  have := h3 j (by omega)
  rw [List.getElem_take]; exact this
end
/-! ### rows that are appended to -/
/-- A new element of integers. -/
def NewZ (w : World) (v : Value) (base : Nat) (q : Int) (t : TypeId) : Prop := NewEl 2 IsZ w v base q t
theorem NewZ.ext {w w' : World} {v : Value} {base : Nat} {q : Int} {t : TypeId} (h : NewZ w v base q t) (e : Ext w w') : NewZ w' v base q t := NewEl.ext h e fun _ _ h => h.kd e.kd
theorem NewZ.mk {w : World} {b : Bool} {A : Option Addr} {n c : Nat} {q : Int} (h : IsZ w (.agg #[.bool b, .slice A n c]) q) {base : Nat} (hb : base ≤ w.heap.size) (t : TypeId) :
    NewZ (w.alloc (.cells #[.bool b, .slice A n c] t)) (.slice (some ⟨w.heap.size, 0, none⟩) 1 1) base q t :=
  ⟨_, _, rfl, hb, Box.new w t _ (by simp [isDig]), rfl, h.kd ((Ext.refl w).alloc _).kd⟩
theorem IsZ.one {w : World} {cs : Array Value} {q : Int} (h : IsZ w (.agg cs) q) : (∀ u ∈ cs.toList, u.oneCell' = true) ∧ nodig cs = true ∧ cs.size = 2 := by
  obtain ⟨b, A, n, c, e⟩ := h.cells
  obtain rfl := agg2 e
  refine ⟨fun u hu => ?_, by simp [nodig, isDig], rfl⟩
  simp at hu
  rcases hu with rfl | rfl <;> rfl
theorem IsZ.el {w : World} {v : Value} {q : Int} (h : IsZ w v q) {p : Prop} (k : ∀ b A n c, v = .agg #[.bool b, .slice A n c] → IsZ w (.agg #[.bool b, .slice A n c]) q → p) : p := by
  obtain ⟨b, A, n, c, e⟩ := h.cells
  exact k b A n c e (e ▸ h)
/-- A row of integers of the call's own. -/
def OwnZ (base : Nat) (e : TypeId) (w : World) (v : Value) (l : List Int) : Prop := OwnR 2 IsZ base e w v l
theorem OwnZ.ext {base : Nat} {e : TypeId} {w w' : World} {v : Value} {l : List Int} (h : OwnZ base e w v l) (x : Ext w w') : OwnZ base e w' v l := OwnR.ext h x fun _ _ q => q.kd x.kd
theorem OwnZ.upd {base : Nat} {e : TypeId} {w w' : World} {v : Value} {l : List Int} {G : List Nat} (h : OwnZ base e w v l) (U : Upd G w w') (hg : ∀ g ∈ G, g < base) : OwnZ base e w' v l :=
  OwnR.upd h U (fun g hb hG => by have := hg g hG; have := (OwnR.blk_ge h g hb).1; omega) fun _ _ q => q.kd U.kd
theorem OwnZ.row {base : Nat} {e : TypeId} {w : World} {v : Value} {l : List Int} (h : OwnZ base e w v l) : ZsV base w v l := OwnR.row h
theorem OwnZ.from_ {base : Nat} {e : TypeId} {a w w' : World} {v : Value} {l : List Int} (h : OwnZ base e w v l) (U : Upd (blk v) w w') (x : Ext a w) (hb : a.heap.size ≤ base) : Ext a w' :=
  U.from_ x fun g hg => Nat.le_trans hb (OwnR.blk_ge h g hg).1
theorem OwnZ.box {base : Nat} {e t : TypeId} {w w' : World} {v : Value} {l : List Int} {g : Nat} {cs : Array Value} (h : OwnZ base e w v l) (U : Upd (blk v) w w') (b : Box w g t cs) (hb : g < base) : Box w' g t cs :=
  b.upd U fun hg => by have := (OwnR.blk_ge h g hg).1; omega
theorem NewZ.own {w : World} {v : Value} {base : Nat} {q : Int} {t : TypeId} (h : NewZ w v base q t) : OwnZ base t w v [q] := by
  obtain ⟨g, cs, rfl, h1, h2, h3, h4⟩ := h
  refine ⟨[cs], rfl, fun c hc => by simp at hc; subst hc; exact h3, ⟨by simp [h3], .inr ⟨g, 1, cs, rfl, h1, h2, Nat.le_refl _, by decide, by simp [h3], ?_⟩⟩, fun j hj hj' => ?_⟩
  · simp [List.take_of_length_le, h3]
  · have : j = 0 := by simpa using hj
    subst this; exact h4
/-! ### polynomials -/
def zq (l : List Int) : List Rat := l.map fun (n : Int) => (n : Rat)
theorem zq_len (l : List Int) : (zq l).length = l.length := by simp [zq]
theorem zq_get {l : List Int} {i : Nat} (h : i < l.length) : (zq l)[i]'(by rw [zq_len]; exact h) = (l[i] : Rat) := by simp [zq]
theorem zq_take (l : List Int) (n : Nat) : zq (l.take n) = (zq l).take n := by simp [zq]
theorem int_cast_inj {a b : Int} (h : (a : Rat) = (b : Rat)) : a = b := by simpa using congrArg Rat.num h
theorem zq_inj {l m : List Int} (h : zq l = zq m) : l = m := by
  apply List.ext_getElem (by rw [← zq_len, h, zq_len])
  intro i h1 h2
  apply int_cast_inj
  rw [← zq_get h1, ← zq_get h2]
  simp only [h]
/-- The coefficients of a list of integers. -/
def cz (l : List Int) : Nat → Rat := co (zq l)
theorem cz_lt {l : List Int} {i : Nat} (h : i < l.length) : cz l i = (l[i] : Rat) := by unfold cz; rw [co_lt (by rw [zq_len]; exact h), zq_get h]
theorem cz_ge {l : List Int} {i : Nat} (h : l.length ≤ i) : cz l i = 0 := co_ge (by rw [zq_len]; exact h)
theorem cz_sup (l : List Int) : Sup l.length (cz l) := fun _ h => cz_ge h
theorem Fin_.cz (l : List Int) : Fin_ (cz l) := ⟨_, cz_sup l⟩
theorem qsz_cast (n : Int) : qsz (n : Rat) = max (sz n.natAbs) 1 := by unfold qsz; simp; rfl
theorem cz_qsz {l : List Int} {s : Nat} (h : ∀ x ∈ l, sz x.natAbs ≤ s) (hs : 1 ≤ s) (i : Nat) : qsz (cz l i) ≤ s := by
  rcases Nat.lt_or_ge i l.length with hi | hi
  · rw [cz_lt hi, qsz_cast]; have := h _ (List.getElem_mem hi); omega
  · rw [cz_ge hi]; exact hs
/-- All values integers. -/
def ZI (F : Nat → Rat) : Prop := ∀ i, ∃ n : Int, F i = (n : Rat)
theorem ZI.cz (l : List Int) : ZI (cz l) := fun i => by
  rcases Nat.lt_or_ge i l.length with hi | hi
  · exact ⟨_, cz_lt hi⟩
  · exact ⟨0, by rw [cz_ge hi]; rfl⟩
theorem ZI.num {F : Nat → Rat} (h : ZI F) (i : Nat) : F i = ((F i).num : Rat) := by obtain ⟨n, e⟩ := h i; rw [e]; rfl
/-- The list of the first n values. -/
def lzf (n : Nat) (F : Nat → Rat) : List Int := (List.range n).map fun i => (F i).num
theorem lzf_len (n : Nat) (F : Nat → Rat) : (lzf n F).length = n := by simp [lzf]
theorem cz_lzf {n : Nat} {F : Nat → Rat} (h : ZI F) (hs : Sup n F) : cz (lzf n F) = F := by
  funext i
  rcases Nat.lt_or_ge i n with hi | hi
  · rw [cz_lt (by rw [lzf_len]; exact hi)]; simp only [lzf, List.getElem_map, List.getElem_range]; exact (h.num i).symm
  · rw [cz_ge (by rw [lzf_len]; exact hi), hs i hi]
/-- Without the zeros at the end. -/
def trimZ (l : List Int) : List Int := l.take (trimR (zq l)).length
theorem zq_trimZ (l : List Int) : zq (trimZ l) = trimR (zq l) := by unfold trimZ; rw [zq_take]; exact (trimR_prefix _).symm
theorem trimZ_len (l : List Int) : (trimZ l).length = (trimR (zq l)).length := by rw [← zq_len, zq_trimZ]
theorem trimZ_le (l : List Int) : (trimR (zq l)).length ≤ l.length := by have := trimR_len (zq l); rw [zq_len] at this; exact this
/-- v reads, in w, as the normal form of the polynomial F over the integers; its coefficients lie in blocks from base on. -/
def IsZP (base : Nat) (w : World) (v : Value) (F : Nat → Rat) : Prop := ∃ l, ZsV base w v l ∧ TopR (zq l) ∧ cz l = F
theorem IsZP.ext {base : Nat} {w w' : World} {v : Value} {F : Nat → Rat} (h : IsZP base w v F) (e : Ext w w') : IsZP base w' v F := by
  obtain ⟨l, h1, h2, h3⟩ := h; exact ⟨l, h1.ext e, h2, h3⟩
theorem IsZP.base_le {base b : Nat} {w : World} {v : Value} {F : Nat → Rat} (h : IsZP base w v F) (hb : b ≤ base) : IsZP b w v F := by
  obtain ⟨l, h1, h2, h3⟩ := h; exact ⟨l, RowV.base_le h1 hb, h2, h3⟩
theorem IsZP.fin {base : Nat} {w : World} {v : Value} {F : Nat → Rat} (h : IsZP base w v F) : Fin_ F := by
  obtain ⟨l, _, _, rfl⟩ := h; exact Fin_.cz l
theorem IsZP.form {base : Nat} {w : World} {v : Value} {F : Nat → Rat} (h : IsZP base w v F) : ∃ A c l, v = .slice A (pl F) c ∧ pl F ≤ c ∧ c ≤ 9223372036854775807 ∧ ZsAt base w A l ∧ l.length = pl F ∧ TopR (zq l) ∧ cz l = F := by
  obtain ⟨l, ⟨A, c, h1, h2, h3, h4⟩, h5, rfl⟩ := h
  have := h5.pl
  rw [zq_len] at this
  exact ⟨A, c, l, by unfold cz; rw [this]; exact h1, by unfold cz; omega, h3, h4, this.symm, h5, rfl⟩
theorem IsZP.shape {base : Nat} {w : World} {v : Value} {F : Nat → Rat} (h : IsZP base w v F) : ∃ A c, v = .slice A (pl F) c ∧ pl F ≤ c ∧ c ≤ 9223372036854775807 := by
  obtain ⟨A, c, l, h1, h2, h3, _⟩ := h.form; exact ⟨A, c, h1, h2, h3⟩
theorem IsZP.zs {base : Nat} {w : World} {v : Value} {F : Nat → Rat} (h : IsZP base w v F) : ∃ l, ZsV base w v l ∧ l.length = pl F ∧ TopR (zq l) ∧ cz l = F := by
  obtain ⟨l, h1, h5, rfl⟩ := h
  exact ⟨l, h1, by have := h5.pl; rw [zq_len] at this; exact this.symm, h5, rfl⟩
theorem IsZP.hz {base : Nat} {w : World} {v : Value} {F : Nat → Rat} (h : IsZP base w v F) (hs : ∀ i, qsz (F i) ≤ 1099511627776) : ∃ l, HzV 0 w v l ∧ l.length = pl F ∧ TopR (zq l) ∧ cz l = F := by
  obtain ⟨l, h1, h2, h3, rfl⟩ := h.zs
  exact ⟨l, h1.has (fun q hq => by
    obtain ⟨i, hi, rfl⟩ := List.getElem_of_mem hq
    have := hs i; rw [cz_lt hi, qsz_cast] at this; omega), h2, h3, rfl⟩
theorem IsZP.of_trim {base : Nat} {w : World} {v : Value} {l : List Int} {F : Nat → Rat} (h : ZsV base w v (trimZ l)) (e : cz l = F) : IsZP base w v F :=
  ⟨_, h, by rw [zq_trimZ]; exact topR_trim _, by unfold cz; rw [zq_trimZ, co_trimR]; exact e⟩
theorem IsZP.nil (base : Nat) (w : World) : IsZP base w (.slice none 0 0) pz := ⟨[], RowV.nil 2 IsZ base w, fun h => absurd h (by simp [zq]), co_nil⟩
theorem IsZP.empty (base : Nat) (w : World) (A : Option Addr) (c : Nat) (hc : c ≤ 9223372036854775807) : IsZP base w (.slice A 0 c) pz :=
  ⟨[], ⟨A, c, rfl, Nat.zero_le _, hc, fun h => absurd h (by simp)⟩, fun h => absurd h (by simp [zq]), co_nil⟩
theorem zs_uniq {l m : List Int} (h : TopR (zq l)) (k : TopR (zq m)) (e : cz l = cz m) : l = m := zq_inj (h.uniq k e)
end Go.Hp
namespace Go.Hp
open Go.RowKit
/-- A box with an integer. -/
def BoxZ (w : World) (g : Nat) (t : TypeId) (x : Int) : Prop := ∃ b A n c, Box w g t #[.bool b, .slice A n c] ∧ IsZ w (.agg #[.bool b, .slice A n c]) x
theorem BoxZ.ext {w w' : World} {g : Nat} {t : TypeId} {x : Int} (h : BoxZ w g t x) (e : Ext w w') : BoxZ w' g t x := by
  obtain ⟨b, A, n, c, h1, h2⟩ := h; exact ⟨b, A, n, c, h1.ext e, h2.kd e.kd⟩
theorem BoxZ.lt {w : World} {g : Nat} {t : TypeId} {x : Int} (h : BoxZ w g t x) : g < w.heap.size := by obtain ⟨b, A, n, c, h1, h2⟩ := h; exact h1.lt
theorem BoxZ.upd {w w' : World} {g : Nat} {t : TypeId} {x : Int} {G : List Nat} (h : BoxZ w g t x) (U : Upd G w w') (hg : g ∉ G) : BoxZ w' g t x := by
  obtain ⟨b, A, n, c, h1, h2⟩ := h; exact ⟨b, A, n, c, h1.upd U hg, h2.kd U.kd⟩
theorem BoxZ.mk {w : World} {g : Nat} {t : TypeId} {x : Int} {b : Bool} {A : Option Addr} {n c : Nat} (h : Box w g t #[.bool b, .slice A n c]) (k : IsZ w (.agg #[.bool b, .slice A n c]) x) : BoxZ w g t x := ⟨b, A, n, c, h, k⟩
theorem BoxZ.zero {w : World} {g : Nat} {t : TypeId} (h : Box w g t #[.bool false, .slice none 0 0]) : BoxZ w g t 0 := ⟨_, _, _, _, h, isZ_zero w⟩
/-- The greatest common divisor of the first n values. -/
def ct : Nat → (Nat → Rat) → Nat
  | 0, _ => 0
  | n + 1, F => Int.gcd (ct n F) (F n).num
theorem ct_succ (n : Nat) (F : Nat → Rat) : ct (n + 1) F = Int.gcd (ct n F) (F n).num := rfl
theorem ct_dvd (F : Nat → Rat) : ∀ n i, i < n → (ct n F : Int) ∣ (F i).num
  | n + 1, i, h => by
    rw [ct_succ]
    rcases Nat.lt_or_ge i n with l | l
    · exact Int.dvd_trans (Int.gcd_dvd_left _ _) (ct_dvd F n i l)
    · obtain rfl : i = n := by omega
      exact Int.gcd_dvd_right _ _
theorem dvd_ct {F : Nat → Rat} {d : Int} : ∀ {n : Nat}, (∀ i, i < n → d ∣ (F i).num) → d ∣ (ct n F : Int)
  | 0, _ => ⟨0, by show ((0 : Nat) : Int) = _; simp⟩
  | n + 1, h => by rw [ct_succ]; exact Int.dvd_coe_gcd (dvd_ct fun i hi => h i (by omega)) (h n (by omega))
theorem ct_sup {F : Nat → Rat} {n m : Nat} (h : Sup n F) (k : n ≤ m) : ct m F = ct n F := by
  induction m with
  | zero =>
    obtain rfl : n = 0 := by omega
    rfl
  | succ m ih =>
    rcases Nat.eq_or_lt_of_le k with e | e
    · rw [e]
    · rw [ct_succ, h m (by omega), ih (by omega)]; simp
/-- The content. -/
noncomputable def cn (F : Nat → Rat) : Nat := ct (pl F) F
theorem cn_eq {F : Nat → Rat} {n : Nat} (h : Sup n F) : cn F = ct n F := (ct_sup (pl_sup ⟨n, h⟩) (pl_le h)).symm
theorem cn_dvd {F : Nat → Rat} (h : Fin_ F) (i : Nat) : (cn F : Int) ∣ (F i).num := by
  rcases Nat.lt_or_ge i (pl F) with l | l
  · exact ct_dvd F _ i l
  · rw [pl_sup h i l]; exact ⟨0, by simp⟩
theorem dvd_cn {F : Nat → Rat} {d : Int} (h : ∀ i, d ∣ (F i).num) : d ∣ (cn F : Int) := dvd_ct fun i _ => h i
theorem cn_pz : cn pz = 0 := by unfold cn; rw [pl_pz]; rfl
theorem cn_ne {F : Nat → Rat} (hz : ZI F) (h : Fin_ F) (h0 : F ≠ pz) : cn F ≠ 0 := fun e => h0 (by
  funext i
  have := cn_dvd h i
  rw [e] at this
  have h1 : (F i).num = 0 := by simpa using this
  rw [hz.num i, h1]; rfl)
theorem cn_sz {F : Nat → Rat} {s : Nat} (h : ∀ i, qsz (F i) ≤ s) (n : Nat) : sz (ct n F) ≤ s := by
  induction n with
  | zero => show sz 0 ≤ s; rw [sz_zero]; exact Nat.zero_le _
  | succ n ih =>
    rw [ct_succ]
    by_cases h0 : ct n F = 0
    · rw [h0]
      have := h n
      unfold qsz at this
      have e : Int.gcd ((0 : Nat) : Int) (F n).num = (F n).num.natAbs := by simp
      rw [e]; omega
    · refine Nat.le_trans (sz_mono ?_) ih
      exact Nat.le_of_dvd (by omega) (by have := Int.gcd_dvd_left (ct n F : Int) (F n).num; exact Int.natCast_dvd_natCast.1 this)
/-- The content with the sign of the leading coefficient. -/
noncomputable def pcn (F : Nat → Rat) : Int := if ld F < 0 then -(cn F : Int) else cn F
theorem pcn_dvd {F : Nat → Rat} (h : Fin_ F) (i : Nat) : pcn F ∣ (F i).num := by
  unfold pcn; split
  · exact Int.neg_dvd.2 (cn_dvd h i)
  · exact cn_dvd h i
theorem pcn_abs (F : Nat → Rat) : (pcn F).natAbs = cn F := by unfold pcn; split <;> simp
theorem pcn_ne {F : Nat → Rat} (hz : ZI F) (h : Fin_ F) (h0 : F ≠ pz) : pcn F ≠ 0 := fun e => cn_ne hz h h0 (by rw [← pcn_abs, e]; rfl)
/-- The primitive polynomial. -/
noncomputable def pp (F : Nat → Rat) : Nat → Rat := psc (1 / (pcn F : Rat)) F
theorem pp_pz : pp pz = pz := psc_pz _
theorem pp_at {F : Nat → Rat} (hz : ZI F) (h : Fin_ F) (h0 : F ≠ pz) (i : Nat) : pp F i = (((F i).num / pcn F : Int) : Rat) := by
  obtain ⟨k, hk⟩ := pcn_dvd h i
  have hp := pcn_ne hz h h0
  have hp' : (pcn F : Rat) ≠ 0 := fun e => hp (by exact_mod_cast e)
  rw [hk, Int.mul_ediv_cancel_left _ hp]
  show 1 / (pcn F : Rat) * F i = _
  rw [hz.num i, hk, Rat.intCast_mul]
  grind
theorem pp_zi {F : Nat → Rat} (hz : ZI F) (h : Fin_ F) : ZI (pp F) := by
  by_cases h0 : F = pz
  · rw [h0, pp_pz]; intro i; exact ⟨0, rfl⟩
  · intro i; exact ⟨_, pp_at hz h h0 i⟩
theorem pp_fin {F : Nat → Rat} (h : Fin_ F) : Fin_ (pp F) := h.psc _
theorem pp_pl {F : Nat → Rat} (hz : ZI F) (h : Fin_ F) : pl (pp F) = pl F := by
  by_cases h0 : F = pz
  · rw [h0, pp_pz]
  · have hp' : (pcn F : Rat) ≠ 0 := fun e => pcn_ne hz h h0 (by exact_mod_cast e)
    exact pl_psc (inv_ne hp') h
theorem sz_ediv {x y : Int} (hy : y ∣ x) : sz (x / y).natAbs ≤ sz x.natAbs := by
  obtain ⟨k, rfl⟩ := hy
  by_cases h : y = 0
  · subst h; simp
  · rw [Int.mul_ediv_cancel_left _ h, Int.natAbs_mul]
    exact sz_mono (Nat.le_mul_of_pos_left _ (by omega))
theorem pp_qsz {F : Nat → Rat} (hz : ZI F) (h : Fin_ F) {s : Nat} (hs : ∀ i, qsz (F i) ≤ s) (i : Nat) : qsz (pp F i) ≤ s := by
  by_cases h0 : F = pz
  · rw [h0, pp_pz]; have := hs 0; rw [h0] at this; exact this
  · rw [pp_at hz h h0, qsz_cast]
    have h1 := sz_ediv (pcn_dvd h i)
    have h2 := hs i
    have h3 := qsz_pos (F i)
    unfold qsz at h2 h3
    have : sz 1 = 1 := by decide
    have : 1 ≤ s := by have := hs i; have := qsz_pos (F i); omega
    omega
theorem lzf_get {n i : Nat} (F : Nat → Rat) (h : i < (lzf n F).length) : (lzf n F)[i] = (F i).num := by simp [lzf]
end Go.Hp
namespace Go.Hp
open Go.RowKit
/-- The integer that a raw one stands for. -/
def zOf (x : RawI) : Int := iv x.1 x.2
theorem RawZ.has {w : World} {v : Value} {x : RawI} (h : RawZ w v x) (hs : x.2.length ≤ 1099511627776) : HasZ w v (zOf x) ∧ sz (zOf x).natAbs ≤ x.2.length := by
  have h' := h
  obtain ⟨s, rfl, hd⟩ := h'
  refine ⟨⟨x.1, x.2, h, rfl, hs⟩, ?_⟩
  have := sz_dig hd
  unfold zOf; rw [iv_abs]; exact this
theorem ZPolyV.len {w : World} {v : Value} {l : List RawI} (h : ZPolyV w v l) : ∃ A c, v = .slice A l.length c ∧ l.length ≤ c ∧ c ≤ 9223372036854775807 := by
  obtain ⟨A, c, h1, h2, h3, h4⟩ := h; exact ⟨A, c, h1, h2, h3⟩
theorem ZPolyV.at_ {w : World} {A : Option Addr} {n c : Nat} {l : List RawI} (h : ZPolyV w (.slice A n c) l) {j : Nat} (hj : j < l.length) :
    ∃ g o A1 c, A = some ⟨g, o, none⟩ ∧ w.cell? ⟨g, o + j * 2, none⟩ = some (.bool l[j].1) ∧ w.cell? ⟨g, o + j * 2 + 1, none⟩ = some (.slice A1 l[j].2.length c) ∧ RawZ w (.agg #[.bool l[j].1, .slice A1 l[j].2.length c]) l[j] := by
  obtain ⟨A', c', e1, h2, h3, h4⟩ := h
  have e5 : A' = A := by injection e1 with h1; exact h1.symm
  subst e5
  obtain ⟨g, o, q1, q2, q3⟩ := h4 (by omega)
  obtain ⟨cs, r1, r2, r3⟩ := q3 j hj
  have hr := r3
  obtain ⟨s, e, A1, c1, e2, k⟩ := r3
  subst e2
  have e := agg2 e
  subst e
  exact ⟨g, o, A1, c1, q1, r2 0 (by omega), r2 1 (by omega), hr⟩
theorem ZPolyV.has {w : World} {v : Value} {l : List RawI} {d : Nat} (h : ZPolyV w v l) (hs : ∀ x ∈ l, x.2.length ≤ d) (hd : d ≤ 1099511627776 := by omega) : HzV 0 w v (l.map zOf) ∧ ∀ x ∈ l.map zOf, sz x.natAbs ≤ d := by
  obtain ⟨A, c, h1, h2, h3, h4⟩ := h
  have key : ∀ j (hj : j < l.length), ∃ cs : Array Value, cs.size = 2 ∧ RawZ w (.agg cs) l[j] := fun j hj => by
    obtain ⟨g, o, q1, q2, q3⟩ := h4 (by omega)
    obtain ⟨cs, r1, r2, r3⟩ := q3 j hj
    exact ⟨cs, r1, r3⟩
  refine ⟨⟨A, c, by simpa using h1, by simpa using h2, h3, fun h0 => ?_⟩, fun x hx => ?_⟩
  · obtain ⟨g, o, q1, q2, q3⟩ := h4 (by simpa using h0)
    refine ⟨g, o, q1, q2, fun j hj => ?_⟩
    have hj' : j < l.length := by simpa using hj
    obtain ⟨cs, r1, r2, r3⟩ := q3 j hj'
    refine ⟨cs, r1, r2, ?_⟩
    rw [List.getElem_map]
    exact (r3.has (Nat.le_trans (hs _ (List.getElem_mem hj')) hd)).1
  · obtain ⟨y, hy, rfl⟩ := List.mem_map.1 hx
    obtain ⟨j, hj, rfl⟩ := List.getElem_of_mem hy
    obtain ⟨cs, -, r3⟩ := key j hj
    have := hs _ (List.getElem_mem hj)
    exact Nat.le_trans (r3.has (by omega)).2 this
theorem ZPolyV.qsz {w : World} {v : Value} {l : List RawI} {d : Nat} (h : ZPolyV w v l) (hs : ∀ x ∈ l, x.2.length ≤ d) (hd : d ≤ 1099511627776 := by omega) (h1 : 1 ≤ d := by omega) (i : Nat) : qsz (cz (l.map zOf) i) ≤ d := cz_qsz (h.has hs hd).2 h1 i
end Go.Hp
namespace Go.Hp
open Go.RowKit
theorem ZsV.trim {base : Nat} {w : World} {A : Option Addr} {l : List Int} (h : ZsAt base w A l) {c : Nat} (hl : l.length ≤ c) (hc : c ≤ 9223372036854775807 := by omega) : ZsV base w (.slice A (trimR (zq l)).length c) (trimZ l) := by
  refine ⟨A, c, by rw [trimZ_len], by rw [trimZ_len]; have := trimZ_le l; omega, hc, RowAt.take h _⟩
theorem trimZ_take {l : List Int} {m : Nat} (hm : m ≤ l.length) (hz : ∀ j, m ≤ j → (h : j < l.length) → l[j] = 0) (hlast : ∀ h : m - 1 < l.length, 0 < m → l[m - 1] ≠ 0) : (trimR (zq l)).length = m := by
  have := trimR_take (l := zq l) (m := m) (by rw [zq_len]; exact hm) (fun j h1 h2 => by rw [zq_len] at h2; rw [zq_get h2, hz j h1 h2]; rfl) (fun h h0 => by
    rw [zq_len] at h; rw [zq_get h]; intro e; exact hlast h h0 (by exact_mod_cast e))
  rw [this, List.length_take, zq_len]; omega
theorem ZArr.isZP {base : Nat} {w : World} {g : Nat} {t : TypeId} {l : List Int} {F : Nat → Rat} (h : ZArr w g t l) (hF : cz l = F) (hb : base ≤ g) {c : Nat} (hc : l.length ≤ c) (hm : c ≤ 9223372036854775807) : IsZP base w (.slice (some ⟨g, 0, none⟩) (trimR (zq l)).length c) F :=
  IsZP.of_trim (ZsV.trim (h.row hb) hc hm) hF
end Go.Hp
namespace Go.Proofs.YtedoifjbgokmcaaGreat
open Go.RowKit Go.Hp
set_option maxHeartbeats 400000 in
/-- zpoly.trimmed: without the zeros at the end, in place. -/
theorem trimmed_zs (base : Nat) (A : Option Addr) (c : Nat) (l : List Int) (w : World) (hl : l.length ≤ c) (hc : c ≤ 9223372036854775807) (hA : ZsAt base w A l) :
    Calls Tryz.prog 134 #[.slice A l.length c] w fun e w' => e = .returned (.slice A (trimR (zq l)).length c) ∧ w = w' := by
  go_enter Tryz.func134, Tryz.ntmps134
  go_wp2
  go_loop [0] (fun v => ∃ m : Nat, m ≤ l.length ∧ v = .slice A m c ∧ ∀ j, m ≤ j → (h : j < l.length) → l[j] = 0) (fun v => match v with | .slice _ m _ => m | _ => 0)
  case atStart => exact ⟨l.length, Nat.le_refl _, rfl, fun j h1 h2 => by omega⟩
  case round =>
    obtain ⟨m, hm, rfl, hz⟩ := hrel
    by_cases h0 : 0 < m
    · obtain ⟨m, rfl⟩ : ∃ k, m = k + 1 := ⟨m - 1, by omega⟩
      obtain ⟨g, o, b, A1, n, c1, rfl, hb, q0, q1, hq⟩ := hA.at_ (j := m) (by omega)
      have hn := hq.two.1
      by_cases hd0 : l[m]'(by omega) = 0
      · have hb : (((n : Nat) : Int) == 0) = true := by rw [hn, hd0]; rfl
        clear hA hn
        go_wp2
        go_round
        case rel => exact ⟨m, by omega, rfl, fun j h1 h2 => by
          rcases Nat.eq_or_lt_of_le h1 with e | e
          · subst e; exact hd0
          · exact hz j (by omega) h2⟩
        case measure => simp
      · have hb : (((n : Nat) : Int) == 0) = false := by
          have := sz_pos (n := l[m].natAbs) (by omega)
          rw [← hn] at this; simp; omega
        clear hA hn
        go_wp2
        go_ret
        have hlen := trimZ_take hm hz (fun h _ => by simpa using hd0)
        exact ⟨by rw [hlen]; rfl, rfl⟩
    · obtain rfl : m = 0 := by omega
      go_wp2
      go_ret
      have hlen := trimZ_take hm hz (fun h hh => by omega)
      exact ⟨by rw [hlen]; rfl, rfl⟩
theorem info_int : (Tryz.prog.info? 38).map (fun i => (i.zero, i.size, i.bytes)) = some (some (.agg #[.bool false, .slice none 0 0]), 2, 32) := by kernel_rfl
/-- A new array of n integers. -/
theorem make_zs (n : Nat) (x : Int) (hx : x = n) (hn : n ≤ 1099511627776) (w : World) : ∃ W, (Instr.makeSlice 64 (.int .i64 x) (.int .i64 x)).run Tryz.prog w = .ok (.slice (some ⟨w.heap.size, 0, none⟩) n n) W ∧ ZArr W w.heap.size 38 (List.replicate n 0) ∧ Ext w W := by
  subst hx
  obtain ⟨i0, hi, hz0, hz1, hz2⟩ := info_parts info_int
  have h := run_make (P := Tryz.prog) w 64 38 i0 (.agg #[.bool false, .slice none 0 0]) Tryz.underlying64 hi hz0 .i64 .i64 (n : Int) (n : Int) (by omega) (by omega) (by rw [hz2]; omega) (by omega)
  rw [h, hz1, Int.toNat_natCast]
  exact ⟨_, rfl, ZArr.new w _ n, (Ext.refl w).alloc _⟩
/-- An array of which the first k places are set. -/
theorem set_z {la m : List Int} {k n : Nat} (h : la = m.take k ++ List.replicate (n - k) 0) (hk : k < n) (hm : m.length = n) {q : Int} (hq : q = m[k]'(by omega)) : la.set k q = m.take (k + 1) ++ List.replicate (n - (k + 1)) 0 := by
  subst h
  have h1 : (m.take k).length = k := by simp; omega
  rw [List.set_append, if_neg (by rw [h1]; omega), h1, Nat.sub_self, show n - k = (n - (k + 1)) + 1 from by omega, List.replicate_succ, List.set_cons_zero, List.take_succ_eq_append_getElem (by omega), hq, List.append_assoc]
  rfl
set_option maxHeartbeats 1000000 in
theorem normal_zarr (v : Value) (l : List Int) (w : World) (hv : HzV 0 w v l) (hn : l.length ≤ 1099511627776) : Calls Tryz.prog 113 #[v] w (Gives w fun r w' => r = .slice (some ⟨w.heap.size, 0, none⟩) (trimR (zq l)).length l.length ∧ ZArr w' w.heap.size 38 l) := by
  obtain ⟨A, c, rfl, hl, hc, hA⟩ := hv
  obtain ⟨W0, hmk, ea, hx⟩ := make_zs l.length (l.length : Int) rfl hn w
  have HA : Hid (HzAt 0 w A l) := Lib.hid hA; clear hA
  go_enter Tryz.func113, Tryz.ntmps113
  go_wp2
  go_loopw [11] (fun iv wr => ∃ (k : Nat) (la : List Int), k ≤ l.length ∧ iv = .int .i64 k ∧ ZArr wr w.heap.size 38 la ∧ la.length = l.length ∧ la = l.take k ++ List.replicate (l.length - k) 0 ∧ Ext w wr) (fun iv _ => l.length - (intOf iv).toNat)
  case atStart => exact ⟨0, _, Nat.zero_le _, rfl, ea, by simp, by simp, hx⟩
  case round =>
    obtain ⟨k, la, hk, rfl, ea, hlen, hla, hx⟩ := hrel
    have Hla := Lib.hid hla; clear hla
    have Hlen := Lib.hid hlen; clear hlen
    by_cases hkl : k < l.length
    · obtain ⟨g, o, b, A1, n, c1, rfl, _, q0, q1, hq⟩ := HA.out.at_ (j := k) hkl
      replace q0 := hx.cell q0
      replace q1 := hx.cell q1
      have Hq := Lib.hid hq; clear hq
      go_wp2_with fail
      refine Calls.mono (normal_z _ _ _ (Hq.out.kd (hx.alloc _).kd)) ?_
      rintro e w2 ⟨r, rfl, hr, hx2⟩
      replace ea := ea.ext hx2.a1
      replace hx := hx.trans hx2.a1
      clear hx2 q0 q1
      obtain ⟨b5, A5, n5, c5, rfl⟩ := hr.cells
      have hkla : k < la.length := by have := Hlen.out; omega
      obtain ⟨_, _, _, _, ca0, ca1, -⟩ := ea.at_ (j := k) (by first | omega | (simp; omega))
      have fa0 := ea.frozen (k * 2)
      have fa1 := ea.frozen (k * 2 + 1)
      go_wp2
      obtain ⟨W3, eW, ea', U⟩ := ea.put (k := k) (by first | omega | (simp; omega)) hr
      rw [← eW]
      clear eW ea
      replace hx := U.from_ hx (by simp <;> omega)
      have ea := ea'
      clear U ea'
      go_roundw
      case rel => exact ⟨k + 1, _, by omega, by go_num, ea, by simpa using Hlen.out, set_z Hla.out hkl rfl rfl, hx⟩
      case measure => simp [intOf]; omega
    · obtain rfl : k = l.length := by omega
      replace ea : ZArr wr w.heap.size 38 l := by
        have := Hla.out
        rw [Nat.sub_self, List.replicate_zero, List.append_nil, List.take_of_length_le (Nat.le_refl _)] at this
        rw [← this]; exact ea
      have hrow := ea.row (Nat.le_refl _)
      go_wp2_with fail
      refine Calls.mono (trimmed_zs w.heap.size _ _ l _ (Nat.le_refl _) (by omega) hrow) ?_
      rintro e w2 ⟨rfl, rfl⟩
      go_wp2
      go_ret
      exact Gives.mk ⟨rfl, ea⟩ hx
theorem normal_zp (v : Value) (l : List Int) (w : World) (hv : HzV 0 w v l) (hn : l.length ≤ 1099511627776) : Calls Tryz.prog 113 #[v] w (Gives w fun r w' => IsZP w.heap.size w' r (cz l)) :=
  Gives.imp (normal_zarr v l w hv hn) fun _ _ ⟨e, h⟩ => by subst e; exact h.isZP rfl (Nat.le_refl _) (Nat.le_refl _) (by omega)
end Go.Proofs.YtedoifjbgokmcaaGreat
namespace Go.Hp
open Go.RowKit
theorem lzf_top {G : Nat → Rat} (hz : ZI G) (h : Fin_ G) : TopR (zq (lzf (pl G) G)) := fun h0 => by
  rw [zq_len, lzf_len] at h0
  have := pl_top h h0
  have e : (zq (lzf (pl G) G)).length - 1 = pl G - 1 := by rw [zq_len, lzf_len]
  simp only [e]
  rw [zq_get (by rw [lzf_len]; omega), lzf_get, ← hz.num]
  exact this
theorem ZArr.whole {base : Nat} {w : World} {g : Nat} {t : TypeId} {G : Nat → Rat} (h : ZArr w g t (lzf (pl G) G)) (hz : ZI G) (hf : Fin_ G) (hb : base ≤ g) {c : Nat} (hc : pl G ≤ c) (hm : c ≤ 9223372036854775807) : IsZP base w (.slice (some ⟨g, 0, none⟩) (pl G) c) G :=
  ⟨_, ⟨_, c, by rw [lzf_len], by rw [lzf_len]; exact hc, hm, h.row hb⟩, lzf_top hz hf, cz_lzf hz (pl_sup hf)⟩
end Go.Hp
namespace Go.Proofs.YtedoifjbgokmcaaGreat
open Go.RowKit Go.Hp
set_option maxHeartbeats 1000000 in
theorem content_zp (v : Value) (l : List Int) (w : World) (hv : HzV 0 w v l) (hn : l.length ≤ 1099511627776) : Calls Tryz.prog 114 #[v] w (Gives w fun r w' => IsZ w' r (cn (cz l) : Nat)) := by
  have hsz := fun i => cz_qsz hv.sz (by omega) i
  obtain ⟨A, c, rfl, hl, hc, hA⟩ := hv
  have HA : Hid (HzAt 0 w A l) := Lib.hid hA; clear hA
  have HS := Lib.hid hsz; clear hsz
  rw [cn_eq (cz_sup l)]
  go_enter Tryz.func114, Tryz.ntmps114
  go_wp2
  go_loopw [8] (fun iv wr => ∃ k : Nat, k ≤ l.length ∧ iv = .int .i64 k ∧ Box wr w.heap.size 38 #[.bool false, .slice none 0 0] ∧ BoxZ wr (w.heap.size + 1) 38 (ct k (cz l) : Nat) ∧ Ext w wr) (fun iv _ => l.length - (intOf iv).toNat)
  case atStart => exact ⟨0, Nat.zero_le _, rfl, (Box.new w _ _ (by simp [isDig])).alloc _, BoxZ.zero (by have := Box.new (w.alloc (.cells #[.bool false, .slice none 0 0] 38)) 38 #[.bool false, .slice none 0 0] (by simp [isDig]); rw [World.size_alloc] at this; exact this), ((Ext.refl w).alloc _).alloc _⟩
  case round =>
    obtain ⟨k, hk, rfl, ea, ⟨b, B, bn, bc, eb, hb⟩, hx⟩ := hrel
    have Hb := Lib.hid hb; clear hb
    by_cases hkl : k < l.length
    · obtain ⟨g, o, b1, A1, n, c1, rfl, _, q0, q1, hq⟩ := HA.out.at_ (j := k) hkl
      replace q0 := hx.cell q0
      replace q1 := hx.cell q1
      have Hq := Lib.hid (hq.kd hx.kd); clear hq
      have hsk := cn_sz HS.out k
      have HK := Lib.hid hsk; clear hsk
      have xa := fun o => (Ext.refl wr).alloc o
      have ceb := eb.cells2
      obtain ⟨r0, r1⟩ := ceb
      replace r0 := fun o => (xa o).cell r0
      replace r1 := fun o => (xa o).cell r1
      clear xa
      go_wp2_with fail
      refine Calls.mono (gcd_z _ _ (ct k (cz l) : Nat) l[k] _ ((Hb.out.kd ((Ext.refl _).alloc _).kd).has (by have := HK.out; simp; omega)) (Hq.out.kd ((Ext.refl _).alloc _).kd)) ?_
      rintro e w2 ⟨r, rfl, hr, hx2⟩
      have e1 : Int.gcd (ct k (cz l) : Nat) l[k] = ct (k + 1) (cz l) := by rw [ct_succ, cz_lt hkl]; rfl
      rw [e1] at hr
      obtain ⟨b5, A5, n5, c5, rfl⟩ := hr.cells
      replace ea := ea.ext hx2.a1
      replace eb := eb.ext hx2.a1
      replace hx := hx.trans hx2.a1
      clear hx2 q0 q1 r0 r1 e1 HK Hb Hq
      obtain ⟨ceb0, ceb1⟩ := eb.cells2
      have feb := eb.frozen
      go_wp2
      obtain ⟨W3, eW, eb', U⟩ := eb.put2 (.bool b5) (.slice A5 n5 c5) rfl rfl
      rw [← eW]
      clear eW eb
      replace hr := hr.kd U.kd
      replace ea := ea.upd U (by simp <;> omega)
      replace hx := U.from_ hx (by simp <;> omega)
      have eb := eb'
      clear U eb'
      go_roundw
      case rel => exact ⟨k + 1, by omega, by go_num, ea, BoxZ.mk eb hr, hx⟩
      case measure => simp [intOf]; omega
    · obtain rfl : k = l.length := by omega
      obtain ⟨cea0, cea1⟩ := ea.cells2
      have fea := ea.frozen
      obtain ⟨ceb0, ceb1⟩ := eb.cells2
      have feb := eb.frozen
      go_wp2
      have hr := Hb.out
      obtain ⟨W3, eW, ea', U⟩ := ea.put2 (.bool b) (.slice B bn bc) rfl rfl
      rw [← eW]
      clear eW ea
      replace hr := hr.kd U.kd
      replace hx := U.from_ hx (by simp <;> omega)
      have ea := ea'
      clear U ea'
      clear cea0 cea1
      obtain ⟨cea0, cea1⟩ := ea.cells2
      have fea := ea.frozen
      refine bodyPost_ret (v := .agg #[.bool b, .slice B bn bc]) (by simp [results, Tryz.results114, go_sem, cea0, cea1]) rfl ?_
      exact Gives.mk hr hx
set_option maxRecDepth 20000 in
set_option maxHeartbeats 4000000 in
theorem primitive_zp (v : Value) (l : List Int) (w : World) (hv : HzV 0 w v l) (hn : l.length ≤ 1099511627776) : Calls Tryz.prog 81 #[v] w (Gives w fun r w' => IsZP w.heap.size w' r (pp (cz l))) := by
  have hsz := fun i => cz_qsz hv.sz (by omega) i
  have HV := Lib.hid hv
  obtain ⟨A0, c0, rfl⟩ := hv.len
  have hfin := Fin_.cz l; have hzi := ZI.cz l
  have hpl := pl_le (cz_sup l)
  obtain ⟨F, hF⟩ : ∃ F, F = cz l := ⟨_, rfl⟩
  have hNorm := normal_zp _ l w HV.out hn
  rw [← hF] at hsz hfin hzi hNorm hpl
  rw [← hF]
  have HX := Lib.hid (And.intro hsz (And.intro hfin hzi)); clear hsz hfin hzi HV hv hF
  have HN := Lib.hid hNorm; clear hNorm
  go_enter Tryz.func81, Tryz.ntmps81
  go_wp2_with fail
  refine Calls.mono HN.out ?_
  rintro e w1 ⟨r1, rfl, hr1, hx1⟩
  have Hr1 := Lib.hid hr1
  obtain ⟨A, c, l1, rfl, k1, k2, hA, k3, k4, k5⟩ := hr1.form
  obtain ⟨l2, h21, h22, -, h24⟩ := hr1.hz HX.out.1
  have H2 := Lib.hid (And.intro h21 (And.intro h22 h24)); clear h21 h22 h24
  have HA := Lib.hid (And.intro hA (And.intro k3 k5)); clear hr1 hA k3 k4 k5 HN
  have hpl40 : pl F ≤ 1099511627776 := by omega
  go_wp2_with fail
  refine Calls.mono (content_zp _ l2 _ H2.out.1 (by have := H2.out.2.1; omega)) ?_
  rintro e w2 ⟨r2, rfl, hr2, hx2⟩
  rw [H2.out.2.2] at hr2
  obtain ⟨b5, A5, n5, c5, rfl⟩ := hr2.cells
  have hs1 := hx1.size
  have hs2 := hx2.size
  obtain ⟨W0, eW, eb, x0⟩ := Box.made w2 38 #[.bool b5, .slice A5 n5 c5] (by simp [isDig])
  replace hr2 := hr2.kd x0.kd
  replace hx2 := hx2.trans x0
  by_cases hp : 0 < pl F
  · obtain ⟨g, o, b, A1, n, c1, rfl, _, q0, q1, hq⟩ := HA.out.1.at_ (j := pl F - 1) (by have := HA.out.2.1; omega)
    have hbb := hq.two.2
    have hld : ld F = (l1[pl F - 1]'(by have := HA.out.2.1; omega) : Rat) := by rw [← cz_lt, HA.out.2.2]; rfl
    have hpc : pcn F = if b = true then -(cn F : Int) else cn F := by
      unfold pcn
      rw [hld, hbb]
      by_cases hneg : l1[pl F - 1]'(by have := HA.out.2.1; omega) < 0
      · rw [if_pos (by exact_mod_cast hneg), if_pos (by simpa using hneg)]
      · rw [if_neg (fun h => hneg (by exact_mod_cast h)), if_neg (by simpa using hneg)]
    have Hpc := Lib.hid hpc; clear hpc hld hbb hq q1
    replace q0 := hx2.cell q0
    subst eW
    clear x0
    go_upto_if 22 with (fail)
    generalize w2.alloc (.cells #[.bool b5, .slice A5 n5 c5] 38) = W0 at *
    generalize w2.heap.size = gb at *
    go_cut [] (fun wx => BoxZ wx gb 38 (pcn F) ∧ Ext w1 wx)
    case first =>
      obtain ⟨ceb0, ceb1⟩ := eb.cells2
      have feb := eb.frozen
      cases b with
      | true =>
        have hcz : sz ((cn F : Nat) : Int).natAbs ≤ 1099511627776 := by have := cn_sz HX.out.1 (pl F); simpa [cn] using this
        have Hr2 := Lib.hid (hr2.has hcz); clear hcz hr2
        go_wp2_with fail
        refine Calls.mono (neg_z _ (cn F : Nat) _ Hr2.out) ?_
        rintro e w3 ⟨r3, rfl, hr3, hx3⟩
        obtain ⟨b6, A6, n6, c6, rfl⟩ := hr3.cells
        replace eb := eb.ext hx3
        replace hx2 := hx2.trans hx3
        clear ceb0 ceb1 feb hx3 q0
        obtain ⟨ceb0, ceb1⟩ := eb.cells2
        have feb := eb.frozen
        go_wp2
        obtain ⟨W3, eW, eb', U⟩ := eb.put2 (.bool b6) (.slice A6 n6 c6) rfl rfl
        rw [← eW]
        clear eW eb
        replace hr3 := hr3.kd U.kd
        replace hx2 := U.from_ hx2 (by simp <;> omega)
        have eb := eb'
        clear U eb'
        go_meet
        case rel => exact ⟨by have := Hpc.out; simp at this; rw [this]; exact BoxZ.mk eb hr3, hx2⟩
      | false =>
        have Hr2 := Lib.hid hr2; clear hr2
        go_wp2
        go_meet
        case rel => exact ⟨by have := Hpc.out; simp at this; rw [this]; exact BoxZ.mk eb Hr2.out, hx2⟩
    case rest =>
      clear q0 eb hr2 hx2
      obtain ⟨⟨b, B, bn, bc, eb, hb⟩, hx2⟩ := hcut
      have hbc := eb.lt
      have hsc := hx2.size
      have hf0 : F ≠ pz := fun e => by rw [e, pl_pz] at hp; omega
      have hppl := pp_pl HX.out.2.2 HX.out.2.1
      have HB := Lib.hid (And.intro hb (And.intro hf0 hppl)); clear hb hf0 hppl
      obtain ⟨m, hm⟩ : ∃ m, m = lzf (pl F) (pp F) := ⟨_, rfl⟩
      have hml : m.length = pl F := by rw [hm, lzf_len]
      have HM := Lib.hid (And.intro hm hml); clear hm hml
      obtain ⟨W0, hmk, ea, hxa⟩ := make_zs (pl F) (pl F : Int) rfl hpl40 wc
      replace eb := eb.ext hxa
      replace hx2 := hx2.trans hxa
      have HB' := Lib.hid (HB.out.1.kd hxa.kd)
      generalize wc.heap.size = ga at *
      go_wp2
      clear hmk hxa
      go_loopw [30] (fun iv wr => ∃ (k : Nat) (la : List Int), k ≤ pl F ∧ iv = .int .i64 k ∧ ZArr wr ga 38 la ∧ la.length = pl F ∧ la = m.take k ++ List.replicate (pl F - k) 0 ∧ Box wr gb 38 #[.bool b, .slice B bn bc] ∧ IsZ wr (.agg #[.bool b, .slice B bn bc]) (pcn F) ∧ Ext w1 wr) (fun iv _ => pl F - (intOf iv).toNat)
      case atStart => exact ⟨0, _, Nat.zero_le _, rfl, ea, by simp, by simp, eb, HB'.out, hx2⟩
      case round =>
        clear hx2 ea eb HB'
        obtain ⟨k, la, hk, rfl, ea, hlen, hla, eb, hb, hx2⟩ := hrel
        have Hla := Lib.hid hla; clear hla
        have Hlen := Lib.hid hlen; clear hlen
        by_cases hkl : k < pl F
        · have hkl1 : k < l1.length := by have := HA.out.2.1; omega
          obtain ⟨g', o', b1, B1, n1, d1, hgo, _, q0, q1, hq⟩ := HA.out.1.at_ (j := k) hkl1
          simp only [Option.some.injEq, Addr.mk.injEq, and_true] at hgo
          obtain ⟨rfl, rfl⟩ := hgo
          replace q0 := hx2.cell q0
          replace q1 := hx2.cell q1
          have hFk : F k = (l1[k] : Rat) := by rw [← HA.out.2.2, cz_lt hkl1]
          have hqz : sz l1[k].natAbs ≤ 1099511627776 := by have := HX.out.1 k; rw [hFk, qsz_cast] at this; omega
          have hdv : pcn F ∣ l1[k] := by have := pcn_dvd HX.out.2.1 k; rw [hFk] at this; exact this
          have hpz := pcn_ne HX.out.2.2 HX.out.2.1 HB.out.2.1
          have hps : sz (pcn F).natAbs ≤ 1099511627776 := by rw [pcn_abs]; exact cn_sz HX.out.1 (pl F)
          have hval : m[k]'(by rw [HM.out.2]; exact hkl) = l1[k] / pcn F := by
            simp only [HM.out.1, lzf_get]
            rw [pp_at HX.out.2.2 HX.out.2.1 HB.out.2.1, hFk]; rfl
          have Hq := Lib.hid (And.intro ((hq.has hqz).kd hx2.kd) (And.intro (hb.has hps) (And.intro hdv (And.intro hpz hval)))); clear hq hqz hdv hpz hps hval hFk
          have xa := fun o => (Ext.refl wr).alloc o
          obtain ⟨r0, r1⟩ := eb.cells2
          replace r0 := fun o => (xa o).cell r0
          replace r1 := fun o => (xa o).cell r1
          have Hb := Lib.hid hb; clear xa hb
          go_wp2_with fail
          refine Calls.mono (exact_z _ _ l1[k] (pcn F) _ (Hq.out.1.kd ((Ext.refl _).alloc _).kd) (Hq.out.2.1.kd ((Ext.refl _).alloc _).kd) Hq.out.2.2.2.1 Hq.out.2.2.1) ?_
          rintro e w3 ⟨r, rfl, ⟨a, rfl, hr⟩, hx3⟩
          obtain ⟨b6, A6, n6, c6, rfl⟩ := hr.cells
          replace ea := ea.ext hx3.a1
          replace eb := eb.ext hx3.a1
          have Hb' := Lib.hid (Hb.out.kd hx3.a1.kd)
          replace hx2 := hx2.trans hx3.a1
          clear hx3 q0 q1 r0 r1 Hb
          have hkla : k < la.length := by have := Hlen.out; omega
          obtain ⟨_, _, _, _, ca0, ca1, -⟩ := ea.at_ (j := k) (by first | omega | (simp; omega))
          have fa0 := ea.frozen (k * 2)
          have fa1 := ea.frozen (k * 2 + 1)
          go_wp2
          have hb := Hb'.out
          obtain ⟨W3, eW, ea', U⟩ := ea.put (k := k) (by first | omega | (simp; omega)) hr
          rw [← eW]
          clear eW ea
          replace hb := hb.kd U.kd
          replace eb := eb.upd U (by simp <;> omega)
          replace hx2 := U.from_ hx2 (by simp <;> omega)
          have ea := ea'
          clear U ea'
          go_roundw
          case rel => exact ⟨k + 1, _, by omega, by go_num, ea, by simpa using Hlen.out, set_z Hla.out hkl HM.out.2 Hq.out.2.2.2.2.symm, eb, hb, hx2⟩
          case measure => simp [intOf]; omega
        · obtain rfl : k = pl F := by omega
          have hla := Hla.out
          rw [Nat.sub_self, List.replicate_zero, List.append_nil, List.take_of_length_le (by rw [HM.out.2]; exact Nat.le_refl _), HM.out.1] at hla
          have hw : IsZP w.heap.size wr (.slice (some ⟨ga, 0, none⟩) (pl F) (pl F)) (pp F) := by
            have h1 := ZArr.whole (base := w.heap.size) (G := pp F) (c := pl F) (by rw [HB.out.2.2, ← hla]; exact ea) (pp_zi HX.out.2.2 HX.out.2.1) (pp_fin HX.out.2.1) (by omega) (by rw [HB.out.2.2]; exact Nat.le_refl _) (by omega)
            rw [HB.out.2.2] at h1
            exact h1
          have Hw := Lib.hid hw; clear hw hla
          go_wp2
          go_ret
          exact Gives.mk Hw.out (hx1.trans hx2)
  · have hp0 : pl F = 0 := by omega
    have hpz := (pl_zero HX.out.2.1).1 hp0
    have Hz := Lib.hid (And.intro hpz hp0); clear hpz
    have hb : decide ((0 : Int) < (pl F : Int)) = false := by simp; omega
    obtain ⟨W1, hmk, ea, hxa⟩ := make_zs (pl F) (pl F : Int) rfl hpl40 W0
    subst eW
    clear x0 hp0
    go_wp2
    clear hmk
    go_loopw [30] (fun iv wr => iv = .int .i64 0 ∧ Ext w1 wr) (fun iv _ => 0)
    case atStart => exact ⟨rfl, hx2.trans hxa⟩
    case round =>
      clear hx2
      obtain ⟨rfl, hx2⟩ := hrel
      have hb2 : ¬ (0 : Int) < (pl F : Int) := by omega
      go_wp2
      go_ret
      rw [Hz.out.1, pp_pz, pl_pz]
      exact Gives.mk (IsZP.empty _ _ _ _ (by omega)) (hx1.trans hx2)
end Go.Proofs.YtedoifjbgokmcaaGreat
namespace Go.Hp
/-- The least common multiple of the first n denominators. -/
def dl : Nat → (Nat → Rat) → Nat
  | 0, _ => 1
  | n + 1, F => Nat.lcm (dl n F) (F n).den
theorem dl_succ (n : Nat) (F : Nat → Rat) : dl (n + 1) F = Nat.lcm (dl n F) (F n).den := rfl
theorem dl_pos (F : Nat → Rat) : ∀ n, 0 < dl n F
  | 0 => by show 0 < 1; omega
  | n + 1 => Nat.lcm_pos (dl_pos F n) (F n).den_pos
theorem dl_dvd (F : Nat → Rat) : ∀ n i, i < n → (F i).den ∣ dl n F
  | n + 1, i, h => by
    rw [dl_succ]
    rcases Nat.lt_or_ge i n with l | l
    · exact Nat.dvd_trans (dl_dvd F n i l) (Nat.dvd_lcm_left _ _)
    · obtain rfl : i = n := by omega
      exact Nat.dvd_lcm_right _ _
theorem dl_step (n : Nat) (F : Nat → Rat) : dl n F * ((F n).den / Nat.gcd (dl n F) (F n).den) = dl (n + 1) F := by
  rw [dl_succ, Nat.lcm, Nat.mul_div_assoc _ (Nat.gcd_dvd_right _ _)]
theorem dl_step' (n : Nat) (F : Nat → Rat) : dl n F * (F n).den / Nat.gcd (dl n F) (F n).den = dl (n + 1) F := rfl
theorem dl_sz {F : Nat → Rat} {s : Nat} (h : ∀ i, qsz (F i) ≤ s) : ∀ n, sz (dl n F) ≤ 1 + n * s
  | 0 => by show sz 1 ≤ _; have : sz 1 = 1 := by decide
            omega
  | n + 1 => by
    have h1 := dl_sz h n
    have h2 := h n
    have h3 : sz (dl (n + 1) F) ≤ sz (dl n F * (F n).den) := sz_mono (by rw [dl_succ]; exact Nat.div_le_self _ _)
    have h4 := sz_mul (dl n F) (F n).den
    unfold qsz at h2
    rw [Nat.succ_mul]
    omega
/-- The polynomial without denominators. -/
def clr (n : Nat) (F : Nat → Rat) : Nat → Rat := psc ((dl n F : Nat) : Rat) F
theorem clr_at {n : Nat} {F : Nat → Rat} (h : Sup n F) (i : Nat) : clr n F i = (((F i).num * ((dl n F : Int) / ((F i).den : Int)) : Int) : Rat) := by
  rcases Nat.lt_or_ge i n with hi | hi
  · obtain ⟨k, hk⟩ := dl_dvd F n i hi
    have hd : ((F i).den : Int) ≠ 0 := by have := (F i).den_pos; omega
    have e : (dl n F : Int) / ((F i).den : Int) = k := by rw [hk, Int.natCast_mul, Int.mul_ediv_cancel_left _ hd]
    rw [e]
    show ((dl n F : Nat) : Rat) * F i = _
    rw [hk]
    have h1 : F i = ((F i).num : Rat) / ((F i).den : Rat) := rat_eq _
    have hd' : ((F i).den : Rat) ≠ 0 := natq (F i).den_pos
    have h2 : (((F i).num * (k : Int) : Int) : Rat) = ((F i).num : Rat) * (k : Rat) := by rw [Rat.intCast_mul]; rfl
    have h3 : (((F i).den * k : Nat) : Rat) = ((F i).den : Rat) * (k : Rat) := by rw [Rat.natCast_mul]
    rw [h2, h3]
    generalize ((F i).num : Rat) = a at *
    generalize ((F i).den : Rat) = d at *
    rw [h1]
    grind
  · show ((dl n F : Nat) : Rat) * F i = _
    rw [h i hi]; simp
theorem clr_zi {n : Nat} {F : Nat → Rat} (h : Sup n F) : ZI (clr n F) := fun i => ⟨_, clr_at h i⟩
theorem clr_num {n : Nat} {F : Nat → Rat} (h : Sup n F) (i : Nat) : (clr n F i).num = (F i).num * ((dl n F : Int) / ((F i).den : Int)) := by rw [clr_at h]; rfl
theorem clr_fin {n : Nat} {F : Nat → Rat} (h : Fin_ F) : Fin_ (clr n F) := h.psc _
theorem dl_ne (n : Nat) (F : Nat → Rat) : ((dl n F : Nat) : Rat) ≠ 0 := natq (dl_pos F n)
theorem clr_pl {n : Nat} {F : Nat → Rat} (h : Fin_ F) : pl (clr n F) = pl F := pl_psc (dl_ne n F) h
theorem clr_ne {n : Nat} {F : Nat → Rat} (h : Fin_ F) (h0 : F ≠ pz) : clr n F ≠ pz := fun e => h0 ((pl_zero h).1 (by rw [← clr_pl (n := n) h, e, pl_pz]))
theorem clr_qsz {n : Nat} {F : Nat → Rat} {s : Nat} (h : ∀ i, qsz (F i) ≤ s) (i : Nat) : qsz (clr n F i) ≤ 1 + n * s + 1 + s := by
  have h1 := dl_sz h n
  have h2 := h i
  have h3 := qsz_mul ((dl n F : Nat) : Rat) (F i)
  have h4 : qsz ((dl n F : Nat) : Rat) ≤ 1 + n * s + 1 := by
    change qsz (((dl n F : Nat) : Int) : Rat) ≤ _
    rw [qsz_cast, Int.natAbs_natCast]
    omega
  show qsz (((dl n F : Nat) : Rat) * F i) ≤ _
  omega
/-- The factor. -/
noncomputable def cfa (n : Nat) (F : Nat → Rat) : Rat := ld F / ld (pp (clr n F))
theorem ld_psc {a : Rat} (ha : a ≠ 0) {F : Nat → Rat} (h : Fin_ F) : ld (psc a F) = a * ld F := by unfold ld; rw [pl_psc ha h]; rfl
theorem ld_pp {F : Nat → Rat} (hz : ZI F) (h : Fin_ F) (h0 : F ≠ pz) : ld (pp F) = ld F / (pcn F : Rat) := by
  have hp' : (pcn F : Rat) ≠ 0 := fun e => pcn_ne hz h h0 (by exact_mod_cast e)
  unfold pp
  rw [ld_psc (inv_ne hp') h]; grind
theorem cfa_eq {n : Nat} {F : Nat → Rat} (hs : Sup n F) (h0 : F ≠ pz) : cfa n F = (pcn (clr n F) : Rat) / ((dl n F : Nat) : Rat) ∧ psc (cfa n F) (pp (clr n F)) = F := by
  have h : Fin_ F := ⟨n, hs⟩
  have hz := clr_zi hs
  have hf := clr_fin (n := n) h
  have hne := clr_ne (n := n) h h0
  have hp' : (pcn (clr n F) : Rat) ≠ 0 := fun e => pcn_ne hz hf hne (by exact_mod_cast e)
  have hl := ld_ne h h0
  have hd := dl_ne n F
  have e1 : ld (clr n F) = ((dl n F : Nat) : Rat) * ld F := ld_psc hd h
  have e2 : cfa n F = (pcn (clr n F) : Rat) / ((dl n F : Nat) : Rat) := by
    unfold cfa
    rw [ld_pp hz hf hne, e1]
    grind
  refine ⟨e2, ?_⟩
  rw [e2]
  unfold pp clr
  rw [psc_psc, psc_psc]
  have e3 : (pcn (psc ((dl n F : Nat) : Rat) F) : Rat) / ((dl n F : Nat) : Rat) * (1 / (pcn (psc ((dl n F : Nat) : Rat) F) : Rat)) * ((dl n F : Nat) : Rat) = 1 := by
    change (pcn (psc ((dl n F : Nat) : Rat) F) : Rat) ≠ 0 at hp'
    grind
  rw [e3, psc_one]
theorem cn_pp {F : Nat → Rat} (hz : ZI F) (h : Fin_ F) (h0 : F ≠ pz) : cn (pp F) = 1 := by
  have hpf := pp_fin h
  have hp := pcn_ne hz h h0
  have hc := cn_ne hz h h0
  have key : (pcn F * (cn (pp F) : Int)) ∣ (cn F : Int) := dvd_cn fun i => by
    obtain ⟨k, hk⟩ := cn_dvd hpf i
    obtain ⟨j, hj⟩ := pcn_dvd h i
    have e := pp_at hz h h0 i
    rw [hj, Int.mul_ediv_cancel_left _ hp] at e
    have e2 : (pp F i).num = j := by rw [e]; rfl
    rw [hj, ← e2, hk]
    exact ⟨k, by rw [Int.mul_assoc]⟩
  have h1 := Int.natAbs_dvd_natAbs.2 key
  rw [Int.natAbs_mul, pcn_abs] at h1
  have h2 : cn F * cn (pp F) ∣ cn F * 1 := by simpa using h1
  exact Nat.eq_one_of_dvd_one (Nat.dvd_of_mul_dvd_mul_left (Nat.pos_of_ne_zero hc) h2)
theorem pp_lead {F : Nat → Rat} (hz : ZI F) (h : Fin_ F) (h0 : F ≠ pz) : 0 < ld (pp F) := by
  rw [ld_pp hz h h0]
  have hl := ld_ne h h0
  have hc := cn_ne hz h h0
  have hc' : (0 : Rat) < (cn F : Rat) := by exact_mod_cast Nat.pos_of_ne_zero hc
  by_cases hn : ld F < 0
  · have e : pcn F = -(cn F : Int) := by unfold pcn; rw [if_pos hn]
    rw [e]
    have e2 : ((-(cn F : Int) : Int) : Rat) = -(cn F : Rat) := by rw [Rat.intCast_neg]; rfl
    rw [e2]
    have : ld F / -(cn F : Rat) = (-ld F) / (cn F : Rat) := by grind
    rw [this, Rat.div_def]
    exact Rat.mul_pos (by grind) (Rat.inv_pos.2 hc')
  · have e : pcn F = (cn F : Int) := by unfold pcn; rw [if_neg hn]
    rw [e]
    have e2 : (((cn F : Nat) : Int) : Rat) = (cn F : Rat) := rfl
    rw [e2, Rat.div_def]
    exact Rat.mul_pos (by grind) (Rat.inv_pos.2 hc')
theorem pp_pp {F : Nat → Rat} (hz : ZI F) (h : Fin_ F) : pp (pp F) = pp F := by
  by_cases h0 : F = pz
  · rw [h0, pp_pz, pp_pz]
  · have h1 : pcn (pp F) = 1 := by
      unfold pcn
      rw [if_neg (by have := pp_lead hz h h0; grind), cn_pp hz h h0]; rfl
    show psc (1 / ((pcn (pp F) : Int) : Rat)) (pp F) = pp F
    rw [h1]
    have : 1 / ((1 : Int) : Rat) = 1 := by decide +kernel
    rw [this, psc_one]
end Go.Hp
namespace Go.Hp
open Go.RowKit
theorem lzf_succ (k : Nat) (F : Nat → Rat) : lzf (k + 1) F = lzf k F ++ [(F k).num] := by simp [lzf, List.range_succ]
theorem small_lenz {n : Nat} (h : n ≤ 1099511627776) : n + 1 ≤ maxLen := by simp only [maxLen]; omega
theorem lzf_cz (l : List Int) : lzf l.length (cz l) = l := by
  apply List.ext_getElem
  · rw [lzf_len]
  · intro i h1 h2; rw [lzf_get, cz_lt h2]; rfl
end Go.Hp
namespace Go.Proofs.YtedoifjbgokmcaaGreat
open Go.RowKit Go.Hp
theorem append_rz (W : World) (base ty g : Nat) (v : Value) (l : List Int) (q : Int) {b : Bool} {A : Option Addr} {n c : Nat} (h : OwnZ base 38 W v l) (hq : IsZ W (.agg #[.bool b, .slice A n c]) q) (hn : l.length ≤ 1099511627776) (hb : base ≤ W.heap.size) (hg : g = W.heap.size) :
    ∃ v' w', (Builtin.append_ #[63, 63] ty #[v, .slice (some ⟨g, 0, none⟩) 1 1]).run Tryz.prog (W.alloc (.cells #[.bool b, .slice A n c] 38)) = .ok v' w' ∧ (OwnZ base 38 w' v' (l ++ [q]) ∧ Upd (blk v) (W.alloc (.cells #[.bool b, .slice A n c] 38)) w') := by
  subst hg
  obtain ⟨g, cs, e1, h1, h2, h3, h4⟩ := NewZ.mk hq (base := W.heap.size) (Nat.le_refl _) 38
  cases e1
  obtain ⟨i0, hi, hz0, hz1, hz2⟩ := info_parts info_int
  have ho := IsZ.one h4
  have hx := (Ext.refl W).alloc (.cells #[.bool b, .slice A n c] 38)
  obtain ⟨v', w', a, b, c⟩ := OwnR.append (P := Tryz.prog) (h.ext hx) 63 ty i0 _ 32 Tryz.underlying63 hi hz0 hz1 hz2 rfl (by simp [nodig, isDig, Value.cells]) (by decide) ⟨W.heap.size, 0, none⟩ 1 cs h3 h4 h2.news ho.1 ho.2.1 (small_lenz hn) (by omega) (Nat.le_trans hb hx.size) (fun _ _ _ k hq => IsZ.kd hq k)
  exact ⟨v', w', a, b, c⟩
set_option maxHeartbeats 1000000 in
theorem normal_rz (v : Value) (l : List Int) (w : World) (hv : HzV 0 w v l) (hn : l.length ≤ 1099511627776) : Calls Tryz.prog 124 #[v] w (Gives w fun r w' => IsZP w.heap.size w' r (cz l)) := by
  have hqs := hv.sz
  obtain ⟨A, c, rfl, hl, hc, hA⟩ := hv
  have HA : Hid (HzAt 0 w A l) := Lib.hid hA; clear hA
  have HQ := Lib.hid hqs; clear hqs
  go_enter Tryz.func124, Tryz.ntmps124
  go_wp2
  go_loopw [3, 4] (fun ov iv wr => ∃ (k : Nat), k ≤ l.length ∧ iv = .int .i64 k ∧ OwnZ w.heap.size 38 wr ov (lzf k (cz l)) ∧ Ext w wr) (fun _ iv _ => l.length - (intOf iv).toNat)
  case atStart => exact ⟨0, Nat.zero_le _, rfl, OwnR.nil _ _ _ _ _, Ext.refl _⟩
  case round =>
    obtain ⟨k, hk, rfl, hown, hx⟩ := hrel
    by_cases hkl : k < l.length
    · obtain ⟨g, o, b, A1, n, c1, rfl, _, q0, q1, hq⟩ := HA.out.at_ (j := k) hkl
      replace q0 := hx.cell q0
      replace q1 := hx.cell q1
      have Hq := Lib.hid (hq.kd hx.kd); clear hq
      go_wp2_with fail
      refine Calls.mono (norm_r _ _ _ Hq.out) ?_
      rintro e w2 ⟨r, rfl, hr, hx2⟩
      obtain ⟨b5, A5, n5, c5, rfl⟩ := hr.cells
      have Hr := Lib.hid hr; clear hr
      replace hown := hown.ext hx2
      replace hx := hx.trans hx2
      have Hown := Lib.hid hown; clear hown
      have hsz := hx.size
      clear hx2 q0 q1 Hq
      go_wp2_with (at_builtin; refine wpList_append_run rfl _ _ 63 rfl u3 (.slice (some ⟨w2.heap.size, 0, none⟩) 1 1) rfl rfl (append_rz w2 w.heap.size _ _ _ _ _ Hown.out Hr.out (by first | (rw [lzf_len]; omega) | omega) hsz rfl) ?_)
      first | intro v' w5 hown U | rintro v' w5 ⟨hown, U⟩
      replace hx := (Hown.out.ext ((Ext.refl w2).alloc _)).from_ U (hx.alloc _) (Nat.le_refl _)
      have Hown' := Lib.hid hown; clear hown U
      go_wp2
      go_roundw
      case rel => exact ⟨k + 1, by omega, by go_num, by rw [lzf_succ, cz_lt hkl]; exact Hown'.out, hx⟩
      case measure => simp [intOf] <;> omega
    · obtain rfl : k = l.length := by omega
      rw [lzf_cz] at hown
      obtain ⟨A2, c2, rfl, h2, h3, h4⟩ := OwnZ.row hown
      have Hrow : Hid (ZsAt w.heap.size wr A2 l) := Lib.hid h4; clear h4 hown
      have hx0 := hx
      go_wp2
      clear hx
      go_loopw [5] (fun nv wx => ∃ m : Nat, m ≤ l.length ∧ nv = .int .i64 m ∧ (∀ j, m ≤ j → (h : j < l.length) → l[j] = 0) ∧ Ext wr wx) (fun nv _ => (intOf nv).toNat)
      case atStart => exact ⟨l.length, Nat.le_refl _, rfl, fun j h1 h2 => by omega, Ext.refl _⟩
      case round =>
        obtain ⟨m, hm, rfl, hz, hx⟩ := hrel
        have Hz := Lib.hid hz; clear hz
        by_cases h0 : 0 < m
        · obtain ⟨m, rfl⟩ : ∃ k, m = k + 1 := ⟨m - 1, by omega⟩
          have hml : m < l.length := by omega
          have Hrow' : Hid (ZsAt w.heap.size _ A2 l) := Lib.hid Hrow.out
          obtain ⟨g, o, b, A1, n, c1, rfl, hb, q0, q1, hq⟩ := Hrow'.out.at_ (j := m) hml
          replace q0 := hx.cell q0
          replace q1 := hx.cell q1
          have Hq := Lib.hid ((hq.has (HQ.out _ (List.getElem_mem hml))).kd hx.kd); clear hq
          go_wp2_with fail
          refine Calls.mono (sign_r _ l[m] _ Hq.out) ?_
          rintro e w2 ⟨r, rfl, rfl, hx2⟩
          by_cases hd0 : l[m]'(by omega) = 0
          · have hb : (l[m].sign == 0) = true := by rw [hd0]; rfl
            have Hd := Lib.hid hd0; clear hd0
            go_wp2
            go_roundw
            case rel => exact ⟨m, by omega, by go_num, fun j h1 h2 => by
              rcases Nat.eq_or_lt_of_le h1 with e | e
              · subst e; exact Hd.out
              · exact Hz.out j (by omega) h2, hx.trans hx2⟩
            case measure => simp [intOf] <;> omega
          · have hb : (l[m].sign == 0) = false := by
              have : l[m].sign ≠ 0 := fun e => hd0 (Int.sign_eq_zero_iff_zero.1 e)
              simpa using this
            have Hd := Lib.hid hd0; clear hd0
            go_wp2
            go_ret
            have hlen := trimZ_take hm Hz.out (fun h _ => by simpa using Hd.out)
            have hR := (ZsV.trim (Hrow.out.ext (hx.trans hx2)) h2 h3)
            rw [hlen] at hR
            exact Gives.mk (IsZP.of_trim hR rfl) ((hx0.trans hx).trans hx2)
        · obtain rfl : m = 0 := by omega
          have hlen := trimZ_take hm Hz.out (fun h hh => by omega)
          have hR := (ZsV.trim (Hrow.out.ext hx) h2 h3)
          rw [hlen] at hR
          have HR := Lib.hid (And.intro hR hlen); clear hR hlen
          go_wp2
          go_ret
          exact Gives.mk (IsZP.of_trim HR.out.1 rfl) (hx0.trans hx)
theorem degree_rz (v : Value) (l : List Int) (w : World) (hv : HzV 0 w v l) (hn : l.length ≤ 1099511627776) : Calls Tryz.prog 122 #[v] w (Gives w fun r _ => r = .int .i64 ((pl (cz l) : Int) - 1)) := by
  have HV := Lib.hid hv
  obtain ⟨A, c, rfl⟩ := hv.len
  clear hv
  have hpl : pl (cz l) ≤ l.length := pl_le (cz_sup l)
  go_enter Tryz.func122, Tryz.ntmps122
  go_wp2_with fail
  refine Calls.mono (normal_rz _ l _ HV.out hn) ?_
  rintro e w1 ⟨r, rfl, hr, hx1⟩
  obtain ⟨A2, c2, rfl, -⟩ := hr.shape
  clear hr
  go_wp2
  go_ret
  exact Gives.mk rfl hx1
theorem at_rz (v : Value) (l : List Int) (k : Nat) (w : World) (hv : HzV 0 w v l) (hk : k ≤ 9223372036854775807) : Calls Tryz.prog 121 #[v, .int .i64 (k : Nat)] w (Gives w fun r w' => IsZ w' r (cz l k).num) := by
  obtain ⟨A, c, rfl, hl, hc, hA⟩ := hv
  by_cases hkl : k < l.length
  · obtain ⟨g, o, b, A1, n, c1, rfl, _, q0, q1, hq⟩ := HzAt.at_ hA (j := k) hkl
    rw [cz_lt hkl]
    have Hq := Lib.hid hq; clear hq hA
    have hkc : (k : Int) < l.length := by omega
    replace q0 := ((Ext.refl w).alloc (.cells #[.bool false, .slice none 0 0] 38)).cell q0
    replace q1 := ((Ext.refl w).alloc (.cells #[.bool false, .slice none 0 0] 38)).cell q1
    go_enter Tryz.func121, Tryz.ntmps121
    go_wp2_with fail
    refine Calls.mono (norm_r _ _ _ (Hq.out.kd ((Ext.refl w).alloc _).kd)) ?_
    rintro e w1 ⟨r, rfl, hr, hx1⟩
    clear q0 q1
    obtain ⟨b5, A5, n5, c5, rfl⟩ := hr.cells
    have hc1 := hx1.cells
    have hf1 := hx1.frozens
    have Hfin := Lib.hid (fin_z hr hx1.a1 (NoDig.at_ hx1 (g := w.heap.size + 0) (by simp) (by simp [isDig])) (by omega))
    clear hr
    go_wp2
    refine bodyPost_ret (v := .agg #[.bool b5, .slice A5 n5 c5]) (by simp [results, Tryz.results121, go_sem, hc1]) rfl ?_
    exact Hfin.out
  · have hz : (cz l k).num = 0 := by rw [cz_ge (by omega)]; rfl
    have hkc : ¬ (k : Int) < l.length := by omega
    have Hz := Lib.hid hz; clear hz hA
    rw [Hz.out]
    go_enter Tryz.func121, Tryz.ntmps121
    go_wp2_with fail
    refine Calls.mono (of_r 0 _ (by omega) (by omega)) ?_
    rintro e w1 ⟨r, rfl, hr, hx1⟩
    obtain ⟨b5, A5, n5, c5, rfl⟩ := hr.cells
    have hc1 := hx1.cells
    have hf1 := hx1.frozens
    have Hfin := Lib.hid (fin_z hr hx1.a1 (NoDig.at_ hx1 (g := w.heap.size + 0) (by simp) (by simp [isDig])) (by omega))
    clear hr
    go_wp2
    refine bodyPost_ret (v := .agg #[.bool b5, .slice A5 n5 c5]) (by simp [results, Tryz.results121, go_sem, hc1]) rfl ?_
    exact Hfin.out
theorem at_negz (v : Value) (l : List Int) (w : World) (hv : HzV 0 w v l) : Calls Tryz.prog 121 #[v, .int .i64 (-1)] w (Gives w fun r w' => IsZ w' r 0) := by
  obtain ⟨A, c, rfl, hl, hc, hA⟩ := hv
  clear hA
  go_enter Tryz.func121, Tryz.ntmps121
  go_wp2_with fail
  refine Calls.mono (of_r 0 _ (by omega) (by omega)) ?_
  rintro e w1 ⟨r, rfl, hr, hx1⟩
  obtain ⟨b5, A5, n5, c5, rfl⟩ := hr.cells
  have hc1 := hx1.cells
  have hf1 := hx1.frozens
  have Hfin := Lib.hid (fin_z hr hx1.a1 (NoDig.at_ hx1 (g := w.heap.size + 0) (by simp) (by simp [isDig])) (by omega))
  clear hr
  go_wp2
  refine bodyPost_ret (v := .agg #[.bool b5, .slice A5 n5 c5]) (by simp [results, Tryz.results121, go_sem, hc1]) rfl ?_
  exact Hfin.out
theorem lead_rz (v : Value) (l : List Int) (w : World) (hv : HzV 0 w v l) (hn : l.length ≤ 1099511627776) : Calls Tryz.prog 88 #[v] w (Gives w fun r w' => IsZ w' r (ld (cz l)).num) := by
  have HV := Lib.hid hv
  obtain ⟨A, c, rfl⟩ := hv.len
  clear hv
  have hpl : pl (cz l) ≤ l.length := pl_le (cz_sup l)
  obtain ⟨X, hX⟩ : ∃ X, X = (ld (cz l)).num := ⟨_, rfl⟩
  rw [← hX]
  have HX := Lib.hid hX; clear hX
  go_enter Tryz.func88, Tryz.ntmps88
  go_wp2_with fail
  refine Calls.mono (degree_rz _ l _ (HV.out.ext ((Ext.refl w).alloc _)) hn) ?_
  rintro e w1 ⟨r, rfl, rfl, hx⟩
  by_cases h0 : 0 < pl (cz l)
  · obtain ⟨k, hk⟩ : ∃ k : Nat, k = pl (cz l) - 1 := ⟨_, rfl⟩
    have e1 : (pl (cz l) : Int) - 1 = (k : Nat) := by omega
    have hl : X = (cz l k).num := by rw [HX.out]; unfold ld; rw [hk]
    have HL := Lib.hid hl
    rw [e1]
    have hk9 : k ≤ 9223372036854775807 := by omega
    clear e1 hl hk
    go_wp2_with fail
    refine Calls.mono (at_rz _ l k _ (HV.out.ext hx.a1) hk9) ?_
    rintro e w2 ⟨r, rfl, hr, hx2⟩
    rw [← HL.out] at hr
    have hx1 := hx.trans hx2
    clear hx hx2
    obtain ⟨b5, A5, n5, c5, rfl⟩ := hr.cells
    have hc1 := hx1.cells
    have hf1 := hx1.frozens
    have Hfin := Lib.hid (fin_z hr hx1.a1 (NoDig.at_ hx1 (g := w.heap.size + 0) (by simp) (by simp [isDig])) (by omega))
    clear hr
    go_wp2
    refine bodyPost_ret (v := .agg #[.bool b5, .slice A5 n5 c5]) (by simp [results, Tryz.results88, go_sem, hc1]) rfl ?_
    exact Hfin.out
  · have e1 : (pl (cz l) : Int) - 1 = -1 := by omega
    have hl : X = 0 := by rw [HX.out]; unfold ld; rw [show pl (cz l) - 1 = 0 from by omega, (pl_zero (Fin_.cz l)).1 (by omega)]; rfl
    have HL := Lib.hid hl
    rw [e1]
    clear e1 hl
    go_wp2_with fail
    refine Calls.mono (at_negz _ l _ (HV.out.ext hx.a1)) ?_
    rintro e w2 ⟨r, rfl, hr, hx2⟩
    rw [← HL.out] at hr
    have hx1 := hx.trans hx2
    clear hx hx2
    obtain ⟨b5, A5, n5, c5, rfl⟩ := hr.cells
    have hc1 := hx1.cells
    have hf1 := hx1.frozens
    have Hfin := Lib.hid (fin_z hr hx1.a1 (NoDig.at_ hx1 (g := w.heap.size + 0) (by simp) (by simp [isDig])) (by omega))
    clear hr
    go_wp2
    refine bodyPost_ret (v := .agg #[.bool b5, .slice A5 n5 c5]) (by simp [results, Tryz.results88, go_sem, hc1]) rfl ?_
    exact Hfin.out
end Go.Proofs.YtedoifjbgokmcaaGreat
namespace Go.Hp
open Go.RowKit
theorem div_at {F : Nat → Rat} {a : Int} (hz : ZI F) (ha : a ≠ 0) (i : Nat) (hd : a ∣ (F i).num) : psc (1 / (a : Rat)) F i = (((F i).num / a : Int) : Rat) := by
  obtain ⟨k, hk⟩ := hd
  have ha' : (a : Rat) ≠ 0 := fun e => ha (by exact_mod_cast e)
  rw [hk, Int.mul_ediv_cancel_left _ ha]
  show 1 / (a : Rat) * F i = _
  rw [hz.num i, hk, Rat.intCast_mul]
  grind
theorem lzf_hz {base : Nat} {w : World} {v : Value} {n : Nat} {F : Nat → Rat} {e : TypeId} (h : OwnZ base e w v (lzf n F)) (hs : ∀ i, qsz (F i) ≤ 1099511627776) : HzV 0 w v (lzf n F) :=
  ZsV.has h.row fun x hx => by
    obtain ⟨i, hi, rfl⟩ := List.getElem_of_mem hx
    rw [lzf_get]
    have := hs i
    unfold qsz at this; omega
end Go.Hp
namespace Go.Proofs.YtedoifjbgokmcaaGreat
open Go.RowKit Go.Hp
theorem append_nz (W : World) (v x : Value) (base b ty : Nat) (l : List Int) (q : Int) (h : OwnZ base 38 W v l) (hx : NewZ W x b q 38) (hn : l.length ≤ 1099511627776) (hb : base ≤ W.heap.size) :
    ∃ v' w', (Builtin.append_ #[63, 63] ty #[v, x]).run Tryz.prog W = .ok v' w' ∧ (OwnZ base 38 w' v' (l ++ [q]) ∧ Upd (blk v) W w') := by
  obtain ⟨g, cs, rfl, h1, h2, h3, h4⟩ := hx
  obtain ⟨i0, hi, hz0, hz1, hz2⟩ := info_parts info_int
  have ho := IsZ.one h4
  obtain ⟨v', w', a, b, c⟩ := OwnR.append (P := Tryz.prog) h 63 ty i0 _ 32 Tryz.underlying63 hi hz0 hz1 hz2 rfl (by simp [nodig, isDig, Value.cells]) (by decide) ⟨g, 0, none⟩ 1 cs h3 h4 h2.news ho.1 ho.2.1 (small_lenz hn) (by omega) hb (fun _ _ _ k hq => IsZ.kd hq k)
  exact ⟨v', w', a, b, c⟩
set_option maxHeartbeats 1000000 in
theorem content_rz (v : Value) (l : List Int) (w : World) (hv : HzV 0 w v l) (hs : ∀ i, qsz (cz l i) ≤ 549755813888) (hn : l.length ≤ 1099511627776) : Calls Tryz.prog 91 #[v] w (Gives w fun r w' => IsZ w' r (cn (cz l) : Nat)) := by
  obtain ⟨A, c, rfl, hl, hc, hA⟩ := hv
  have HA : Hid (HzAt 0 w A l) := Lib.hid hA; clear hA
  have HS := Lib.hid hs; clear hs
  rw [cn_eq (cz_sup l)]
  go_enter Tryz.func91, Tryz.ntmps91
  go_wp2_with fail
  refine Calls.mono (of_r 0 _ (by omega) (by omega)) ?_
  rintro e w1 ⟨r, rfl, hr, hx1⟩
  obtain ⟨b5, A5, n5, c5, rfl⟩ := hr.cells
  have ea := (Box.new w 38 #[.bool false, .slice none 0 0] (by simp [isDig])).ext hx1
  obtain ⟨W0, eW, eb, x0⟩ := Box.made w1 38 #[.bool b5, .slice A5 n5 c5] (by simp [isDig])
  replace hr := hr.kd x0.kd
  replace ea := ea.ext x0
  have hs1 := hx1.size
  have hx := hx1.a1.trans x0
  have hgb : w.heap.size < w1.heap.size := by simp at hs1; omega
  go_wp2
  rw [← eW]
  clear eW x0 hx1 hs1
  generalize w1.heap.size = gb at *
  go_loopw [4] (fun iv wr => ∃ k : Nat, k ≤ l.length ∧ iv = .int .i64 k ∧ Box wr w.heap.size 38 #[.bool false, .slice none 0 0] ∧ BoxZ wr gb 38 (ct k (cz l) : Nat) ∧ Ext w wr) (fun iv _ => l.length - (intOf iv).toNat)
  case atStart => exact ⟨0, Nat.zero_le _, rfl, ea, BoxZ.mk eb hr, hx⟩
  case round =>
    clear hx ea eb hr
    obtain ⟨k, hk, rfl, ea, ⟨b, B, bn, bc, eb, hb⟩, hx⟩ := hrel
    have Hb := Lib.hid hb; clear hb
    by_cases hkl : k < l.length
    · obtain ⟨g, o, b1, A1, n, c1, rfl, _, q0, q1, hq⟩ := HA.out.at_ (j := k) hkl
      replace q0 := hx.cell q0
      replace q1 := hx.cell q1
      have Hq := Lib.hid (hq.kd hx.kd); clear hq
      have hsk := cn_sz HS.out k
      have hqk := HS.out k
      rw [cz_lt hkl, qsz_cast] at hqk
      have HK := Lib.hid (And.intro hsk hqk); clear hsk hqk
      obtain ⟨r0, r1⟩ := eb.cells2
      have e1 : Int.gcd (ct k (cz l) : Nat) l[k] = ct (k + 1) (cz l) := by rw [ct_succ, cz_lt hkl]; rfl
      have He := Lib.hid e1; clear e1
      go_wp2_with fail
      refine wp_region_par (k := 6) (D := [12, 13, 14, 15, 16, 17]) (T := [[], [], [], [1, 2], [1, 2, 3], [0, 1, 2, 3, 4], [0, 1, 2, 3, 4, 5]]) (EK := [3, 0, 4]) (EV := [?e1x0, ?e1x1, ?e1x2]) (VL := [(kv ?v1x0), (kv ?v1x1), (kv ?v1x2), (kv ?v1x3), (kv ?v1x4), (fun γ => γ 5)]) (FL := fun γ w' => [True, True, True, True, True, IsZ w' (γ 5) (ct (k + 1) (cz l) : Nat)]) ?hE1 (by kernel_rfl) (by kernel_rfl) (by rfl) (by kernel_rfl) ?hloc1 ?hmono1 ?hstep1 ?htail1
      case hE1 => refine ⟨?_, ?_, ?_, trivial⟩ <;> (simp only [List.getElem?_toArray, List.getElem?_cons_succ, List.getElem?_cons_zero]; rfl)
      case hstep1 =>
        refine ⟨⟨⟨⟨⟨⟨trivial, ?_⟩, ?_⟩, ?_⟩, ?_⟩, ?_⟩, ?_⟩
        · intro γ w' he hf; clear hf; refine ⟨trivial, ?_⟩; intro R hR
          have hc := he.cells
          have cq0 := he.cell q0
          have cq1 := he.cell q1
          have cq2 := he.cell r0
          have cq3 := he.cell r1
          go_simp
          (try go_ints); (try (rw [if_neg (by omega)])); (try (rw [if_pos (by omega)])); (try go_simp); (try go_ints)
          refine hR _ _ (Ext.refl _) ?_ trivial
          rfl
        · intro γ w' he hf; clear hf; refine ⟨trivial, ?_⟩; intro R hR
          have hc := he.cells
          go_simp
          (try go_ints); (try (rw [if_neg (by omega)])); (try (rw [if_pos (by omega)])); (try go_simp); (try go_ints)
          refine hR _ _ (Ext.refl _) ?_ trivial
          rfl
        · intro γ w' he hf; clear hf; refine ⟨trivial, ?_⟩; intro R hR
          have hc := he.cells
          go_simp
          (try go_ints); (try (rw [if_neg (by omega)])); (try (rw [if_pos (by omega)])); (try go_simp); (try go_ints)
          refine hR _ _ (Ext.refl _) ?_ trivial
          rfl
        · intro γ w' he hf; clear hf; refine ⟨trivial, ?_⟩; intro R hR
          have hc := he.cells
          go_simp
          (try go_ints); (try (rw [if_neg (by omega)])); (try (rw [if_pos (by omega)])); (try go_simp); (try go_ints)
          refine hR _ _ (Ext.refl _) ?_ trivial
          rfl
        · intro γ w' he hf; clear hf; refine ⟨trivial, ?_⟩; intro R hR
          have hc := he.cells
          have cq0 := he.cell q0
          have cq1 := he.cell q1
          have cq2 := he.cell r0
          have cq3 := he.cell r1
          go_simp
          (try go_ints); (try (rw [if_neg (by omega)])); (try (rw [if_pos (by omega)])); (try go_simp); (try go_ints)
          refine hR _ _ (Ext.refl _) ?_ trivial
          rfl
        · intro γ w' he hf; clear hf; refine ⟨trivial, ?_⟩; intro R hR
          go_simp
          refine Calls.mono (show Calls _ _ _ w' (Gives w' fun r w'' => IsZ w'' (r) (ct (k + 1) (cz l) : Nat)) from He.out ▸ gcd_r _ _ (ct k (cz l) : Nat) l[k] w' ((Hb.out.kd he.kd).has (by have := HK.out.1; simp; omega)) (Hq.out.kd he.kd) (by have := HK.out.1; simp; omega) (by have := HK.out.2; omega)) ?_
          rintro e w2 ⟨v, rfl, hv, hx⟩
          exact ⟨v, rfl, hR v w2 hx rfl hv⟩
      case hloc1 =>
        exact ⟨⟨⟨⟨⟨⟨trivial, (fun γ γ' h => ⟨rfl, fun _ => rfl⟩)⟩, (fun γ γ' h => ⟨rfl, fun _ => rfl⟩)⟩, (fun γ γ' h => ⟨rfl, fun _ => rfl⟩)⟩, (fun γ γ' h => ⟨rfl, fun _ => rfl⟩)⟩, (fun γ γ' h => ⟨rfl, fun _ => rfl⟩)⟩, (fun γ γ' h => ⟨h 5 rfl, fun w' => (congrArg (fun a => IsZ w' (a) (ct (k + 1) (cz l) : Nat)) (h 5 rfl))⟩)⟩
      case hmono1 =>
        exact ⟨⟨⟨⟨⟨⟨trivial, (fun γ wA w' e h => h)⟩, (fun γ wA w' e h => h)⟩, (fun γ wA w' e h => h)⟩, (fun γ wA w' e h => h)⟩, (fun γ wA w' e h => h)⟩, (fun γ wA w' e h => (show IsZ wA (γ 5) (ct (k + 1) (cz l) : Nat) from h).ext e)⟩
      intro γ w2 hx2 hF
      have p5 : IsZ w2 (γ 5) (ct (k + 1) (cz l) : Nat) := Each.get hF 5 (by decide)
      clear hF
      simp only [fillAll, gV, kv, List.getD_cons_zero, List.getD_cons_succ, Act.put, List.setIfInBounds_toArray, List.set_cons_zero, List.set_cons_succ, List.toList_toArray, List.drop_succ_cons, List.drop_zero, List.drop_nil, Nat.zero_add, Nat.reduceAdd]
      generalize γ 5 = g5 at *
      clear γ
      obtain ⟨b6, A6, n6, c6, rfl⟩ := p5.cells
      replace ea := ea.ext hx2
      replace eb := eb.ext hx2
      replace hx := hx.trans hx2
      clear hx2 q0 q1 r0 r1 He HK Hb Hq
      obtain ⟨ceb0, ceb1⟩ := eb.cells2
      have feb := eb.frozen
      go_wp2
      obtain ⟨W3, eW, eb', U⟩ := eb.put2 (.bool b6) (.slice A6 n6 c6) rfl rfl
      rw [← eW]
      clear eW eb
      replace p5 := p5.kd U.kd
      replace ea := ea.upd U (by simp <;> omega)
      replace hx := U.from_ hx (by simp <;> omega)
      have eb := eb'
      clear U eb'
      go_roundw
      case rel => exact ⟨k + 1, by omega, by go_num, ea, BoxZ.mk eb p5, hx⟩
      case measure => simp [intOf]; omega
    · obtain rfl : k = l.length := by omega
      obtain ⟨cea0, cea1⟩ := ea.cells2
      have fea := ea.frozen
      obtain ⟨ceb0, ceb1⟩ := eb.cells2
      have feb := eb.frozen
      go_wp2
      have hr := Hb.out
      obtain ⟨W3, eW, ea', U⟩ := ea.put2 (.bool b) (.slice B bn bc) rfl rfl
      rw [← eW]
      clear eW ea
      replace hr := hr.kd U.kd
      replace hx := U.from_ hx (by simp <;> omega)
      have ea := ea'
      clear U ea'
      clear cea0 cea1
      obtain ⟨cea0, cea1⟩ := ea.cells2
      have fea := ea.frozen
      refine bodyPost_ret (v := .agg #[.bool b, .slice B bn bc]) (by simp [results, Tryz.results91, go_sem, cea0, cea1]) rfl ?_
      exact Gives.mk hr hx
set_option maxRecDepth 20000 in
set_option maxHeartbeats 2000000 in
theorem over_rz (v u : Value) (l : List Int) (a : Int) (w : World) (hv : HzV 0 w v l) (hu : HasZ w u a) (hs : ∀ i, qsz (cz l i) ≤ 549755813888) (sa : sz a.natAbs ≤ 549755813888) (ha : a ≠ 0) (hd : ∀ i, a ∣ (cz l i).num) (hn : l.length ≤ 549755813888) :
    Calls Tryz.prog 94 #[v, u] w (Gives w fun r w' => IsZP w.heap.size w' r (psc (1 / (a : Rat)) (cz l))) := by
  have HU := Lib.hid hu
  obtain ⟨b1, A1, n1, c1, rfl⟩ := hu.cells
  obtain ⟨A, c, rfl, hl, hc, hA⟩ := hv
  clear hu
  have HA : Hid (HzAt 0 w A l) := Lib.hid hA; clear hA
  obtain ⟨G, hG⟩ : ∃ G, G = psc (1 / (a : Rat)) (cz l) := ⟨_, rfl⟩
  have hGi : ∀ i, G i = (((cz l i).num / a : Int) : Rat) := fun i => by rw [hG]; exact div_at (ZI.cz l) ha i (hd i)
  have hGs : Sup l.length G := by rw [hG]; exact (cz_sup l).psc _
  have hGq : ∀ i, qsz (G i) ≤ 549755813888 := fun i => by
    rw [hGi, qsz_cast]
    have h1 := sz_ediv (hd i); have h2 := hs i
    unfold qsz at h2; omega
  rw [← hG]
  have HG := Lib.hid (And.intro hGi (And.intro hGs (And.intro hGq (show ZI G from fun i => ⟨_, hGi i⟩)))); clear hG hGi hGs hGq
  have HS := Lib.hid (And.intro hs (And.intro ha hd)); clear hs ha hd
  go_enter Tryz.func94, Tryz.ntmps94
  go_wp2
  go_loopw [5, 6] (fun ov iv wr => ∃ (k : Nat), k ≤ l.length ∧ iv = .int .i64 k ∧ OwnZ (w.heap.size + 1) 38 wr ov (lzf k G) ∧ Ext (w.alloc (.cells #[.bool b1, .slice A1 n1 c1] 38)) wr) (fun _ iv _ => l.length - (intOf iv).toNat)
  case atStart => exact ⟨0, Nat.zero_le _, rfl, OwnR.nil _ _ _ _ _, Ext.refl _⟩
  case round =>
    obtain ⟨k, hk, rfl, hown, hx⟩ := hrel
    by_cases hkl : k < l.length
    · obtain ⟨g, o, b, A2, n, c2, rfl, _, q0, q1, hq⟩ := HA.out.at_ (j := k) hkl
      replace q0 := hx.a1.cell q0
      replace q1 := hx.a1.cell q1
      have ca0 := hx.box (g := w.heap.size) (i := 0) rfl rfl
      have ca1 := hx.box (g := w.heap.size) (i := 1) rfl rfl
      have hqk := HS.out.1 k
      rw [cz_lt hkl, qsz_cast] at hqk
      have hGk : l[k] / a = (G k).num := by rw [HG.out.1, cz_lt hkl]; rfl
      have Hq := Lib.hid (And.intro hq (And.intro hqk hGk)); clear hq hqk hGk
      have Hown := Lib.hid hown; clear hown
      go_wp2_with fail
      refine wp_region_par (k := 8) (D := [13, 14, 15, 16, 17, 18, 19, 20]) (T := [[], [], [], [1, 2], [1, 2, 3], [], [1, 2, 3, 4, 5], [1, 2, 3, 4, 5, 6], [0, 1, 2, 3, 4, 5, 6, 7], [0, 1, 2, 3, 4, 5, 6, 7, 8]]) (EK := [5, 0, 6, 3]) (EV := [?e2x0, ?e2x1, ?e2x2, ?e2x3]) (VL := [(kv ?v2x0), (kv ?v2x1), (kv ?v2x2), (kv ?v2x3), (kv ?v2x4), (kv ?v2x5), (fun γ => γ 6), (fun γ => γ 7)]) (FL := fun γ w' => [True, True, True, True, True, True, IsZ w' (γ 6) (G k).num, NewZ w' (γ 7) (wr.heap.size) ((G k).num) 38]) ?hE2 (by kernel_rfl) (by kernel_rfl) (by rfl) (by kernel_rfl) ?hloc2 ?hmono2 ?hstep2 ?htail2
      case hE2 => refine ⟨?_, ?_, ?_, ?_, trivial⟩ <;> (simp only [List.getElem?_toArray, List.getElem?_cons_succ, List.getElem?_cons_zero]; rfl)
      case hstep2 =>
        refine ⟨⟨⟨⟨⟨⟨⟨⟨trivial, ?_⟩, ?_⟩, ?_⟩, ?_⟩, ?_⟩, ?_⟩, ?_⟩, ?_⟩
        · intro γ w' he hf; clear hf; refine ⟨trivial, ?_⟩; intro R hR
          have hc := he.cells
          go_simp
          (try go_ints); (try (rw [if_neg (by omega)])); (try (rw [if_pos (by omega)])); (try go_simp); (try go_ints)
          refine hR _ _ (Ext.refl _) ?_ trivial
          rfl
        · intro γ w' he hf; clear hf; refine ⟨trivial, ?_⟩; intro R hR
          have hc := he.cells
          go_simp
          (try go_ints); (try (rw [if_neg (by omega)])); (try (rw [if_pos (by omega)])); (try go_simp); (try go_ints)
          refine hR _ _ (Ext.refl _) ?_ trivial
          rfl
        · intro γ w' he hf; clear hf; refine ⟨trivial, ?_⟩; intro R hR
          have hc := he.cells
          go_simp
          (try go_ints); (try (rw [if_neg (by omega)])); (try (rw [if_pos (by omega)])); (try go_simp); (try go_ints)
          refine hR _ _ (Ext.refl _) ?_ trivial
          rfl
        · intro γ w' he hf; clear hf; refine ⟨trivial, ?_⟩; intro R hR
          have hc := he.cells
          go_simp
          (try go_ints); (try (rw [if_neg (by omega)])); (try (rw [if_pos (by omega)])); (try go_simp); (try go_ints)
          refine hR _ _ (Ext.refl _) ?_ trivial
          rfl
        · intro γ w' he hf; clear hf; refine ⟨trivial, ?_⟩; intro R hR
          have hc := he.cells
          have cq0 := he.cell q0
          have cq1 := he.cell q1
          have cq2 := he.cell ca0
          have cq3 := he.cell ca1
          go_simp
          (try go_ints); (try (rw [if_neg (by omega)])); (try (rw [if_pos (by omega)])); (try go_simp); (try go_ints)
          refine hR _ _ (Ext.refl _) ?_ trivial
          rfl
        · intro γ w' he hf; clear hf; refine ⟨trivial, ?_⟩; intro R hR
          have hc := he.cells
          have cq0 := he.cell q0
          have cq1 := he.cell q1
          have cq2 := he.cell ca0
          have cq3 := he.cell ca1
          go_simp
          (try go_ints); (try (rw [if_neg (by omega)])); (try (rw [if_pos (by omega)])); (try go_simp); (try go_ints)
          refine hR _ _ (Ext.refl _) ?_ trivial
          rfl
        · intro γ w' he hf; clear hf; refine ⟨trivial, ?_⟩; intro R hR
          go_simp
          refine Calls.mono (show Calls _ _ _ w' (Gives w' fun r w'' => IsZ w'' (r) (G k).num) from Hq.out.2.2 ▸ exact_r _ _ _ _ w' (Hq.out.1.kd (hx.a1.trans he).kd) (HU.out.kd (hx.a1.trans he).kd) HS.out.2.1 (by have := Hq.out.2.1; omega) sa) ?_
          rintro e w2 ⟨v, rfl, hv, hx⟩
          exact ⟨v, rfl, hR v w2 hx rfl hv⟩
        · intro γ w' he hf; have f6 : IsZ w' (γ 6) (G k).num := hf 6 (by decide); clear hf; refine ⟨trivial, ?_⟩; intro R hR
          refine IsZ.el f6 fun b5 A5 n5 c5 e6 f6' => ?_
          clear f6
          go_simp
          exact hR _ _ ((Ext.refl _).alloc _) rfl (NewZ.mk f6' (Nat.le_trans (by simp) he.size) _)
      case hloc2 =>
        exact ⟨⟨⟨⟨⟨⟨⟨⟨trivial, (fun γ γ' h => ⟨rfl, fun _ => rfl⟩)⟩, (fun γ γ' h => ⟨rfl, fun _ => rfl⟩)⟩, (fun γ γ' h => ⟨rfl, fun _ => rfl⟩)⟩, (fun γ γ' h => ⟨rfl, fun _ => rfl⟩)⟩, (fun γ γ' h => ⟨rfl, fun _ => rfl⟩)⟩, (fun γ γ' h => ⟨rfl, fun _ => rfl⟩)⟩, (fun γ γ' h => ⟨h 6 rfl, fun w' => (congrArg (fun a => IsZ w' (a) (G k).num) (h 6 rfl))⟩)⟩, (fun γ γ' h => ⟨h 7 rfl, fun w' => (congrArg (fun a => NewZ w' (a) (wr.heap.size) ((G k).num) 38) (h 7 rfl))⟩)⟩
      case hmono2 =>
        exact ⟨⟨⟨⟨⟨⟨⟨⟨trivial, (fun γ wA w' e h => h)⟩, (fun γ wA w' e h => h)⟩, (fun γ wA w' e h => h)⟩, (fun γ wA w' e h => h)⟩, (fun γ wA w' e h => h)⟩, (fun γ wA w' e h => h)⟩, (fun γ wA w' e h => (show IsZ wA (γ 6) (G k).num from h).ext e)⟩, (fun γ wA w' e h => (show NewZ wA (γ 7) (wr.heap.size) ((G k).num) 38 from h).ext e)⟩
      intro γ w1 hx1 hF
      have p6 : IsZ w1 (γ 6) (G k).num := Each.get hF 6 (by decide)
      have p7 : NewZ w1 (γ 7) (wr.heap.size) ((G k).num) 38 := Each.get hF 7 (by decide)
      clear hF
      simp only [fillAll, gV, kv, List.getD_cons_zero, List.getD_cons_succ, Act.put, List.setIfInBounds_toArray, List.set_cons_zero, List.set_cons_succ, List.toList_toArray, List.drop_succ_cons, List.drop_zero, List.drop_nil, Nat.zero_add, Nat.reduceAdd]
      generalize γ 6 = g6 at *
      generalize γ 7 = g7 at *
      clear γ
      have hs : w.heap.size + 1 ≤ wr.heap.size := by have := hx.size; simpa using this
      have hs1 := hx1.size
      refine wpList_append_run rfl _ _ 63 rfl u5 g7 rfl rfl (append_nz w1 _ _ (w.heap.size + 1) _ _ _ _ (Hown.out.ext hx1) p7 (by rw [lzf_len]; omega) (by omega)) ?_
      rintro v' w2 ⟨hown, U⟩
      replace hx := (Hown.out.ext hx1).from_ U (hx.trans hx1) (by simp)
      have Hown' := Lib.hid hown; clear hown U p7 p6 q0 q1 ca0 ca1
      go_wp2
      go_roundw
      case rel => exact ⟨k + 1, by omega, by go_num, by rw [lzf_succ]; exact Hown'.out, hx⟩
      case measure => simp [intOf] <;> omega
    · obtain rfl : k = l.length := by omega
      have hh := lzf_hz hown (fun i => by have := HG.out.2.2.1 i; omega)
      obtain ⟨A2, c2, e2⟩ := hh.len
      rw [lzf_len] at e2
      rw [e2] at hh
      clear hown
      subst e2
      have hczl := cz_lzf HG.out.2.2.2 HG.out.2.1
      have HH := Lib.hid (And.intro hh hczl); clear hh hczl
      go_wp2_with fail
      refine Calls.mono (normal_rz _ _ _ HH.out.1 (by rw [lzf_len]; omega)) ?_
      rintro e w9 ⟨r, rfl, hr, hx9⟩
      rw [HH.out.2] at hr
      have hsz := hx.a1.size
      have Hr := Lib.hid hr; clear hr
      go_wp2
      go_ret
      exact Gives.mk (Hr.out.base_le hsz) (hx.a1.trans hx9)
set_option maxHeartbeats 1000000 in
theorem primitive_rz (v : Value) (l : List Int) (w : World) (hv : HzV 0 w v l) (hs : ∀ i, qsz (cz l i) ≤ 549755813888) (hn : l.length ≤ 549755813888) :
    Calls Tryz.prog 43 #[v] w (Gives w fun r w' => IsZP w.heap.size w' r (pp (cz l))) := by
  have HV := Lib.hid hv
  obtain ⟨A, c, rfl⟩ := hv.len
  clear hv
  have hfin := Fin_.cz l; have hzi := ZI.cz l
  have HX := Lib.hid (And.intro hs (And.intro hfin hzi)); clear hs hfin hzi
  go_enter Tryz.func43, Tryz.ntmps43
  go_wp2_with fail
  refine Calls.mono (content_rz _ l _ HV.out HX.out.1 (by omega)) ?_
  rintro e w1 ⟨r1, rfl, hr1, hx1⟩
  obtain ⟨b5, A5, n5, c5, rfl⟩ := hr1.cells
  obtain ⟨W0, eW, eb, x0⟩ := Box.made w1 38 #[.bool b5, .slice A5 n5 c5] (by simp [isDig])
  replace hr1 := hr1.kd x0.kd
  have hs1 := hx1.size
  replace hx1 := hx1.trans x0
  have hcz : sz ((cn (cz l) : Nat) : Int).natAbs ≤ 549755813888 := by have := cn_sz HX.out.1 (pl (cz l)); simpa [cn] using this
  have Hr1 := Lib.hid (And.intro hr1 hcz); clear hr1 hcz
  subst eW
  clear x0
  obtain ⟨C, hC⟩ : ∃ C, C = cn (cz l) := ⟨_, rfl⟩
  rw [← hC] at Hr1
  have HC := Lib.hid hC; clear hC
  go_upto_region 2 with (fail)
  generalize w1.alloc (.cells #[.bool b5, .slice A5 n5 c5] 38) = W0 at *
  generalize w1.heap.size = gb at *
  obtain ⟨ceb0, ceb1⟩ := eb.cells2
  have feb := eb.frozen
  go_wp2_with fail
  refine Calls.mono (sign_r _ (C : Int) _ (Hr1.out.1.has (by have := Hr1.out.2; omega))) ?_
  rintro e w2 ⟨r2, rfl, rfl, hx2⟩
  by_cases h0 : C = 0
  · have hb : ((C : Int).sign == 0) = true := by rw [h0]; rfl
    have hF : cz l = pz := Classical.byContradiction fun h => cn_ne HX.out.2.2 HX.out.2.1 h (by rw [← HC.out, h0])
    have HF := Lib.hid hF; clear hF h0
    go_wp2
    go_ret
    rw [HF.out, pp_pz]
    exact Gives.mk (IsZP.nil _ _) (hx1.trans hx2)
  · have hb : ((C : Int).sign == 0) = false := by
      have : (C : Int).sign ≠ 0 := fun e => h0 (by have := Int.sign_eq_zero_iff_zero.1 e; omega)
      simpa using this
    have hF : cz l ≠ pz := fun h => h0 (by rw [HC.out, h, cn_pz])
    have HF := Lib.hid hF; clear hF h0
    replace eb := eb.ext hx2
    have Hr2 := Lib.hid (Hr1.out.1.kd hx2.kd)
    replace hx1 := hx1.trans hx2
    have hHC := Hr1.out.2
    clear hx2 ceb0 ceb1 feb
    go_wp2_with fail
    refine Calls.mono (lead_rz _ l _ (HV.out.ext hx1) (by omega)) ?_
    rintro e w3 ⟨r3, rfl, hr3, hx3⟩
    have hlz : sz (ld (cz l)).num.natAbs ≤ 1099511627776 := by have := HX.out.1 (pl (cz l) - 1); unfold qsz at this; show sz (cz l (pl (cz l) - 1)).num.natAbs ≤ _; omega
    have Hr3 := Lib.hid (hr3.has hlz); clear hr3 hlz
    replace eb := eb.ext hx3
    have Hr4 := Lib.hid (Hr2.out.kd hx3.kd)
    replace hx1 := hx1.trans hx3
    clear hx3 Hr2
    go_wp2_with fail
    refine Calls.mono (sign_r _ (ld (cz l)).num _ Hr3.out) ?_
    rintro e w4 ⟨r4, rfl, rfl, hx4⟩
    replace eb := eb.ext hx4
    have Hr2 := Lib.hid (Hr4.out.kd hx4.kd)
    replace hx1 := hx1.trans hx4
    clear hx4 Hr3 Hr4
    have hldz : ld (cz l) = ((ld (cz l)).num : Rat) := HX.out.2.2.num _
    have hpd := fun i => pcn_dvd HX.out.2.1 i
    have hpn := pcn_ne HX.out.2.2 HX.out.2.1 HF.out
    have hpa : sz (pcn (cz l)).natAbs ≤ 549755813888 := by rw [pcn_abs]; simpa [HC.out] using hHC
    by_cases hneg : (ld (cz l)).num < 0
    · have hb2 : decide ((ld (cz l)).num < 0) = true := by simpa using hneg
      have hpc : pcn (cz l) = -(C : Int) := by
        unfold pcn; rw [hldz, if_pos (by exact_mod_cast hneg), HC.out]
      have Hpc := Lib.hid (And.intro hpc (And.intro hpd (And.intro hpn hpa))); clear hpc hldz hpd hpn hpa hneg
      obtain ⟨ceb0, ceb1⟩ := eb.cells2
      have feb := eb.frozen
      go_wp2_with fail
      refine Calls.mono (neg_r _ (C : Int) _ (Hr2.out.has (by omega))) ?_
      rintro e w5 ⟨r5, rfl, hr5, hx5⟩
      obtain ⟨b6, A6, n6, c6, rfl⟩ := hr5.cells
      replace eb := eb.ext hx5
      replace hx1 := hx1.trans hx5
      clear hx5 ceb0 ceb1 feb Hr2
      obtain ⟨ceb0, ceb1⟩ := eb.cells2
      have feb := eb.frozen
      go_upto_region 6 with (fail)
      obtain ⟨W3, eW, eb', U⟩ := eb.put2 (.bool b6) (.slice A6 n6 c6) rfl rfl
      rw [← eW]
      clear eW eb
      replace hr5 := hr5.kd U.kd
      replace hx1 := U.from_ hx1 (by simp <;> omega)
      have eb := eb'
      clear U eb'
      clear ceb0 ceb1 feb
      obtain ⟨ceb0, ceb1⟩ := eb.cells2
      have feb := eb.frozen
      rw [← Hpc.out.1] at hr5
      have Hr5 := Lib.hid (hr5.has (by have := Hpc.out.2.2.2; omega)); clear hr5
      go_wp2_with fail
      refine Calls.mono (over_rz _ _ l (pcn (cz l)) _ (HV.out.ext hx1) Hr5.out HX.out.1 Hpc.out.2.2.2 Hpc.out.2.2.1 Hpc.out.2.1 hn) ?_
      rintro e w6 ⟨r6, rfl, hr6, hx6⟩
      have hsz := hx1.size
      have Hr6 := Lib.hid hr6; clear hr6
      go_wp2
      go_ret
      exact Gives.mk (Hr6.out.base_le hsz) (hx1.trans hx6)
    · have hb2 : decide ((ld (cz l)).num < 0) = false := by simpa using hneg
      have hpc : pcn (cz l) = (C : Int) := by
        unfold pcn; rw [hldz, if_neg (by intro h; exact hneg (by exact_mod_cast h)), HC.out]
      have Hpc := Lib.hid (And.intro hpc (And.intro hpd (And.intro hpn hpa))); clear hpc hldz hpd hpn hpa hneg
      obtain ⟨ceb0, ceb1⟩ := eb.cells2
      have feb := eb.frozen
      have hr5 := Hr2.out
      rw [← Hpc.out.1] at hr5
      have Hr5 := Lib.hid (hr5.has (by have := Hpc.out.2.2.2; omega)); clear hr5
      go_wp2_with fail
      refine Calls.mono (over_rz _ _ l (pcn (cz l)) _ (HV.out.ext hx1) Hr5.out HX.out.1 Hpc.out.2.2.2 Hpc.out.2.2.1 Hpc.out.2.1 hn) ?_
      rintro e w6 ⟨r6, rfl, hr6, hx6⟩
      have hsz := hx1.size
      have Hr6 := Lib.hid hr6; clear hr6
      go_wp2
      go_ret
      exact Gives.mk (Hr6.out.base_le hsz) (hx1.trans hx6)
end Go.Proofs.YtedoifjbgokmcaaGreat
namespace Go.Hp
open Go.RowKit
/-- A pair of an integer and no error. -/
def TupZ (w : World) (v : Value) (x : Int) : Prop := ∃ a, v = .tuple #[a, .int .i64 0] ∧ IsZ w a x
theorem TupZ.ext {w w' : World} {v : Value} {x : Int} (h : TupZ w v x) (e : Ext w w') : TupZ w' v x := by
  obtain ⟨a, h1, h2⟩ := h; exact ⟨a, h1, h2.kd e.kd⟩
theorem IsQ.dens {w : World} {b b' : Bool} {A A' : Option Addr} {n c n' c' : Nat} {q : Rat} (h : IsQ w (.agg #[.bool b, .slice A n c, .bool b', .slice A' n' c']) q) (hs : qsz q ≤ 274877906944) : HasZ w (.agg #[.bool b', .slice A' n' c']) (q.den : Int) ∧ HasZ w (.agg #[.bool b, .slice A n c]) q.num := by
  have h1 := h.parts4
  have h2 := qsz_num q; have h3 := qsz_den q
  exact ⟨h1.2.has (by omega), h1.1.has (by omega)⟩
theorem IsZP.upd {base : Nat} {G : List Nat} {w w' : World} {v : Value} {F : Nat → Rat} (h : IsZP base w v F) (U : Upd G w w') (hG : ∀ g ∈ G, g < base) : IsZP base w' v F := by
  obtain ⟨l, h1, h2, h3⟩ := h; exact ⟨l, RowV.upd h1 U hG fun _ _ q => q.kd U.kd, h2, h3⟩
/-- What Clear gives back. -/
def ClOut (n : Nat) (F : Nat → Rat) (r : Value) (w' : World) : Prop := ∃ a b, r = .tuple #[a, b] ∧ IsZP 0 w' a (pp (clr n F)) ∧ IsQ w' b (cfa n F)
theorem clr_pz (n : Nat) : clr n pz = pz := psc_pz _
theorem cfa_pz (n : Nat) : cfa n pz = 0 := by
  unfold cfa
  rw [clr_pz, pp_pz]
  show (0 : Rat) / 0 = 0
  decide +kernel
end Go.Hp
namespace Go.Proofs.YtedoifjbgokmcaaGreat
open Go.RowKit Go.Hp
theorem append_z (W : World) (base ty g : Nat) (v : Value) (l : List Int) (q : Int) {b : Bool} {A : Option Addr} {n c : Nat} (h : OwnZ base 38 W v l) (hq : IsZ W (.agg #[.bool b, .slice A n c]) q) (hn : l.length ≤ 1099511627776) (hb : base ≤ W.heap.size) (hg : g = W.heap.size) :
    ∃ v' w', (Builtin.append_ #[64, 64] ty #[v, .slice (some ⟨g, 0, none⟩) 1 1]).run Tryz.prog (W.alloc (.cells #[.bool b, .slice A n c] 38)) = .ok v' w' ∧ (OwnZ base 38 w' v' (l ++ [q]) ∧ Upd (blk v) (W.alloc (.cells #[.bool b, .slice A n c] 38)) w') := by
  subst hg
  obtain ⟨g, cs, e1, h1, h2, h3, h4⟩ := NewZ.mk hq (base := W.heap.size) (Nat.le_refl _) 38
  cases e1
  obtain ⟨i0, hi, hz0, hz1, hz2⟩ := info_parts info_int
  have ho := IsZ.one h4
  have hx := (Ext.refl W).alloc (.cells #[.bool b, .slice A n c] 38)
  obtain ⟨v', w', a, b, c⟩ := OwnR.append (P := Tryz.prog) (h.ext hx) 64 ty i0 _ 32 Tryz.underlying64 hi hz0 hz1 hz2 rfl (by simp [nodig, isDig, Value.cells]) (by decide) ⟨W.heap.size, 0, none⟩ 1 cs h3 h4 h2.news ho.1 ho.2.1 (small_lenz hn) (by omega) (Nat.le_trans hb hx.size) (fun _ _ _ k hq => IsZ.kd hq k)
  exact ⟨v', w', a, b, c⟩
set_option maxRecDepth 20000 in
set_option maxHeartbeats 8000000 in
theorem clear_zero (v : Value) (l : List Rat) (w : World) (hv : HsV 0 w v l) (hn : l.length ≤ 1099511627776) (h0 : co l = pz) :
    Calls Tryz.prog 38 #[v] w (Gives w fun r w' => ClOut 0 pz r w') := by
  have HV := Lib.hid hv
  obtain ⟨A0, c0, rfl⟩ := hv.len
  have H0 := Lib.hid h0; clear hv h0
  go_enter Tryz.func38, Tryz.ntmps38
  go_wp2_with fail
  refine Calls.mono (normal_p _ l _ (HV.out.ext ((Ext.refl w).alloc _)) hn) ?_
  rintro e w1 ⟨r1, rfl, hr1, hx1⟩
  rw [H0.out] at hr1
  obtain ⟨A1, c1, l1, rfl, k1, k2, -⟩ := hr1.form
  rw [pl_pz]
  clear hr1 HV k1
  go_wp2_with fail
  refine Calls.mono (of_q 0 _ (by omega) (by omega)) ?_
  rintro e w2 ⟨r2, rfl, hr2, hx2⟩
  obtain ⟨b5, A5, n5, c5, b6, A6, n6, c6, rfl⟩ := hr2.cells
  have ea := ((Box.new w 40 #[.bool false, .slice none 0 0, .bool false, .slice none 0 0] (by simp [isDig])).ext hx1).ext hx2
  have hx := hx1.a1.trans hx2
  obtain ⟨cea0, cea1, cea2, cea3⟩ := ea.cells4
  have fea := ea.frozen
  clear hx1 hx2
  go_wp2
  obtain ⟨W3, eW, ea', U⟩ := ea.put4 (.bool b5) (.slice A5 n5 c5) (.bool b6) (.slice A6 n6 c6) rfl rfl rfl rfl
  rw [← eW]
  clear eW ea
  replace hr2 := hr2.kd U.kd
  replace hx := U.from_ hx (by simp <;> omega)
  have ea := ea'
  clear U ea'
  clear cea0 cea1 cea2 cea3
  obtain ⟨cea0, cea1, cea2, cea3⟩ := ea.cells4
  have fea := ea.frozen
  refine bodyPost_ret (v := .tuple #[.slice none 0 0, .agg #[.bool b5, .slice A5 n5 c5, .bool b6, .slice A6 n6 c6]]) (by simp [results, Tryz.results38, go_sem, cea0, cea1, cea2, cea3]) rfl ?_
  exact Gives.mk ⟨_, _, rfl, by rw [clr_pz, pp_pz]; exact IsZP.nil _ _, by rw [cfa_pz]; exact hr2⟩ hx
set_option maxRecDepth 20000 in
set_option maxHeartbeats 16000000 in
theorem clear_p (v : Value) (l : List Rat) (s : Nat) (w : World) (hv : HsV 0 w v l) (hn : l.length ≤ 1000) (hs : ∀ i, qsz (co l i) ≤ s) (hs0 : s ≤ 1000000) (h0 : co l ≠ pz) :
    Calls Tryz.prog 38 #[v] w (Gives w fun r w' => ClOut (pl (co l)) (co l) r w') := by
  have HV := Lib.hid hv
  obtain ⟨A0, c0, rfl⟩ := hv.len
  have hfin := Fin_.co l
  have hNorm := fun w' (e : Ext w w') => normal_p _ l w' (hv.ext e) (by omega)
  have hplen := pl_le (co_sup l)
  obtain ⟨F, hF⟩ : ∃ F, F = co l := ⟨_, rfl⟩
  rw [← hF] at hfin h0 hs hplen hNorm
  rw [← hF]
  have hpos := pl_pos hfin h0
  obtain ⟨n, hn0⟩ : ∃ n, n = pl F := ⟨_, rfl⟩
  have hsup : Sup n F := by rw [hn0]; exact pl_sup hfin
  have hdl : ∀ k, k ≤ n → sz (dl k F) ≤ 1 + 1000 * 1000000 := fun k hk => by
    have := dl_sz hs k
    have h2 : k * s ≤ 1000 * 1000000 := Nat.mul_le_mul (by omega) hs0
    omega
  have hcq : ∀ i, qsz (clr n F i) ≤ 1 + 1000 * 1000000 + 1 + 1000000 := fun i => by
    have := clr_qsz (n := n) hs i
    have h2 : n * s ≤ 1000 * 1000000 := Nat.mul_le_mul (by omega) hs0
    omega
  rw [← hn0] at hpos ⊢
  have hn3 : n ≤ 1000 := by omega
  have HX := Lib.hid (And.intro hn0 (And.intro hfin (And.intro h0 (And.intro hs (And.intro hs0 (And.intro hsup (And.intro hdl hcq)))))))
  have HN := Lib.hid hNorm
  clear hn0 hfin h0 hs hs0 hsup hdl hcq hNorm hF hv HV hplen hn
  go_enter Tryz.func38, Tryz.ntmps38
  go_wp2_with fail
  refine Calls.mono (HN.out _ ((Ext.refl w).alloc _)) ?_
  rintro e w1 ⟨r1, rfl, hr1, hx1⟩
  obtain ⟨A1, c1, l1, rfl, k1, k2, hA, k3, -, k5⟩ := hr1.form
  rw [← HX.out.1] at k1 k3 ⊢
  have HA := Lib.hid (And.intro hA (And.intro k3 k5)); clear hA k3 k5 hr1 HN
  have ea := (Box.new w 40 #[.bool false, .slice none 0 0, .bool false, .slice none 0 0] (by simp [isDig])).ext hx1
  have hx := hx1.a1
  have hs1 := hx1.size
  rw [World.size_alloc] at hs1
  clear hx1
  go_wp2_with fail
  refine Calls.mono (of_z 1 _ (by omega) (by omega)) ?_
  rintro e w2 ⟨r2, rfl, hr2, hx2⟩
  obtain ⟨b5, A5, n5, c5, rfl⟩ := hr2.cells
  obtain ⟨W0, eW, eb, x0⟩ := Box.made w2 38 #[.bool b5, .slice A5 n5 c5] (by simp [isDig])
  replace hr2 := hr2.kd x0.kd
  have hs2 := hx2.size
  have Hx1 := Lib.hid (hx2.trans x0)
  replace ea := ea.ext (hx2.trans x0)
  have hgb : w.heap.size < w2.heap.size := by omega
  clear hx2
  go_wp2
  rw [← eW]
  clear eW x0
  generalize w2.heap.size = gb at *
  go_loopw [28] (fun iv wr => ∃ k : Nat, k ≤ n ∧ iv = .int .i64 k ∧ Box wr w.heap.size 40 #[.bool false, .slice none 0 0, .bool false, .slice none 0 0] ∧ BoxZ wr gb 38 (dl k F : Nat) ∧ Ext w1 wr) (fun iv _ => n - (intOf iv).toNat)
  case atStart => exact ⟨0, Nat.zero_le _, rfl, ea, BoxZ.mk eb hr2, Hx1.out⟩
  case round =>
    clear ea eb hr2 Hx1
    obtain ⟨k, hk, rfl, ea, ⟨b, B, bn, bc, eb, hb⟩, hx2⟩ := hrel
    have Hb := Lib.hid hb; clear hb
    by_cases hkn : k < n
    · have hkl1 : k < l1.length := by have := HA.out.2.1; omega
      obtain ⟨g, o, b1, B1, n1, d1, b2, B2, n2, d2, rfl, _, q0, q1, q2, q3, hq⟩ := HA.out.1.at_ (j := k) hkl1
      rw [← co_lt, HA.out.2.2] at hq
      replace q0 := hx2.cell q0
      replace q1 := hx2.cell q1
      replace q2 := hx2.cell q2
      replace q3 := hx2.cell q3
      have hqs := HX.out.2.2.2.1 k
      have hqd := (hq.ext hx2).dens (by have := HX.out.2.2.2.2.1; omega)
      have hdk := HX.out.2.2.2.2.2.2.1 k (by omega)
      obtain ⟨L, hL⟩ : ∃ L, L = dl k F := ⟨_, rfl⟩
      obtain ⟨D, hD⟩ : ∃ D, D = (F k).den := ⟨_, rfl⟩
      have hDp : 0 < D := by rw [hD]; exact (F k).den_pos
      have hLp : 0 < L := by rw [hL]; exact dl_pos F k
      have hG : Int.gcd (L : Int) (D : Int) = Nat.gcd L D := Int.gcd_natCast_natCast L D
      have hGp : 0 < Nat.gcd L D := Nat.gcd_pos_of_pos_left _ hLp
      have hGd : ((Nat.gcd L D : Nat) : Int) ∣ (D : Int) := Int.natCast_dvd_natCast.2 (Nat.gcd_dvd_right L D)
      have hGn : ((Nat.gcd L D : Nat) : Int) ≠ 0 := by omega
      have hGs : sz ((Nat.gcd L D : Nat) : Int).natAbs ≤ 1099511627776 := by
        rw [Int.natAbs_natCast]
        have := sz_mono (Nat.le_of_dvd hLp (Nat.gcd_dvd_left L D))
        rw [← hL] at hdk; omega
      have hstep : (L : Int) * ((D : Int) / ((Nat.gcd L D : Nat) : Int)) = (dl (k + 1) F : Nat) := by
        rw [← dl_step, hL, hD]; norm_cast
      obtain ⟨X, hX⟩ : ∃ X : Int, X = (D : Int) / ((Nat.gcd L D : Nat) : Int) := ⟨_, rfl⟩
      rw [← hX] at hstep
      have hXs : sz X.natAbs ≤ 1099511627776 := by
        have h1 := sz_ediv hGd
        rw [← hX] at h1
        have h2 := qsz_den (F k)
        rw [← hD] at h2
        have := HX.out.2.2.2.2.1
        omega
      have hLs : sz ((L : Nat) : Int).natAbs ≤ 1099511627776 := by rw [Int.natAbs_natCast, hL]; omega
      rw [← hL] at Hb
      rw [← hD] at hqd
      have HG := Lib.hid (And.intro hX (And.intro hG (And.intro hGd (And.intro hGn (And.intro hGs (And.intro hstep (And.intro hXs hLs)))))))
      have Hq := Lib.hid hqd.1
      clear hq hqs hqd hdk hG hGp hGd hGn hGs hstep hXs hX hL hD hDp hLp hLs
      go_wp2
      obtain ⟨W9, eW9, e9, x9⟩ := Box.made wr 40 #[.bool b1, .slice B1 n1 d1, .bool b2, .slice B2 n2 d2] (by simp [isDig])
      rw [← eW9]
      clear eW9 q0 q1 q2 q3
      replace hx2 := hx2.trans x9
      replace ea := ea.ext x9
      replace eb := eb.ext x9
      have Hq' := Lib.hid (Hq.out.kd x9.kd)
      have Hb' := Lib.hid ((Hb.out.kd x9.kd).has HG.out.2.2.2.2.2.2.2)
      clear Hq Hb x9
      generalize wr.heap.size = gp at e9 ⊢
      have s0 := e9.cell (i := 0) rfl
      have s1 := e9.cell (i := 1) rfl
      have s2 := e9.cell (i := 2) rfl
      have s3 := e9.cell (i := 3) rfl
      clear e9
      obtain ⟨r0, r1⟩ := eb.cells2
      go_cut [7] (fun pv wy => ∃ gc, pv = .pointer (some ⟨gc, 0, none⟩) ∧ BoxZ wy gc 38 X ∧ Ext W9 wy)
      case first =>
        refine wp_region_late (k := 11) (ℓ := 9) (nl := 1) (D := [33, 34, 35, 36, 37, 38, 39, 32, 40, 41, 7]) (T := [[], [0], [], [], [3], [2, 3, 4], [0, 1, 2, 3, 4, 5], [0, 1, 2, 3, 4, 5, 6], [0, 1, 2, 3, 4, 5, 6, 7], [0, 1, 2, 3, 4, 5, 6, 7], [], [0, 1, 2, 3, 4, 5, 6, 7, 8, 10], [0, 1, 2, 3, 4, 5, 6, 7, 8, 9, 10, 11]]) (EK := [6, 4]) (EV := [?e1x0, ?e1x1]) (VL := [(kv ?v1x0), (kv ?v1x1), (kv ?v1x2), (kv ?v1x3), (kv ?v1x4), (fun γ => γ 5), (fun γ => γ 6), (fun γ => γ 6), (fun γ => γ 8), (kv ?v1x9), (fun γ => γ 10)]) (FL := fun γ w' => [True, True, True, True, True, IsZ w' (γ 5) (Nat.gcd L D : Nat), TupZ w' (γ 6) X, True, IsZ w' (γ 8) X, True, NewAt w' (γ 10) W9.heap.size #[.bool false, .slice none 0 0] 38]) _ rfl ?hE1 (by kernel_rfl) (by kernel_rfl) (by kernel_rfl) (by kernel_rfl) (by kernel_rfl) (by rfl) (by kernel_rfl) ?hloc1 ?hmono1 ?hstep1 ?htail1 ?hlate1
        case hE1 => refine ⟨?_, ?_, trivial⟩ <;> (simp only [List.getElem?_toArray, List.getElem?_cons_succ, List.getElem?_cons_zero]; rfl)
        case hstep1 =>
          refine ⟨⟨⟨⟨⟨⟨⟨⟨⟨⟨⟨trivial, ?_⟩, ?_⟩, ?_⟩, ?_⟩, ?_⟩, ?_⟩, ?_⟩, ?_⟩, ?_⟩, ?_⟩, ?_⟩
          · intro γ w' he hf; clear hf; refine ⟨trivial, ?_⟩; intro R hR
            have hc := he.cells
            go_simp
            (try go_ints); (try (rw [if_neg (by omega)])); (try (rw [if_pos (by omega)])); (try go_simp); (try go_ints)
            refine hR _ _ (Ext.refl _) ?_ trivial
            rfl
          · intro γ w' he hf; clear hf; refine ⟨trivial, ?_⟩; intro R hR
            have hc := he.cells
            have cq0 := he.cell s0
            have cq1 := he.cell s1
            have cq2 := he.cell s2
            have cq3 := he.cell s3
            have cq4 := he.cell r0
            have cq5 := he.cell r1
            go_simp
            (try go_ints); (try (rw [if_neg (by omega)])); (try (rw [if_pos (by omega)])); (try go_simp); (try go_ints)
            refine hR _ _ (Ext.refl _) ?_ trivial
            rfl
          · intro γ w' he hf; clear hf; refine ⟨trivial, ?_⟩; intro R hR
            have hc := he.cells
            have cq0 := he.cell s0
            have cq1 := he.cell s1
            have cq2 := he.cell s2
            have cq3 := he.cell s3
            have cq4 := he.cell r0
            have cq5 := he.cell r1
            go_simp
            (try go_ints); (try (rw [if_neg (by omega)])); (try (rw [if_pos (by omega)])); (try go_simp); (try go_ints)
            refine hR _ _ (Ext.refl _) ?_ trivial
            rfl
          · intro γ w' he hf; clear hf; refine ⟨trivial, ?_⟩; intro R hR
            have hc := he.cells
            go_simp
            (try go_ints); (try (rw [if_neg (by omega)])); (try (rw [if_pos (by omega)])); (try go_simp); (try go_ints)
            refine hR _ _ (Ext.refl _) ?_ trivial
            rfl
          · intro γ w' he hf; clear hf; refine ⟨trivial, ?_⟩; intro R hR
            have hc := he.cells
            have cq0 := he.cell s0
            have cq1 := he.cell s1
            have cq2 := he.cell s2
            have cq3 := he.cell s3
            have cq4 := he.cell r0
            have cq5 := he.cell r1
            go_simp
            (try go_ints); (try (rw [if_neg (by omega)])); (try (rw [if_pos (by omega)])); (try go_simp); (try go_ints)
            refine hR _ _ (Ext.refl _) ?_ trivial
            rfl
          · intro γ w' he hf; clear hf; refine ⟨trivial, ?_⟩; intro R hR
            go_simp
            refine Calls.mono (show Calls _ _ _ w' (Gives w' fun r w'' => IsZ w'' (r) (Nat.gcd L D : Nat)) from HG.out.2.1 ▸ gcd_z _ _ (L : Int) (D : Int) w' (Hb'.out.kd he.kd) (Hq'.out.kd he.kd)) ?_
            rintro e w2 ⟨v, rfl, hv, hx⟩
            exact ⟨v, rfl, hR v w2 hx rfl hv⟩
          · intro γ w' he hf; have f5 : IsZ w' (γ 5) (Nat.gcd L D : Nat) := hf 5 (by decide); clear hf; refine ⟨trivial, ?_⟩; intro R hR
            go_simp
            refine Calls.mono (show Calls _ _ _ w' (Gives w' fun r w'' => TupZ w'' (r) X) from HG.out.1 ▸ exact_z _ _ (D : Int) (Nat.gcd L D : Nat) w' (Hq'.out.kd he.kd) (f5.has HG.out.2.2.2.2.1) HG.out.2.2.2.1 HG.out.2.2.1) ?_
            rintro e w2 ⟨v, rfl, hv, hx⟩
            exact ⟨v, rfl, hR v w2 hx rfl hv⟩
          · intro γ w' he hf; have f5 : IsZ w' (γ 5) (Nat.gcd L D : Nat) := hf 5 (by decide); have f6 : TupZ w' (γ 6) X := hf 6 (by decide); clear hf; refine ⟨trivial, ?_⟩; intro R hR
            have hc := he.cells
            go_simp
            (try go_ints); (try (rw [if_neg (by omega)])); (try (rw [if_pos (by omega)])); (try go_simp); (try go_ints)
            refine hR _ _ (Ext.refl _) ?_ trivial
            rfl
          · intro γ w' he hf; have f5 : IsZ w' (γ 5) (Nat.gcd L D : Nat) := hf 5 (by decide); have f6 : TupZ w' (γ 6) X := hf 6 (by decide); clear hf; refine ⟨trivial, ?_⟩; intro R hR
            obtain ⟨a, e, ha⟩ := f6
            go_simp
            exact hR _ _ (Ext.refl _) rfl ha
          · intro γ w' he hf; have f5 : IsZ w' (γ 5) (Nat.gcd L D : Nat) := hf 5 (by decide); have f6 : TupZ w' (γ 6) X := hf 6 (by decide); clear hf; refine ⟨trivial, ?_⟩; intro R hR
            obtain ⟨a, e, ha⟩ := f6
            have hc := he.cells
            go_simp
            (try go_ints); (try (rw [if_neg (by omega)])); (try (rw [if_pos (by omega)])); (try go_simp); (try go_ints)
            refine hR _ _ (Ext.refl _) ?_ trivial
            rfl
          · intro γ w' he hf; clear hf; refine ⟨trivial, ?_⟩; intro R hR
            go_simp
            exact hR _ _ ((Ext.refl _).alloc _) rfl (NewAt.mk (Nat.le_trans (by simp) he.size) (by simp [isDig]))
        case hloc1 =>
          exact ⟨⟨⟨⟨⟨⟨⟨⟨⟨⟨⟨trivial, (fun γ γ' h => ⟨rfl, fun _ => rfl⟩)⟩, (fun γ γ' h => ⟨rfl, fun _ => rfl⟩)⟩, (fun γ γ' h => ⟨rfl, fun _ => rfl⟩)⟩, (fun γ γ' h => ⟨rfl, fun _ => rfl⟩)⟩, (fun γ γ' h => ⟨rfl, fun _ => rfl⟩)⟩, (fun γ γ' h => ⟨h 5 rfl, fun w' => (congrArg (fun a => IsZ w' (a) (Nat.gcd L D : Nat)) (h 5 rfl))⟩)⟩, (fun γ γ' h => ⟨h 6 rfl, fun w' => (congrArg (fun a => TupZ w' (a) X) (h 6 rfl))⟩)⟩, (fun γ γ' h => ⟨(congrArg (fun a => a) (h 6 rfl)), fun _ => rfl⟩)⟩, (fun γ γ' h => ⟨h 8 rfl, fun w' => (congrArg (fun a => IsZ w' (a) X) (h 8 rfl))⟩)⟩, (fun γ γ' h => ⟨rfl, fun _ => rfl⟩)⟩, (fun γ γ' h => ⟨h 10 rfl, fun w' => (congrArg (fun a => NewAt w' (a) W9.heap.size #[.bool false, .slice none 0 0] 38) (h 10 rfl))⟩)⟩
        case hmono1 =>
          exact ⟨⟨⟨⟨⟨⟨⟨⟨⟨⟨⟨trivial, (fun γ wA w' e h => h)⟩, (fun γ wA w' e h => h)⟩, (fun γ wA w' e h => h)⟩, (fun γ wA w' e h => h)⟩, (fun γ wA w' e h => h)⟩, (fun γ wA w' e h => (show IsZ wA (γ 5) (Nat.gcd L D : Nat) from h).ext e)⟩, (fun γ wA w' e h => (show TupZ wA (γ 6) X from h).ext e)⟩, (fun γ wA w' e h => h)⟩, (fun γ w w' e h => IsZ.ext_ h e)⟩, (fun γ wA w' e h => h)⟩, (fun γ wA w' e h => (show NewAt wA (γ 10) W9.heap.size #[.bool false, .slice none 0 0] 38 from h).ext e)⟩
        case hlate1 =>
          intro γ w8 hx8 hF
          have p5 : IsZ w8 (γ 5) (Nat.gcd L D : Nat) := (Each.get hF 5 (by decide)).resolve_left (by decide)
          have p6 : TupZ w8 (γ 6) X := (Each.get hF 6 (by decide)).resolve_left (by decide)
          have p8 : IsZ w8 (γ 8) X := (Each.get hF 8 (by decide)).resolve_left (by decide)
          have p10 : NewAt w8 (γ 10) W9.heap.size #[.bool false, .slice none 0 0] 38 := (Each.get hF 10 (by decide)).resolve_left (by decide)
          clear hF
          simp only [fillAll, gV, kv, List.getD_cons_zero, List.getD_cons_succ, Act.put, List.setIfInBounds_toArray, List.set_cons_zero, List.set_cons_succ, List.toList_toArray, List.drop_succ_cons, List.drop_zero, List.drop_nil, Nat.zero_add, Nat.reduceAdd, lateP, Array.getD_eq_getD_getElem?, List.getElem?_toArray, List.getElem?_cons_succ, List.getElem?_cons_zero, Option.getD_some]
          generalize γ 5 = g5 at *
          generalize γ 6 = g6 at *
          generalize γ 8 = g8 at *
          generalize γ 10 = g10 at *
          clear γ
          obtain ⟨a6, rfl, -⟩ := p6
          obtain ⟨gc, rfl, hgc, ec⟩ := p10
          obtain ⟨b7, A7, n7, c7, rfl⟩ := p8.cells
          clear s0 s1 s2 s3 r0 r1 p5
          obtain ⟨cec0, cec1⟩ := ec.cells2
          have fec := ec.frozen
          go_wp2
          refine ⟨?_, trivial⟩
          go_wp2
          skip
          obtain ⟨W4, eW, ec', U⟩ := ec.put2 (.bool b7) (.slice A7 n7 c7) rfl rfl
          rw [← eW]
          clear eW ec
          replace p8 := p8.kd U.kd
          replace hx8 := U.from_ hx8 (by simp <;> omega)
          have ec := ec'
          clear U ec'
          go_meet
          case rel => exact ⟨gc, rfl, BoxZ.mk ec p8, hx8⟩
        intro γ w8 hx8 hF
        have p5 : IsZ w8 (γ 5) (Nat.gcd L D : Nat) := Each.get hF 5 (by decide)
        have p6 : TupZ w8 (γ 6) X := Each.get hF 6 (by decide)
        have p8 : IsZ w8 (γ 8) X := Each.get hF 8 (by decide)
        have p10 : NewAt w8 (γ 10) W9.heap.size #[.bool false, .slice none 0 0] 38 := Each.get hF 10 (by decide)
        clear hF
        simp only [fillAll, gV, kv, List.getD_cons_zero, List.getD_cons_succ, Act.put, List.setIfInBounds_toArray, List.set_cons_zero, List.set_cons_succ, List.toList_toArray, List.drop_succ_cons, List.drop_zero, List.drop_nil, Nat.zero_add, Nat.reduceAdd]
        generalize γ 5 = g5 at *
        generalize γ 6 = g6 at *
        generalize γ 8 = g8 at *
        generalize γ 10 = g10 at *
        clear γ
        obtain ⟨a6, rfl, -⟩ := p6
        obtain ⟨gc, rfl, hgc, ec⟩ := p10
        obtain ⟨b7, A7, n7, c7, rfl⟩ := p8.cells
        clear s0 s1 s2 s3 r0 r1 p5
        obtain ⟨cec0, cec1⟩ := ec.cells2
        have fec := ec.frozen
        go_wp2
        skip
        obtain ⟨W4, eW, ec', U⟩ := ec.put2 (.bool b7) (.slice A7 n7 c7) rfl rfl
        rw [← eW]
        clear eW ec
        replace p8 := p8.kd U.kd
        replace hx8 := U.from_ hx8 (by simp <;> omega)
        have ec := ec'
        clear U ec'
        go_meet
        case rel => exact ⟨gc, rfl, BoxZ.mk ec p8, hx8⟩
      case rest =>
        clear s0 s1 s2 s3 r0 r1
        obtain ⟨gc, rfl, ⟨b7, A7, n7, c7, ec, hc⟩, hx3⟩ := hcut
        have Hc := Lib.hid (hc.has HG.out.2.2.2.2.2.2.1); clear hc
        replace ea := ea.ext hx3
        replace eb := eb.ext hx3
        replace hx2 := hx2.trans hx3
        obtain ⟨cec0, cec1⟩ := ec.cells2
        have fec := ec.frozen
        obtain ⟨ceb0, ceb1⟩ := eb.cells2
        have feb := eb.frozen
        go_wp2_with fail
        refine Calls.mono (mul_z _ _ (L : Int) X _ (Hb'.out.kd hx3.kd) Hc.out) ?_
        rintro e w4 ⟨r4, rfl, hr4, hx4⟩
        rw [HG.out.2.2.2.2.2.1] at hr4
        obtain ⟨b8, A8, n8, c8, rfl⟩ := hr4.cells
        replace ea := ea.ext hx4
        replace eb := eb.ext hx4
        replace hx2 := hx2.trans hx4
        clear ceb0 ceb1 feb cec0 cec1 fec ec hx3 hx4 Hc Hb' Hq'
        obtain ⟨ceb0, ceb1⟩ := eb.cells2
        have feb := eb.frozen
        go_wp2
        obtain ⟨W5, eW, eb', U⟩ := eb.put2 (.bool b8) (.slice A8 n8 c8) rfl rfl
        rw [← eW]
        clear eW eb
        replace hr4 := hr4.kd U.kd
        replace ea := ea.upd U (by simp <;> omega)
        replace hx2 := U.from_ hx2 (by simp <;> omega)
        have eb := eb'
        clear U eb'
        go_roundw
        case rel => exact ⟨k + 1, by omega, by go_num, ea, BoxZ.mk eb hr4, hx2⟩
        case measure => simp [intOf] <;> omega
    · obtain rfl : n = k := by omega
      have hgbl := eb.lt
      have hb0 := Hb.out
      go_wp2
      go_loopw [9, 48] (fun zv iv wr => ∃ k : Nat, k ≤ n ∧ iv = .int .i64 k ∧ OwnZ (gb + 1) 38 wr zv (lzf k (clr n F)) ∧ Box wr w.heap.size 40 #[.bool false, .slice none 0 0, .bool false, .slice none 0 0] ∧ Box wr gb 38 #[.bool b, .slice B bn bc] ∧ IsZ wr (.agg #[.bool b, .slice B bn bc]) (dl n F : Nat) ∧ Ext w1 wr) (fun _ iv _ => n - (intOf iv).toNat)
      case atStart => exact ⟨0, Nat.zero_le _, rfl, OwnR.nil _ _ _ _ _, ea, eb, hb0, hx2⟩
      case round =>
        clear ea eb hx2 hgbl hb0 Hb
        obtain ⟨k, hk, rfl, hown, ea, eb, hb, hx2⟩ := hrel
        have Hb := Lib.hid hb; clear hb
        have hgbl := eb.lt
        by_cases hkn : k < n
        · have hkl1 : k < l1.length := by have := HA.out.2.1; omega
          obtain ⟨g, o, b1, B1, n1, d1, b2, B2, n2, d2, rfl, _, q0, q1, q2, q3, hq⟩ := HA.out.1.at_ (j := k) hkl1
          rw [← co_lt, HA.out.2.2] at hq
          replace q0 := hx2.cell q0
          replace q1 := hx2.cell q1
          replace q2 := hx2.cell q2
          replace q3 := hx2.cell q3
          have hqs := HX.out.2.2.2.1 k
          have hqd := (hq.ext hx2).dens (by have := HX.out.2.2.2.2.1; omega)
          have hdk := HX.out.2.2.2.2.2.2.1 n (Nat.le_refl _)
          obtain ⟨L, hL⟩ : ∃ L, L = dl n F := ⟨_, rfl⟩
          obtain ⟨D, hD⟩ : ∃ D, D = (F k).den := ⟨_, rfl⟩
          have hDn : (D : Int) ≠ 0 := by have := (F k).den_pos; omega
          have hDd : (D : Int) ∣ (L : Int) := by rw [hD, hL]; exact Int.natCast_dvd_natCast.2 (dl_dvd F n k hkn)
          have hval : (F k).num * ((L : Int) / (D : Int)) = (clr n F k).num := by rw [clr_num HX.out.2.2.2.2.2.1, hL, hD]
          obtain ⟨X, hX⟩ : ∃ X : Int, X = (L : Int) / (D : Int) := ⟨_, rfl⟩
          rw [← hX] at hval
          have hLs : sz ((L : Nat) : Int).natAbs ≤ 1099511627776 := by rw [Int.natAbs_natCast, hL]; omega
          have hXs : sz X.natAbs ≤ 1099511627776 := by
            have h1 := sz_ediv hDd
            rw [← hX] at h1; omega
          rw [← hL] at Hb
          rw [← hD] at hqd
          have HG := Lib.hid (And.intro hX (And.intro hDn (And.intro hDd (And.intro hval (And.intro hLs (And.intro hXs hL))))))
          have Hq := Lib.hid hqd
          have Hown := Lib.hid hown
          clear hq hqs hqd hdk hDn hDd hval hX hL hD hLs hXs hown
          have hB9 := Box.made wr 40 #[.bool b1, .slice B1 n1 d1, .bool b2, .slice B2 n2 d2] (by simp [isDig])
          obtain ⟨W9, eW9, e9, x9⟩ := hB9
          go_upto_region 15 with (fail)
          rw [← eW9]
          clear eW9 q0 q1 q2 q3
          replace hx2 := hx2.trans x9
          replace ea := ea.ext x9
          replace eb := eb.ext x9
          have Hq' := Lib.hid (And.intro (Hq.out.1.kd x9.kd) (Hq.out.2.kd x9.kd))
          have Hb' := Lib.hid (Hb.out.kd x9.kd)
          have Hown' := Lib.hid (Hown.out.ext x9)
          have hgb9 := eb.lt
          clear Hq Hb Hown x9
          generalize wr.heap.size = gp at e9 ⊢
          have s0 := e9.cell (i := 0) rfl
          have s1 := e9.cell (i := 1) rfl
          have s2 := e9.cell (i := 2) rfl
          have s3 := e9.cell (i := 3) rfl
          clear e9
          obtain ⟨r0, r1⟩ := eb.cells2
          go_wp2_with fail
          refine Calls.mono (exact_z _ _ (L : Int) (D : Int) _ (Hb'.out.has HG.out.2.2.2.2.1) Hq'.out.1 HG.out.2.1 HG.out.2.2.1) ?_
          rintro e w3 ⟨r3, rfl, ⟨a3, rfl, hr3⟩, hx3⟩
          rw [← HG.out.1] at hr3
          obtain ⟨b7, A7, n7, c7, rfl⟩ := hr3.cells
          have hBa := Box.made w3 38 #[.bool b7, .slice A7 n7 c7] (by simp [isDig])
          obtain ⟨Wa, eWa, e5, xa⟩ := hBa
          clear r0 r1
          go_upto_region 16 with (fail)
          rw [← eWa]
          replace hx3 := hx3.trans xa
          have Hr3 := Lib.hid ((hr3.kd xa.kd).has HG.out.2.2.2.2.2.1)
          clear eWa xa hr3
          generalize w3.heap.size = gq at e5 ⊢
          obtain ⟨ce50, ce51⟩ := e5.cells2
          have fe5 := e5.frozen
          replace s0 := hx3.cell s0
          replace s1 := hx3.cell s1
          replace s2 := hx3.cell s2
          replace s3 := hx3.cell s3
          replace ea := ea.ext hx3
          replace eb := eb.ext hx3
          replace hx2 := hx2.trans hx3
          have Hb := Lib.hid (Hb'.out.kd hx3.kd)
          have Hown := Lib.hid (Hown'.out.ext hx3)
          go_wp2_with fail
          refine Calls.mono (mul_z _ _ (F k).num X _ (Hq'.out.2.kd hx3.kd) Hr3.out) ?_
          rintro e w4 ⟨r4, rfl, hr4, hx4⟩
          rw [HG.out.2.2.2.1] at hr4
          obtain ⟨b8, A8, n8, c8, rfl⟩ := hr4.cells
          have Hr := Lib.hid hr4; clear hr4
          replace ea := ea.ext hx4
          replace eb := eb.ext hx4
          replace hx2 := hx2.trans hx4
          have Hb' := Lib.hid (Hb.out.kd hx4.kd)
          have Hown' := Lib.hid (Hown.out.ext hx4)
          have hsz := eb.lt
          clear s0 s1 s2 s3 hx3 hx4 e5 ce50 ce51 fe5 Hr3 Hq' Hb Hown
          go_wp2_with (at_builtin; refine wpList_append_run rfl _ _ 64 rfl u9 (.slice (some ⟨w4.heap.size, 0, none⟩) 1 1) rfl rfl (append_z w4 (gb + 1) _ _ _ _ _ Hown'.out Hr.out (by rw [lzf_len]; omega) (by omega) rfl) ?_)
          first | intro v' w5 hown U | rintro v' w5 ⟨hown, U⟩
          have hb2 := OwnR.blk_ge (Hown'.out.ext ((Ext.refl w4).alloc (.cells #[.bool b8, .slice A8 n8 c8] 38)))
          have hx5 := (Ext.refl w4).alloc (.cells #[.bool b8, .slice A8 n8 c8] 38)
          replace ea := (ea.ext hx5).upd U (fun hm => by have := (hb2 _ hm).1; omega)
          replace eb := (eb.ext hx5).upd U (fun hm => by have := (hb2 _ hm).1; omega)
          have Hb := Lib.hid ((Hb'.out.kd hx5.kd).kd U.kd)
          replace hx2 := U.from_ (hx2.trans hx5) (fun g hg => by have := (hb2 _ hg).1; omega)
          have Hown := Lib.hid hown
          clear hown U hb2 hx5 Hb' Hown'
          go_wp2
          go_roundw
          case rel => exact ⟨k + 1, by omega, by go_num, by rw [lzf_succ]; exact Hown.out, ea, eb, by rw [← HG.out.2.2.2.2.2.2]; exact Hb.out, hx2⟩
          case measure => simp [intOf] <;> omega
        · obtain rfl : n = k := by omega
          obtain ⟨A2, c2, hv2⟩ := (OwnZ.row hown).len
          rw [lzf_len] at hv2
          have hz2 := lzf_hz hown (fun i => by have := HX.out.2.2.2.2.2.2.2 i; omega)
          have hzs := OwnZ.row hown
          rw [hv2] at hz2 hzs
          have hczl := cz_lzf (clr_zi HX.out.2.2.2.2.2.1) (show Sup n (clr n F) from (HX.out.2.2.2.2.2.1).psc _)
          have Hz := Lib.hid (And.intro hz2 (And.intro hzs hczl)); clear hz2 hzs hczl hown
          subst hv2
          go_wp2_with fail
          refine Calls.mono (primitive_zp _ _ _ Hz.out.1 (by rw [lzf_len]; omega)) ?_
          rintro e w2 ⟨r2, rfl, hr2, hx3⟩
          rw [Hz.out.2.2] at hr2
          replace ea := ea.ext hx3
          replace eb := eb.ext hx3
          replace hx2 := hx2.trans hx3
          have Hb' := Lib.hid (Hb.out.kd hx3.kd)
          have hzz := Hz.out.2.1.ext hx3
          obtain ⟨A3, c3, l3, rfl, k3, k4, hA3, k5, -, k6⟩ := hr2.form
          have hppl : pl (pp (clr n F)) = n := by
            rw [pp_pl (clr_zi HX.out.2.2.2.2.2.1) (clr_fin HX.out.2.1), clr_pl HX.out.2.1, ← HX.out.1]
          rw [hppl] at k3 k5 hr2 ⊢
          have hlast : n - 1 < (lzf n (clr n F)).length := by rw [lzf_len]; omega
          obtain ⟨gz, oz, y1, Y1, yn1, yc1, rfl, _, q0, q1, hqz⟩ := hzz.at_ (j := n - 1) hlast
          obtain ⟨gg, og, z1, Z1, zn1, zc1, rfl, _, p0, p1, hqg⟩ := hA3.at_ (j := n - 1) (by omega)
          rw [lzf_get] at hqz
          have hg3 : l3[n - 1]'(by omega) = (pp (clr n F) (n - 1)).num := by
            have := cz_lt (l := l3) (i := n - 1) (by omega)
            rw [k6] at this
            rw [this]; rfl
          rw [hg3] at hqg
          have hzn := clr_zi HX.out.2.2.2.2.2.1
          have hfn := clr_fin (n := n) HX.out.2.1
          have hne := clr_ne (n := n) HX.out.2.1 HX.out.2.2.1
          have hpn := pcn_ne hzn hfn hne
          have hpd := pcn_dvd hfn (n - 1)
          have hpa : (pp (clr n F) (n - 1)).num = (clr n F (n - 1)).num / pcn (clr n F) := by rw [pp_at hzn hfn hne]; rfl
          have htop : (clr n F (n - 1)).num ≠ 0 := by
            have h1 := pl_top hfn (by rw [clr_pl HX.out.2.1, ← HX.out.1]; exact hpos)
            rw [clr_pl HX.out.2.1, ← HX.out.1] at h1
            intro e
            exact h1 (by rw [hzn.num, e]; rfl)
          obtain ⟨u, hu⟩ := hpd
          have hpu : (pp (clr n F) (n - 1)).num = u := by rw [hpa, hu, Int.mul_ediv_cancel_left _ hpn]
          have hun : u ≠ 0 := fun e => htop (by rw [hu, e, Int.mul_zero])
          rw [hpu] at hqg
          have hquo : (clr n F (n - 1)).num / u = pcn (clr n F) := by rw [hu, Int.mul_ediv_cancel _ hun]
          have hdv : u ∣ (clr n F (n - 1)).num := ⟨pcn (clr n F), by rw [hu, Int.mul_comm]⟩
          have hcs := HX.out.2.2.2.2.2.2.2 (n - 1)
          have hzs1 : sz (clr n F (n - 1)).num.natAbs ≤ 1099511627776 := by unfold qsz at hcs; omega
          have hus : sz u.natAbs ≤ 1099511627776 := by
            have h1 := pp_qsz hzn hfn HX.out.2.2.2.2.2.2.2 (n - 1)
            unfold qsz at h1
            rw [hpu] at h1; omega
          have hpcs : sz (pcn (clr n F)).natAbs ≤ 1099511627776 := by
            rw [pcn_abs]
            have := cn_sz HX.out.2.2.2.2.2.2.2 (pl (clr n F))
            show sz (ct _ _) ≤ _
            omega
          have hdl := HX.out.2.2.2.2.2.2.1 n (Nat.le_refl _)
          have hdl2 : sz (((dl n F : Nat) : Int)).natAbs ≤ 1099511627776 := by rw [Int.natAbs_natCast]; omega
          have hdln : ((dl n F : Nat) : Int) ≠ 0 := by have := dl_pos F n; omega
          have hcf := (cfa_eq HX.out.2.2.2.2.2.1 HX.out.2.2.1).1
          have hcf2 : Rat.divInt (pcn (clr n F)) ((dl n F : Nat) : Int) = cfa n F := by rw [hcf]; exact (divInt_eq _ _).symm
          have HQ := Lib.hid (And.intro (hqz.has hzs1) (And.intro (hqg.has hus) (And.intro hun (And.intro hdv (And.intro hquo (And.intro hpcs (And.intro hdl2 (And.intro hdln hcf2))))))))
          have HP := Lib.hid hr2
          clear hqz hqg hg3 hzn hfn hne hpn hpa htop hu hpu hun hquo hdv hcs hzs1 hus hpcs hdl hdl2 hdln hcf hcf2 hr2 hA3 k5 k6 hppl hzz hlast hx3
          go_upto_region 19 with (fail)
          obtain ⟨wt, hwt⟩ : ∃ wt : World, wt = w2 := ⟨_, rfl⟩
          subst hwt
          go_cut [15] (fun pv wy => ∃ gc, pv = .pointer (some ⟨gc, 0, none⟩) ∧ BoxZ wy gc 38 (pcn (clr n F)) ∧ Ext wt wy)
          case first =>
            refine wp_region_late (k := 17) (ℓ := 15) (nl := 1) (D := [70, 71, 72, 73, 74, 75, 76, 77, 78, 79, 80, 81, 82, 69, 83, 84, 15]) (T := [[], [], [1], [1, 2], [0, 1, 2, 3], [0, 1, 2, 3, 4], [], [], [7], [7, 8], [6, 7, 8, 9], [6, 7, 8, 9, 10], [0, 1, 2, 3, 4, 5, 6, 7, 8, 9, 10, 11], [0, 1, 2, 3, 4, 5, 6, 7, 8, 9, 10, 11, 12], [0, 1, 2, 3, 4, 5, 6, 7, 8, 9, 10, 11, 12, 13], [0, 1, 2, 3, 4, 5, 6, 7, 8, 9, 10, 11, 12, 13], [], [0, 1, 2, 3, 4, 5, 6, 7, 8, 9, 10, 11, 12, 13, 14, 16], [0, 1, 2, 3, 4, 5, 6, 7, 8, 9, 10, 11, 12, 13, 14, 15, 16, 17]]) (EK := [9, 14]) (EV := [?e2x0, ?e2x1]) (VL := [(kv ?v2x0), (kv ?v2x1), (kv ?v2x2), (kv ?v2x3), (kv ?v2x4), (kv ?v2x5), (kv ?v2x6), (kv ?v2x7), (kv ?v2x8), (kv ?v2x9), (kv ?v2x10), (kv ?v2x11), (fun γ => γ 12), (fun γ => γ 12), (fun γ => γ 14), (kv ?v2x15), (fun γ => γ 16)]) (FL := fun γ w' => [True, True, True, True, True, True, True, True, True, True, True, True, TupZ w' (γ 12) (pcn (clr n F)), True, IsZ w' (γ 14) (pcn (clr n F)), True, NewAt w' (γ 16) wt.heap.size #[.bool false, .slice none 0 0] 38]) _ rfl ?hE2 (by kernel_rfl) (by kernel_rfl) (by kernel_rfl) (by kernel_rfl) (by kernel_rfl) (by rfl) (by kernel_rfl) ?hloc2 ?hmono2 ?hstep2 ?htail2 ?hlate2
            case hE2 => refine ⟨?_, ?_, trivial⟩ <;> (simp only [List.getElem?_toArray, List.getElem?_cons_succ, List.getElem?_cons_zero]; rfl)
            case hstep2 =>
              refine ⟨⟨⟨⟨⟨⟨⟨⟨⟨⟨⟨⟨⟨⟨⟨⟨⟨trivial, ?_⟩, ?_⟩, ?_⟩, ?_⟩, ?_⟩, ?_⟩, ?_⟩, ?_⟩, ?_⟩, ?_⟩, ?_⟩, ?_⟩, ?_⟩, ?_⟩, ?_⟩, ?_⟩, ?_⟩
              · intro γ w' he hf; clear hf; refine ⟨trivial, ?_⟩; intro R hR
                have hc := he.cells
                go_simp
                (try go_ints); (try (rw [if_neg (by omega)])); (try (rw [if_pos (by omega)])); (try go_simp); (try go_ints)
                refine hR _ _ (Ext.refl _) ?_ trivial
                rfl
              · intro γ w' he hf; clear hf; refine ⟨trivial, ?_⟩; intro R hR
                have hc := he.cells
                go_simp
                (try go_ints); (try (rw [if_neg (by omega)])); (try (rw [if_pos (by omega)])); (try go_simp); (try go_ints)
                refine hR _ _ (Ext.refl _) ?_ trivial
                rfl
              · intro γ w' he hf; clear hf; refine ⟨trivial, ?_⟩; intro R hR
                have hc := he.cells
                go_simp
                (try go_ints); (try (rw [if_neg (by omega)])); (try (rw [if_pos (by omega)])); (try go_simp); (try go_ints)
                refine hR _ _ (Ext.refl _) ?_ trivial
                rfl
              · intro γ w' he hf; clear hf; refine ⟨trivial, ?_⟩; intro R hR
                have hc := he.cells
                go_simp
                (try go_ints); (try (rw [if_neg (by omega)])); (try (rw [if_pos (by omega)])); (try go_simp); (try go_ints)
                refine hR _ _ (Ext.refl _) ?_ trivial
                rfl
              · intro γ w' he hf; clear hf; refine ⟨trivial, ?_⟩; intro R hR
                have hc := he.cells
                go_simp
                (try go_ints); (try (rw [if_neg (by omega)])); (try (rw [if_pos (by omega)])); (try go_simp); (try go_ints)
                refine hR _ _ (Ext.refl _) ?_ trivial
                rfl
              · intro γ w' he hf; clear hf; refine ⟨trivial, ?_⟩; intro R hR
                have hc := he.cells
                have cq0 := he.cell q0
                have cq1 := he.cell q1
                have cq2 := he.cell p0
                have cq3 := he.cell p1
                go_simp
                (try go_ints); (try (rw [if_neg (by omega)])); (try (rw [if_pos (by omega)])); (try go_simp); (try go_ints)
                refine hR _ _ (Ext.refl _) ?_ trivial
                rfl
              · intro γ w' he hf; clear hf; refine ⟨trivial, ?_⟩; intro R hR
                have hc := he.cells
                go_simp
                (try go_ints); (try (rw [if_neg (by omega)])); (try (rw [if_pos (by omega)])); (try go_simp); (try go_ints)
                refine hR _ _ (Ext.refl _) ?_ trivial
                rfl
              · intro γ w' he hf; clear hf; refine ⟨trivial, ?_⟩; intro R hR
                have hc := he.cells
                go_simp
                (try go_ints); (try (rw [if_neg (by omega)])); (try (rw [if_pos (by omega)])); (try go_simp); (try go_ints)
                refine hR _ _ (Ext.refl _) ?_ trivial
                rfl
              · intro γ w' he hf; clear hf; refine ⟨trivial, ?_⟩; intro R hR
                have hc := he.cells
                go_simp
                (try go_ints); (try (rw [if_neg (by omega)])); (try (rw [if_pos (by omega)])); (try go_simp); (try go_ints)
                refine hR _ _ (Ext.refl _) ?_ trivial
                rfl
              · intro γ w' he hf; clear hf; refine ⟨trivial, ?_⟩; intro R hR
                have hc := he.cells
                go_simp
                (try go_ints); (try (rw [if_neg (by omega)])); (try (rw [if_pos (by omega)])); (try go_simp); (try go_ints)
                refine hR _ _ (Ext.refl _) ?_ trivial
                rfl
              · intro γ w' he hf; clear hf; refine ⟨trivial, ?_⟩; intro R hR
                have hc := he.cells
                go_simp
                (try go_ints); (try (rw [if_neg (by omega)])); (try (rw [if_pos (by omega)])); (try go_simp); (try go_ints)
                refine hR _ _ (Ext.refl _) ?_ trivial
                rfl
              · intro γ w' he hf; clear hf; refine ⟨trivial, ?_⟩; intro R hR
                have hc := he.cells
                have cq0 := he.cell q0
                have cq1 := he.cell q1
                have cq2 := he.cell p0
                have cq3 := he.cell p1
                go_simp
                (try go_ints); (try (rw [if_neg (by omega)])); (try (rw [if_pos (by omega)])); (try go_simp); (try go_ints)
                refine hR _ _ (Ext.refl _) ?_ trivial
                rfl
              · intro γ w' he hf; clear hf; refine ⟨trivial, ?_⟩; intro R hR
                go_simp
                refine Calls.mono (show Calls _ _ _ w' (Gives w' fun r w'' => TupZ w'' (r) (pcn (clr n F))) from HQ.out.2.2.2.2.1 ▸ exact_z _ _ _ _ w' (HQ.out.1.kd he.kd) (HQ.out.2.1.kd he.kd) HQ.out.2.2.1 HQ.out.2.2.2.1) ?_
                rintro e w2 ⟨v, rfl, hv, hx⟩
                exact ⟨v, rfl, hR v w2 hx rfl hv⟩
              · intro γ w' he hf; have f12 : TupZ w' (γ 12) (pcn (clr n F)) := hf 12 (by decide); clear hf; refine ⟨trivial, ?_⟩; intro R hR
                have hc := he.cells
                go_simp
                (try go_ints); (try (rw [if_neg (by omega)])); (try (rw [if_pos (by omega)])); (try go_simp); (try go_ints)
                refine hR _ _ (Ext.refl _) ?_ trivial
                rfl
              · intro γ w' he hf; have f12 : TupZ w' (γ 12) (pcn (clr n F)) := hf 12 (by decide); clear hf; refine ⟨trivial, ?_⟩; intro R hR
                obtain ⟨a, e, ha⟩ := f12
                go_simp
                exact hR _ _ (Ext.refl _) rfl ha
              · intro γ w' he hf; have f12 : TupZ w' (γ 12) (pcn (clr n F)) := hf 12 (by decide); clear hf; refine ⟨trivial, ?_⟩; intro R hR
                obtain ⟨a, e, ha⟩ := f12
                have hc := he.cells
                go_simp
                (try go_ints); (try (rw [if_neg (by omega)])); (try (rw [if_pos (by omega)])); (try go_simp); (try go_ints)
                refine hR _ _ (Ext.refl _) ?_ trivial
                rfl
              · intro γ w' he hf; clear hf; refine ⟨trivial, ?_⟩; intro R hR
                go_simp
                exact hR _ _ ((Ext.refl _).alloc _) rfl (NewAt.mk (Nat.le_trans (by simp) he.size) (by simp [isDig]))
            case hloc2 =>
              exact ⟨⟨⟨⟨⟨⟨⟨⟨⟨⟨⟨⟨⟨⟨⟨⟨⟨trivial, (fun γ γ' h => ⟨rfl, fun _ => rfl⟩)⟩, (fun γ γ' h => ⟨rfl, fun _ => rfl⟩)⟩, (fun γ γ' h => ⟨rfl, fun _ => rfl⟩)⟩, (fun γ γ' h => ⟨rfl, fun _ => rfl⟩)⟩, (fun γ γ' h => ⟨rfl, fun _ => rfl⟩)⟩, (fun γ γ' h => ⟨rfl, fun _ => rfl⟩)⟩, (fun γ γ' h => ⟨rfl, fun _ => rfl⟩)⟩, (fun γ γ' h => ⟨rfl, fun _ => rfl⟩)⟩, (fun γ γ' h => ⟨rfl, fun _ => rfl⟩)⟩, (fun γ γ' h => ⟨rfl, fun _ => rfl⟩)⟩, (fun γ γ' h => ⟨rfl, fun _ => rfl⟩)⟩, (fun γ γ' h => ⟨rfl, fun _ => rfl⟩)⟩, (fun γ γ' h => ⟨h 12 rfl, fun w' => (congrArg (fun a => TupZ w' (a) (pcn (clr n F))) (h 12 rfl))⟩)⟩, (fun γ γ' h => ⟨(congrArg (fun a => a) (h 12 rfl)), fun _ => rfl⟩)⟩, (fun γ γ' h => ⟨h 14 rfl, fun w' => (congrArg (fun a => IsZ w' (a) (pcn (clr n F))) (h 14 rfl))⟩)⟩, (fun γ γ' h => ⟨rfl, fun _ => rfl⟩)⟩, (fun γ γ' h => ⟨h 16 rfl, fun w' => (congrArg (fun a => NewAt w' (a) wt.heap.size #[.bool false, .slice none 0 0] 38) (h 16 rfl))⟩)⟩
            case hmono2 =>
              exact ⟨⟨⟨⟨⟨⟨⟨⟨⟨⟨⟨⟨⟨⟨⟨⟨⟨trivial, (fun γ wA w' e h => h)⟩, (fun γ wA w' e h => h)⟩, (fun γ wA w' e h => h)⟩, (fun γ wA w' e h => h)⟩, (fun γ wA w' e h => h)⟩, (fun γ wA w' e h => h)⟩, (fun γ wA w' e h => h)⟩, (fun γ wA w' e h => h)⟩, (fun γ wA w' e h => h)⟩, (fun γ wA w' e h => h)⟩, (fun γ wA w' e h => h)⟩, (fun γ wA w' e h => h)⟩, (fun γ wA w' e h => (show TupZ wA (γ 12) (pcn (clr n F)) from h).ext e)⟩, (fun γ wA w' e h => h)⟩, (fun γ w w' e h => IsZ.ext_ h e)⟩, (fun γ wA w' e h => h)⟩, (fun γ wA w' e h => (show NewAt wA (γ 16) wt.heap.size #[.bool false, .slice none 0 0] 38 from h).ext e)⟩
            case hlate2 =>
              intro γ w8 hx8 hF
              have pf12 : TupZ w8 (γ 12) (pcn (clr n F)) := (Each.get hF 12 (by decide)).resolve_left (by decide)
              have pf14 : IsZ w8 (γ 14) (pcn (clr n F)) := (Each.get hF 14 (by decide)).resolve_left (by decide)
              have pf16 : NewAt w8 (γ 16) wt.heap.size #[.bool false, .slice none 0 0] 38 := (Each.get hF 16 (by decide)).resolve_left (by decide)
              clear hF
              simp only [fillAll, gV, kv, List.getD_cons_zero, List.getD_cons_succ, Act.put, List.setIfInBounds_toArray, List.set_cons_zero, List.set_cons_succ, List.toList_toArray, List.drop_succ_cons, List.drop_zero, List.drop_nil, Nat.zero_add, Nat.reduceAdd, lateP, Array.getD_eq_getD_getElem?, List.getElem?_toArray, List.getElem?_cons_succ, List.getElem?_cons_zero, Option.getD_some]
              generalize γ 12 = g12 at *
              generalize γ 14 = g14 at *
              generalize γ 16 = g16 at *
              clear γ
              obtain ⟨a6, rfl, -⟩ := pf12
              obtain ⟨gc, rfl, hgc, ec⟩ := pf16
              obtain ⟨b7, A7, n7, c7, rfl⟩ := pf14.cells
              clear q0 q1 p0 p1
              obtain ⟨cec0, cec1⟩ := ec.cells2
              have fec := ec.frozen
              go_wp2
              refine ⟨?_, trivial⟩
              go_wp2
              skip
              obtain ⟨W4, eW, ec', U⟩ := ec.put2 (.bool b7) (.slice A7 n7 c7) rfl rfl
              rw [← eW]
              clear eW ec
              replace pf14 := pf14.kd U.kd
              replace hx8 := U.from_ hx8 (by simp <;> omega)
              have ec := ec'
              clear U ec'
              go_meet
              case rel => exact ⟨gc, rfl, BoxZ.mk ec pf14, hx8⟩
            intro γ w8 hx8 hF
            have pf12 : TupZ w8 (γ 12) (pcn (clr n F)) := Each.get hF 12 (by decide)
            have pf14 : IsZ w8 (γ 14) (pcn (clr n F)) := Each.get hF 14 (by decide)
            have pf16 : NewAt w8 (γ 16) wt.heap.size #[.bool false, .slice none 0 0] 38 := Each.get hF 16 (by decide)
            clear hF
            simp only [fillAll, gV, kv, List.getD_cons_zero, List.getD_cons_succ, Act.put, List.setIfInBounds_toArray, List.set_cons_zero, List.set_cons_succ, List.toList_toArray, List.drop_succ_cons, List.drop_zero, List.drop_nil, Nat.zero_add, Nat.reduceAdd]
            generalize γ 12 = g12 at *
            generalize γ 14 = g14 at *
            generalize γ 16 = g16 at *
            clear γ
            obtain ⟨a6, rfl, -⟩ := pf12
            obtain ⟨gc, rfl, hgc, ec⟩ := pf16
            obtain ⟨b7, A7, n7, c7, rfl⟩ := pf14.cells
            clear q0 q1 p0 p1
            obtain ⟨cec0, cec1⟩ := ec.cells2
            have fec := ec.frozen
            go_wp2
            skip
            obtain ⟨W4, eW, ec', U⟩ := ec.put2 (.bool b7) (.slice A7 n7 c7) rfl rfl
            rw [← eW]
            clear eW ec
            replace pf14 := pf14.kd U.kd
            replace hx8 := U.from_ hx8 (by simp <;> omega)
            have ec := ec'
            clear U ec'
            go_meet
            case rel => exact ⟨gc, rfl, BoxZ.mk ec pf14, hx8⟩
          case rest =>
            clear q0 q1 p0 p1
            obtain ⟨gc, rfl, ⟨b7, A7, n7, c7, ec, hc⟩, hx3⟩ := hcut
            have Hc := Lib.hid (hc.has HQ.out.2.2.2.2.2.1); clear hc
            have HbL := Lib.hid ((Hb'.out.kd hx3.kd).has HQ.out.2.2.2.2.2.2.1)
            replace ea := ea.ext hx3
            replace eb := eb.ext hx3
            obtain ⟨cec0, cec1⟩ := ec.cells2
            have fec := ec.frozen
            obtain ⟨ceb0, ceb1⟩ := eb.cells2
            have feb := eb.frozen
            go_wp2_with fail
            refine Calls.mono (make_q _ _ (pcn (clr n F)) ((dl n F : Nat) : Int) _ Hc.out HbL.out HQ.out.2.2.2.2.2.2.2.1) ?_
            rintro e w4 ⟨r4, rfl, ⟨a4, rfl, hr4⟩, hx4⟩
            rw [HQ.out.2.2.2.2.2.2.2.2] at hr4
            obtain ⟨b8, A8, n8, c8, b9, A9, n9, c9, rfl⟩ := hr4.cells
            replace ea := ea.ext hx4
            replace hx3 := hx3.trans hx4
            clear ceb0 ceb1 feb cec0 cec1 fec ec eb Hc HbL hx4
            have hBa := Box.made w4 40 #[.bool b8, .slice A8 n8 c8, .bool b9, .slice A9 n9 c9] (by simp [isDig])
            obtain ⟨Wa, eWa, e5, xa⟩ := hBa
            go_upto_region 21 with (fail)
            rw [← eWa]
            replace hr4 := hr4.ext xa
            replace ea := ea.ext xa
            replace hx3 := hx3.trans xa
            clear eWa xa
            generalize w4.heap.size = gr at e5 ⊢
            have HP' := Lib.hid (HP.out.ext hx3)
            have hxx := hx.trans (hx2.trans hx3)
            clear HP hx3 hx2
            obtain ⟨ce50, ce51, ce52, ce53⟩ := e5.cells4
            have fe5 := e5.frozen
            refine wp_region_par (k := 3) (D := [91, 92, 2]) (T := [[], [], [0], [0, 1, 2]]) (EK := [14, 17]) (EV := [?e3x0, ?e3x1]) (VL := [(kv ?v3x0), (kv ?v3x1), (kv ?v3x2)]) (FL := fun γ w' => [True, True, True]) ?hE3 (by kernel_rfl) (by kernel_rfl) (by rfl) (by kernel_rfl) ?hloc3 ?hmono3 ?hstep3 ?htail3
            case hE3 => refine ⟨?_, ?_, trivial⟩ <;> (simp only [List.getElem?_toArray, List.getElem?_cons_succ, List.getElem?_cons_zero]; rfl)
            case hstep3 =>
              refine ⟨⟨⟨trivial, ?_⟩, ?_⟩, ?_⟩
              · intro γ w' he hf; clear hf; refine ⟨trivial, ?_⟩; intro R hR
                have hc := he.cells
                go_simp
                (try go_ints); (try (rw [if_neg (by omega)])); (try (rw [if_pos (by omega)])); (try go_simp); (try go_ints)
                refine hR _ _ (Ext.refl _) ?_ trivial
                rfl
              · intro γ w' he hf; clear hf; refine ⟨trivial, ?_⟩; intro R hR
                have hc := he.cells
                have cq0 := he.cell ce50
                have cq1 := he.cell ce51
                have cq2 := he.cell ce52
                have cq3 := he.cell ce53
                go_simp
                (try go_ints); (try (rw [if_neg (by omega)])); (try (rw [if_pos (by omega)])); (try go_simp); (try go_ints)
                refine hR _ _ (Ext.refl _) ?_ trivial
                rfl
              · intro γ w' he hf; clear hf; refine ⟨trivial, ?_⟩; intro R hR
                have hc := he.cells
                go_simp
                (try go_ints); (try (rw [if_neg (by omega)])); (try (rw [if_pos (by omega)])); (try go_simp); (try go_ints)
                refine hR _ _ (Ext.refl _) ?_ trivial
                rfl
            case hloc3 =>
              exact ⟨⟨⟨trivial, (fun γ γ' h => ⟨rfl, fun _ => rfl⟩)⟩, (fun γ γ' h => ⟨rfl, fun _ => rfl⟩)⟩, (fun γ γ' h => ⟨rfl, fun _ => rfl⟩)⟩
            case hmono3 =>
              exact ⟨⟨⟨trivial, (fun γ wA w' e h => h)⟩, (fun γ wA w' e h => h)⟩, (fun γ wA w' e h => h)⟩
            intro γ w9 hx9 hF
            clear hF
            simp only [fillAll, gV, kv, List.getD_cons_zero, List.getD_cons_succ, Act.put, List.setIfInBounds_toArray, List.set_cons_zero, List.set_cons_succ, List.toList_toArray, List.drop_succ_cons, List.drop_zero, List.drop_nil, Nat.zero_add, Nat.reduceAdd]
            clear γ
            replace ea := ea.ext hx9
            replace hr4 := hr4.ext hx9
            replace hxx := hxx.trans hx9
            have hp := HP'.out.ext hx9
            clear hx9 ce50 ce51 ce52 ce53 fe5 e5 HP'
            obtain ⟨cea0, cea1, cea2, cea3⟩ := ea.cells4
            have fea := ea.frozen
            go_wp2
            obtain ⟨W3, eW, ea', U⟩ := ea.put4 (.bool b8) (.slice A8 n8 c8) (.bool b9) (.slice A9 n9 c9) rfl rfl rfl rfl
            rw [← eW]
            clear eW ea
            replace hr4 := hr4.kd U.kd
            replace hp := hp.upd U (by simp <;> omega)
            replace hxx := U.from_ hxx (by simp <;> omega)
            have ea := ea'
            clear U ea'
            have HP := Lib.hid (hp.base_le (Nat.zero_le _)); clear hp
            clear cea0 cea1 cea2 cea3
            obtain ⟨cea0, cea1, cea2, cea3⟩ := ea.cells4
            have fea := ea.frozen
            refine bodyPost_ret (v := .tuple #[_, .agg #[.bool b8, .slice A8 n8 c8, .bool b9, .slice A9 n9 c9]]) (by simp [results, Tryz.results38, go_sem, cea0, cea1, cea2, cea3]; rfl) rfl ?_
            exact Gives.mk ⟨_, _, rfl, HP.out, hr4⟩ hxx
end Go.Proofs.YtedoifjbgokmcaaGreat
namespace Go.Proofs.YtedoifjbgokmcaaGreat
open Go.RowKit Go.Hp
theorem IsZ.cast {w : World} {v : Value} {x y : Int} (h : IsZ w v x) (e : x = y) : IsZ w v y := e ▸ h
set_option maxRecDepth 20000 in
set_option maxHeartbeats 8000000 in
theorem clear_rzero (v : Value) (l : List Rat) (w : World) (hv : HsV 0 w v l) (hn : l.length ≤ 1099511627776) (h0 : co l = pz) :
    Calls Tryz.prog 39 #[v] w (Gives w fun r w' => ClOut 0 pz r w') := by
  have HV := Lib.hid hv
  obtain ⟨A0, c0, rfl⟩ := hv.len
  have H0 := Lib.hid h0; clear hv h0
  go_enter Tryz.func39, Tryz.ntmps39
  go_wp2_with fail
  refine Calls.mono (normal_rp _ l _ (HV.out.ext ((Ext.refl w).alloc _)) hn) ?_
  rintro e w1 ⟨r1, rfl, hr1, hx1⟩
  rw [H0.out] at hr1
  obtain ⟨A1, c1, l1, rfl, k1, k2, -⟩ := hr1.form
  rw [pl_pz]
  clear hr1 HV k1
  go_wp2_with fail
  refine Calls.mono (of_rq 0 _ (by omega) (by omega)) ?_
  rintro e w2 ⟨r2, rfl, hr2, hx2⟩
  obtain ⟨b5, A5, n5, c5, b6, A6, n6, c6, rfl⟩ := hr2.cells
  have ea := ((Box.new w 40 #[.bool false, .slice none 0 0, .bool false, .slice none 0 0] (by simp [isDig])).ext hx1).ext hx2
  have hx := hx1.a1.trans hx2
  obtain ⟨cea0, cea1, cea2, cea3⟩ := ea.cells4
  have fea := ea.frozen
  clear hx1 hx2
  go_wp2
  obtain ⟨W3, eW, ea', U⟩ := ea.put4 (.bool b5) (.slice A5 n5 c5) (.bool b6) (.slice A6 n6 c6) rfl rfl rfl rfl
  rw [← eW]
  clear eW ea
  replace hr2 := hr2.kd U.kd
  replace hx := U.from_ hx (by simp <;> omega)
  have ea := ea'
  clear U ea'
  clear cea0 cea1 cea2 cea3
  obtain ⟨cea0, cea1, cea2, cea3⟩ := ea.cells4
  have fea := ea.frozen
  refine bodyPost_ret (v := .tuple #[.slice none 0 0, .agg #[.bool b5, .slice A5 n5 c5, .bool b6, .slice A6 n6 c6]]) (by simp [results, Tryz.results39, go_sem, cea0, cea1, cea2, cea3]) rfl ?_
  exact Gives.mk ⟨_, _, rfl, by rw [clr_pz, pp_pz]; exact IsZP.nil _ _, by rw [cfa_pz]; exact hr2⟩ hx
set_option maxRecDepth 20000 in
set_option maxHeartbeats 16000000 in
theorem clear_rp (v : Value) (l : List Rat) (s : Nat) (w : World) (hv : HsV 0 w v l) (hn : l.length ≤ 1000) (hs : ∀ i, qsz (co l i) ≤ s) (hs0 : s ≤ 1000000) (h0 : co l ≠ pz) :
    Calls Tryz.prog 39 #[v] w (Gives w fun r w' => ClOut (pl (co l)) (co l) r w') := by
  have HV := Lib.hid hv
  obtain ⟨A0, c0, rfl⟩ := hv.len
  have hfin := Fin_.co l
  have hNorm := fun w' (e : Ext w w') => normal_rp _ l w' (hv.ext e) (by omega)
  have hplen := pl_le (co_sup l)
  obtain ⟨F, hF⟩ : ∃ F, F = co l := ⟨_, rfl⟩
  rw [← hF] at hfin h0 hs hplen hNorm
  rw [← hF]
  have hpos := pl_pos hfin h0
  obtain ⟨n, hn0⟩ : ∃ n, n = pl F := ⟨_, rfl⟩
  have hsup : Sup n F := by rw [hn0]; exact pl_sup hfin
  have hdl : ∀ k, k ≤ n → sz (dl k F) ≤ 1 + 1000 * 1000000 := fun k hk => by
    have := dl_sz hs k
    have h2 : k * s ≤ 1000 * 1000000 := Nat.mul_le_mul (by omega) hs0
    omega
  have hcq : ∀ i, qsz (clr n F i) ≤ 1 + 1000 * 1000000 + 1 + 1000000 := fun i => by
    have := clr_qsz (n := n) hs i
    have h2 : n * s ≤ 1000 * 1000000 := Nat.mul_le_mul (by omega) hs0
    omega
  rw [← hn0] at hpos ⊢
  have hn3 : n ≤ 1000 := by omega
  have HX := Lib.hid (And.intro hn0 (And.intro hfin (And.intro h0 (And.intro hs (And.intro hs0 (And.intro hsup (And.intro hdl hcq)))))))
  have HN := Lib.hid hNorm
  clear hn0 hfin h0 hs hs0 hsup hdl hcq hNorm hF hv HV hplen hn
  go_enter Tryz.func39, Tryz.ntmps39
  go_wp2_with fail
  refine Calls.mono (HN.out _ ((Ext.refl w).alloc _)) ?_
  rintro e w1 ⟨r1, rfl, hr1, hx1⟩
  obtain ⟨lh, hh1, hh2, -, hh4⟩ := hr1.hs (fun i => by have := HX.out.2.2.2.1 i; have := HX.out.2.2.2.2.1; omega)
  obtain ⟨A1, c1, l1, rfl, k1, k2, hA, k3, -, k5⟩ := hr1.form
  rw [← HX.out.1] at k1 k3 hh1 hh2 ⊢
  have HA := Lib.hid (And.intro hA (And.intro k3 k5))
  have HH := Lib.hid (And.intro hh1 (And.intro hh2 hh4)); clear hA k3 k5 hr1 HN hh1 hh2 hh4
  have ea := (Box.new w 40 #[.bool false, .slice none 0 0, .bool false, .slice none 0 0] (by simp [isDig])).ext hx1
  have hx := hx1.a1
  have hs1 := hx1.size
  rw [World.size_alloc] at hs1
  clear hx1
  go_wp2_with fail
  refine Calls.mono (of_r 1 _ (by omega) (by omega)) ?_
  rintro e w2 ⟨r2, rfl, hr2, hx2⟩
  obtain ⟨b5, A5, n5, c5, rfl⟩ := hr2.cells
  obtain ⟨W0, eW, eb, x0⟩ := Box.made w2 38 #[.bool b5, .slice A5 n5 c5] (by simp [isDig])
  replace hr2 := hr2.kd x0.kd
  have hs2 := hx2.size
  have Hx1 := Lib.hid (hx2.trans x0)
  replace ea := ea.ext (hx2.trans x0)
  have hgb : w.heap.size < w2.heap.size := by omega
  clear hx2
  go_wp2
  rw [← eW]
  clear eW x0
  generalize w2.heap.size = gb at *
  go_loopw [6] (fun iv wr => ∃ k : Nat, k ≤ n ∧ iv = .int .i64 k ∧ Box wr w.heap.size 40 #[.bool false, .slice none 0 0, .bool false, .slice none 0 0] ∧ BoxZ wr gb 38 (dl k F : Nat) ∧ Ext w1 wr) (fun iv _ => n - (intOf iv).toNat)
  case atStart => exact ⟨0, Nat.zero_le _, rfl, ea, BoxZ.mk eb hr2, Hx1.out⟩
  case round =>
    clear ea eb hr2 Hx1
    obtain ⟨k, hk, rfl, ea, ⟨b, B, bn, bc, eb, hb⟩, hx2⟩ := hrel
    have Hb := Lib.hid hb; clear hb
    by_cases hkn : k < n
    · have hkl1 : k < l1.length := by have := HA.out.2.1; omega
      obtain ⟨g, o, b1, B1, n1, d1, b2, B2, n2, d2, rfl, _, q0, q1, q2, q3, hq⟩ := HA.out.1.at_ (j := k) hkl1
      rw [← co_lt, HA.out.2.2] at hq
      replace q0 := hx2.cell q0
      replace q1 := hx2.cell q1
      replace q2 := hx2.cell q2
      replace q3 := hx2.cell q3
      have hqs := HX.out.2.2.2.1 k
      have hqd := (hq.ext hx2).dens (by have := HX.out.2.2.2.2.1; omega)
      have hdk := HX.out.2.2.2.2.2.2.1 k (by omega)
      obtain ⟨L, hL⟩ : ∃ L, L = dl k F := ⟨_, rfl⟩
      obtain ⟨D, hD⟩ : ∃ D, D = (F k).den := ⟨_, rfl⟩
      have hDp : 0 < D := by rw [hD]; exact (F k).den_pos
      have hLp : 0 < L := by rw [hL]; exact dl_pos F k
      have hG : Int.gcd (L : Int) (D : Int) = Nat.gcd L D := Int.gcd_natCast_natCast L D
      have hGp : 0 < Nat.gcd L D := Nat.gcd_pos_of_pos_left _ hLp
      have hGn : ((Nat.gcd L D : Nat) : Int) ≠ 0 := by omega
      have hLs : sz ((L : Nat) : Int).natAbs ≤ 4294967296 := by rw [Int.natAbs_natCast, hL]; omega
      have hDs : sz ((D : Nat) : Int).natAbs ≤ 1000000 := by
        have h2 := qsz_den (F k); rw [← hD] at h2
        have := HX.out.2.2.2.2.1; omega
      have hGs : sz ((Nat.gcd L D : Nat) : Int).natAbs ≤ 4294967296 := by
        rw [Int.natAbs_natCast]
        have := sz_mono (Nat.le_of_dvd hLp (Nat.gcd_dvd_left L D))
        rw [← hL] at hdk; omega
      have hMs : sz ((L : Int) * (D : Int)).natAbs ≤ 4294967296 + 1000000 := mul_sz2 hLs hDs
      have hstep : (L : Int) * (D : Int) / ((Nat.gcd L D : Nat) : Int) = (dl (k + 1) F : Nat) := by
        rw [← dl_step', hL, hD]; norm_cast
      rw [← hL] at Hb
      rw [← hD] at hqd
      have HG := Lib.hid (And.intro hG (And.intro hGn (And.intro hLs (And.intro hDs (And.intro hGs (And.intro hMs hstep))))))
      have Hq := Lib.hid hqd.1
      clear hq hqs hqd hdk hG hGp hGn hGs hstep hL hD hDp hLp hLs hDs hMs
      obtain ⟨r0, r1⟩ := eb.cells2
      go_wp2_with fail
      refine wp_region_par (k := 15) (D := [23, 24, 25, 26, 27, 28, 29, 30, 31, 32, 33, 34, 35, 36, 37]) (T := [[], [], [], [1, 2], [1, 2, 3], [1, 2, 3, 4], [0, 1, 2, 3, 4, 5], [], [], [], [8, 9], [8, 9, 10], [8, 9, 10, 11], [0, 1, 2, 3, 4, 5, 6, 7, 8, 9, 10, 11, 12], [0, 1, 2, 3, 4, 5, 6, 7, 8, 9, 10, 11, 12, 13], [0, 1, 2, 3, 4, 5, 6, 7, 8, 9, 10, 11, 12, 13, 14]]) (EK := [5, 4, 6]) (EV := [?e1x0, ?e1x1, ?e1x2]) (VL := [(kv ?v1x0), (kv ?v1x1), (kv ?v1x2), (kv ?v1x3), (kv ?v1x4), (kv ?v1x5), (fun γ => γ 6), (kv ?v1x7), (kv ?v1x8), (kv ?v1x9), (kv ?v1x10), (kv ?v1x11), (kv ?v1x12), (fun γ => γ 13), (fun γ => γ 14)]) (FL := fun γ w' => [True, True, True, True, True, True, IsZ w' (γ 6) ((L : Int) * (D : Int)), True, True, True, True, True, True, IsZ w' (γ 13) (Nat.gcd L D : Nat), IsZ w' (γ 14) (dl (k + 1) F : Nat)]) ?hE1 (by kernel_rfl) (by kernel_rfl) (by rfl) (by kernel_rfl) ?hloc1 ?hmono1 ?hstep1 ?htail1
      case hE1 => refine ⟨?_, ?_, ?_, trivial⟩ <;> (simp only [List.getElem?_toArray, List.getElem?_cons_succ, List.getElem?_cons_zero]; rfl)
      case hstep1 =>
        refine ⟨⟨⟨⟨⟨⟨⟨⟨⟨⟨⟨⟨⟨⟨⟨trivial, ?_⟩, ?_⟩, ?_⟩, ?_⟩, ?_⟩, ?_⟩, ?_⟩, ?_⟩, ?_⟩, ?_⟩, ?_⟩, ?_⟩, ?_⟩, ?_⟩, ?_⟩
        · intro γ w' he hf; clear hf; refine ⟨trivial, ?_⟩; intro R hR
          have hc := he.cells
          have cq0 := he.cell q0
          have cq1 := he.cell q1
          have cq2 := he.cell q2
          have cq3 := he.cell q3
          have cq4 := he.cell r0
          have cq5 := he.cell r1
          go_simp
          (try go_ints); (try (rw [if_neg (by omega)])); (try (rw [if_pos (by omega)])); (try go_simp); (try go_ints)
          refine hR _ _ (Ext.refl _) ?_ trivial
          rfl
        · intro γ w' he hf; clear hf; refine ⟨trivial, ?_⟩; intro R hR
          have hc := he.cells
          go_simp
          (try go_ints); (try (rw [if_neg (by omega)])); (try (rw [if_pos (by omega)])); (try go_simp); (try go_ints)
          refine hR _ _ (Ext.refl _) ?_ trivial
          rfl
        · intro γ w' he hf; clear hf; refine ⟨trivial, ?_⟩; intro R hR
          have hc := he.cells
          go_simp
          (try go_ints); (try (rw [if_neg (by omega)])); (try (rw [if_pos (by omega)])); (try go_simp); (try go_ints)
          refine hR _ _ (Ext.refl _) ?_ trivial
          rfl
        · intro γ w' he hf; clear hf; refine ⟨trivial, ?_⟩; intro R hR
          have hc := he.cells
          go_simp
          (try go_ints); (try (rw [if_neg (by omega)])); (try (rw [if_pos (by omega)])); (try go_simp); (try go_ints)
          refine hR _ _ (Ext.refl _) ?_ trivial
          rfl
        · intro γ w' he hf; clear hf; refine ⟨trivial, ?_⟩; intro R hR
          have hc := he.cells
          go_simp
          (try go_ints); (try (rw [if_neg (by omega)])); (try (rw [if_pos (by omega)])); (try go_simp); (try go_ints)
          refine hR _ _ (Ext.refl _) ?_ trivial
          rfl
        · intro γ w' he hf; clear hf; refine ⟨trivial, ?_⟩; intro R hR
          have hc := he.cells
          have cq0 := he.cell q0
          have cq1 := he.cell q1
          have cq2 := he.cell q2
          have cq3 := he.cell q3
          have cq4 := he.cell r0
          have cq5 := he.cell r1
          go_simp
          (try go_ints); (try (rw [if_neg (by omega)])); (try (rw [if_pos (by omega)])); (try go_simp); (try go_ints)
          refine hR _ _ (Ext.refl _) ?_ trivial
          rfl
        · intro γ w' he hf; clear hf; refine ⟨trivial, ?_⟩; intro R hR
          go_simp
          refine Calls.mono (show Calls _ _ _ w' (Gives w' fun r w'' => IsZ w'' (r) ((L : Int) * (D : Int))) from mul_r _ _ (L : Int) (D : Int) w' ((Hb.out.kd he.kd).has (by have := HG.out.2.2.1; omega)) (Hq.out.kd he.kd) (by have := HG.out.2.2.1; omega) (by have := HG.out.2.2.2.1; omega)) ?_
          rintro e w2 ⟨v, rfl, hv, hx⟩
          exact ⟨v, rfl, hR v w2 hx rfl hv⟩
        · intro γ w' he hf; clear hf; refine ⟨trivial, ?_⟩; intro R hR
          have hc := he.cells
          have cq0 := he.cell q0
          have cq1 := he.cell q1
          have cq2 := he.cell q2
          have cq3 := he.cell q3
          have cq4 := he.cell r0
          have cq5 := he.cell r1
          go_simp
          (try go_ints); (try (rw [if_neg (by omega)])); (try (rw [if_pos (by omega)])); (try go_simp); (try go_ints)
          refine hR _ _ (Ext.refl _) ?_ trivial
          rfl
        · intro γ w' he hf; clear hf; refine ⟨trivial, ?_⟩; intro R hR
          have hc := he.cells
          go_simp
          (try go_ints); (try (rw [if_neg (by omega)])); (try (rw [if_pos (by omega)])); (try go_simp); (try go_ints)
          refine hR _ _ (Ext.refl _) ?_ trivial
          rfl
        · intro γ w' he hf; clear hf; refine ⟨trivial, ?_⟩; intro R hR
          have hc := he.cells
          go_simp
          (try go_ints); (try (rw [if_neg (by omega)])); (try (rw [if_pos (by omega)])); (try go_simp); (try go_ints)
          refine hR _ _ (Ext.refl _) ?_ trivial
          rfl
        · intro γ w' he hf; clear hf; refine ⟨trivial, ?_⟩; intro R hR
          have hc := he.cells
          go_simp
          (try go_ints); (try (rw [if_neg (by omega)])); (try (rw [if_pos (by omega)])); (try go_simp); (try go_ints)
          refine hR _ _ (Ext.refl _) ?_ trivial
          rfl
        · intro γ w' he hf; clear hf; refine ⟨trivial, ?_⟩; intro R hR
          have hc := he.cells
          go_simp
          (try go_ints); (try (rw [if_neg (by omega)])); (try (rw [if_pos (by omega)])); (try go_simp); (try go_ints)
          refine hR _ _ (Ext.refl _) ?_ trivial
          rfl
        · intro γ w' he hf; clear hf; refine ⟨trivial, ?_⟩; intro R hR
          have hc := he.cells
          have cq0 := he.cell q0
          have cq1 := he.cell q1
          have cq2 := he.cell q2
          have cq3 := he.cell q3
          have cq4 := he.cell r0
          have cq5 := he.cell r1
          go_simp
          (try go_ints); (try (rw [if_neg (by omega)])); (try (rw [if_pos (by omega)])); (try go_simp); (try go_ints)
          refine hR _ _ (Ext.refl _) ?_ trivial
          rfl
        · intro γ w' he hf; have f6 : IsZ w' (γ 6) ((L : Int) * (D : Int)) := hf 6 (by decide); clear hf; refine ⟨trivial, ?_⟩; intro R hR
          go_simp
          refine Calls.mono (show Calls _ _ _ w' (Gives w' fun r w'' => IsZ w'' (r) (Nat.gcd L D : Nat)) from Gives.imp (gcd_r _ _ (L : Int) (D : Int) w' ((Hb.out.kd he.kd).has (by have := HG.out.2.2.1; omega)) (Hq.out.kd he.kd) (by have := HG.out.2.2.1; omega) (by have := HG.out.2.2.2.1; omega)) fun _ _ h => IsZ.cast h (congrArg _ HG.out.1)) ?_
          rintro e w2 ⟨v, rfl, hv, hx⟩
          exact ⟨v, rfl, hR v w2 hx rfl hv⟩
        · intro γ w' he hf; have f6 : IsZ w' (γ 6) ((L : Int) * (D : Int)) := hf 6 (by decide); have f13 : IsZ w' (γ 13) (Nat.gcd L D : Nat) := hf 13 (by decide); clear hf; refine ⟨trivial, ?_⟩; intro R hR
          go_simp
          refine Calls.mono (show Calls _ _ _ w' (Gives w' fun r w'' => IsZ w'' (r) (dl (k + 1) F : Nat)) from Gives.imp (exact_r _ _ ((L : Int) * (D : Int)) (Nat.gcd L D : Nat) w' (f6.has (by have := HG.out.2.2.2.2.2.1; omega)) (f13.has (by have := HG.out.2.2.2.2.1; omega)) HG.out.2.1 (by have := HG.out.2.2.2.2.2.1; omega) (by have := HG.out.2.2.2.2.1; omega)) fun _ _ h => IsZ.cast h HG.out.2.2.2.2.2.2) ?_
          rintro e w2 ⟨v, rfl, hv, hx⟩
          exact ⟨v, rfl, hR v w2 hx rfl hv⟩
      case hloc1 =>
        exact ⟨⟨⟨⟨⟨⟨⟨⟨⟨⟨⟨⟨⟨⟨⟨trivial, (fun γ γ' h => ⟨rfl, fun _ => rfl⟩)⟩, (fun γ γ' h => ⟨rfl, fun _ => rfl⟩)⟩, (fun γ γ' h => ⟨rfl, fun _ => rfl⟩)⟩, (fun γ γ' h => ⟨rfl, fun _ => rfl⟩)⟩, (fun γ γ' h => ⟨rfl, fun _ => rfl⟩)⟩, (fun γ γ' h => ⟨rfl, fun _ => rfl⟩)⟩, (fun γ γ' h => ⟨h 6 rfl, fun w' => (congrArg (fun a => IsZ w' (a) ((L : Int) * (D : Int))) (h 6 rfl))⟩)⟩, (fun γ γ' h => ⟨rfl, fun _ => rfl⟩)⟩, (fun γ γ' h => ⟨rfl, fun _ => rfl⟩)⟩, (fun γ γ' h => ⟨rfl, fun _ => rfl⟩)⟩, (fun γ γ' h => ⟨rfl, fun _ => rfl⟩)⟩, (fun γ γ' h => ⟨rfl, fun _ => rfl⟩)⟩, (fun γ γ' h => ⟨rfl, fun _ => rfl⟩)⟩, (fun γ γ' h => ⟨h 13 rfl, fun w' => (congrArg (fun a => IsZ w' (a) (Nat.gcd L D : Nat)) (h 13 rfl))⟩)⟩, (fun γ γ' h => ⟨h 14 rfl, fun w' => (congrArg (fun a => IsZ w' (a) (dl (k + 1) F : Nat)) (h 14 rfl))⟩)⟩
      case hmono1 =>
        exact ⟨⟨⟨⟨⟨⟨⟨⟨⟨⟨⟨⟨⟨⟨⟨trivial, (fun γ wA w' e h => h)⟩, (fun γ wA w' e h => h)⟩, (fun γ wA w' e h => h)⟩, (fun γ wA w' e h => h)⟩, (fun γ wA w' e h => h)⟩, (fun γ wA w' e h => h)⟩, (fun γ wA w' e h => (show IsZ wA (γ 6) ((L : Int) * (D : Int)) from h).ext e)⟩, (fun γ wA w' e h => h)⟩, (fun γ wA w' e h => h)⟩, (fun γ wA w' e h => h)⟩, (fun γ wA w' e h => h)⟩, (fun γ wA w' e h => h)⟩, (fun γ wA w' e h => h)⟩, (fun γ wA w' e h => (show IsZ wA (γ 13) (Nat.gcd L D : Nat) from h).ext e)⟩, (fun γ wA w' e h => (show IsZ wA (γ 14) (dl (k + 1) F : Nat) from h).ext e)⟩
      intro γ w8 hx8 hF
      have p6 : IsZ w8 (γ 6) ((L : Int) * (D : Int)) := Each.get hF 6 (by decide)
      have p13 : IsZ w8 (γ 13) (Nat.gcd L D : Nat) := Each.get hF 13 (by decide)
      have p14 : IsZ w8 (γ 14) (dl (k + 1) F : Nat) := Each.get hF 14 (by decide)
      clear hF
      simp only [fillAll, gV, kv, List.getD_cons_zero, List.getD_cons_succ, Act.put, List.setIfInBounds_toArray, List.set_cons_zero, List.set_cons_succ, List.toList_toArray, List.drop_succ_cons, List.drop_zero, List.drop_nil, Nat.zero_add, Nat.reduceAdd]
      generalize γ 6 = g6 at *
      generalize γ 13 = g13 at *
      generalize γ 14 = g14 at *
      clear γ
      obtain ⟨b8, A8, n8, c8, rfl⟩ := p14.cells
      replace ea := ea.ext hx8
      replace eb := eb.ext hx8
      replace hx2 := hx2.trans hx8
      clear q0 q1 q2 q3 r0 r1 p6 p13 hx8 Hb Hq
      obtain ⟨ceb0, ceb1⟩ := eb.cells2
      have feb := eb.frozen
      go_wp2
      obtain ⟨W5, eW, eb', U⟩ := eb.put2 (.bool b8) (.slice A8 n8 c8) rfl rfl
      rw [← eW]
      clear eW eb
      replace p14 := p14.kd U.kd
      replace ea := ea.upd U (by simp <;> omega)
      replace hx2 := U.from_ hx2 (by simp <;> omega)
      have eb := eb'
      clear U eb'
      go_roundw
      case rel => exact ⟨k + 1, by omega, by go_num, ea, BoxZ.mk eb p14, hx2⟩
      case measure => simp [intOf] <;> omega
    · obtain rfl : n = k := by omega
      have hgbl := eb.lt
      have hb0 := Hb.out
      go_wp2
      go_loopw [7, 8] (fun zv iv wr => ∃ k : Nat, k ≤ n ∧ iv = .int .i64 k ∧ OwnZ (gb + 1) 38 wr zv (lzf k (clr n F)) ∧ Box wr w.heap.size 40 #[.bool false, .slice none 0 0, .bool false, .slice none 0 0] ∧ Box wr gb 38 #[.bool b, .slice B bn bc] ∧ IsZ wr (.agg #[.bool b, .slice B bn bc]) (dl n F : Nat) ∧ Ext w1 wr) (fun _ iv _ => n - (intOf iv).toNat)
      case atStart => exact ⟨0, Nat.zero_le _, rfl, OwnR.nil _ _ _ _ _, ea, eb, hb0, hx2⟩
      case round =>
        clear ea eb hx2 hgbl hb0 Hb
        obtain ⟨k, hk, rfl, hown, ea, eb, hb, hx2⟩ := hrel
        have Hb := Lib.hid hb; clear hb
        have hgbl := eb.lt
        by_cases hkn : k < n
        · have hkl1 : k < l1.length := by have := HA.out.2.1; omega
          obtain ⟨g, o, b1, B1, n1, d1, b2, B2, n2, d2, rfl, _, q0, q1, q2, q3, hq⟩ := HA.out.1.at_ (j := k) hkl1
          rw [← co_lt, HA.out.2.2] at hq
          replace q0 := hx2.cell q0
          replace q1 := hx2.cell q1
          replace q2 := hx2.cell q2
          replace q3 := hx2.cell q3
          have hqs := HX.out.2.2.2.1 k
          have hqd := (hq.ext hx2).dens (by have := HX.out.2.2.2.2.1; omega)
          have hdk := HX.out.2.2.2.2.2.2.1 n (Nat.le_refl _)
          obtain ⟨L, hL⟩ : ∃ L, L = dl n F := ⟨_, rfl⟩
          obtain ⟨D, hD⟩ : ∃ D, D = (F k).den := ⟨_, rfl⟩
          have hDn : (D : Int) ≠ 0 := by have := (F k).den_pos; omega
          have hDd : (D : Int) ∣ (L : Int) := by rw [hD, hL]; exact Int.natCast_dvd_natCast.2 (dl_dvd F n k hkn)
          have hval : (F k).num * ((L : Int) / (D : Int)) = (clr n F k).num := by rw [clr_num HX.out.2.2.2.2.2.1, hL, hD]
          obtain ⟨X, hX⟩ : ∃ X : Int, X = (L : Int) / (D : Int) := ⟨_, rfl⟩
          rw [← hX] at hval
          have hLs : sz ((L : Nat) : Int).natAbs ≤ 4294967296 := by rw [Int.natAbs_natCast, hL]; omega
          have hDs : sz ((D : Nat) : Int).natAbs ≤ 1000000 := by
            have h2 := qsz_den (F k); rw [← hD] at h2
            have := HX.out.2.2.2.2.1; omega
          have hNs : sz (F k).num.natAbs ≤ 1000000 := by
            have h2 := qsz_num (F k)
            have := HX.out.2.2.2.2.1; omega
          have hXs : sz X.natAbs ≤ 4294967296 := by
            have h1 := sz_ediv hDd
            rw [← hX] at h1; omega
          rw [← hL] at Hb
          rw [← hD] at hqd
          have HG := Lib.hid (And.intro hX (And.intro hDn (And.intro hDs (And.intro hval (And.intro hLs (And.intro hXs (And.intro hL hNs)))))))
          have Hq := Lib.hid hqd
          have Hown := Lib.hid hown
          clear hq hqs hqd hdk hDn hDd hval hX hL hD hLs hXs hDs hNs hown
          go_wp2_with fail
          obtain ⟨ceb0, ceb1⟩ := eb.cells2
          have feb := eb.frozen
          refine wp_region_par (k := 15) (D := [44, 45, 46, 47, 48, 49, 50, 51, 52, 53, 54, 55, 56, 57, 58]) (T := [[], [], [], [1, 2], [1, 2, 3], [1, 2, 3, 4], [], [], [], [7, 8], [7, 8, 9], [7, 8, 9, 10], [6, 7, 8, 9, 10, 11], [1, 2, 3, 4, 5, 6, 7, 8, 9, 10, 11, 12], [1, 2, 3, 4, 5, 6, 7, 8, 9, 10, 11, 12, 13], [0, 1, 2, 3, 4, 5, 6, 7, 8, 9, 10, 11, 12, 13, 14], [0, 1, 2, 3, 4, 5, 6, 7, 8, 9, 10, 11, 12, 13, 14, 15]]) (EK := [7, 4, 8, 5]) (EV := [?e2x0, ?e2x1, ?e2x2, ?e2x3]) (VL := [(kv ?v2x0), (kv ?v2x1), (kv ?v2x2), (kv ?v2x3), (kv ?v2x4), (kv ?v2x5), (kv ?v2x6), (kv ?v2x7), (kv ?v2x8), (kv ?v2x9), (kv ?v2x10), (kv ?v2x11), (fun γ => γ 12), (fun γ => γ 13), (fun γ => γ 14)]) (FL := fun γ w' => [True, True, True, True, True, True, True, True, True, True, True, True, IsZ w' (γ 12) X, IsZ w' (γ 13) (clr n F k).num, NewZ w' (γ 14) (wr.heap.size) ((clr n F k).num) 38]) ?hE2 (by kernel_rfl) (by kernel_rfl) (by rfl) (by kernel_rfl) ?hloc2 ?hmono2 ?hstep2 ?htail2
          case hE2 => refine ⟨?_, ?_, ?_, ?_, trivial⟩ <;> (simp only [List.getElem?_toArray, List.getElem?_cons_succ, List.getElem?_cons_zero]; rfl)
          case hstep2 =>
            refine ⟨⟨⟨⟨⟨⟨⟨⟨⟨⟨⟨⟨⟨⟨⟨trivial, ?_⟩, ?_⟩, ?_⟩, ?_⟩, ?_⟩, ?_⟩, ?_⟩, ?_⟩, ?_⟩, ?_⟩, ?_⟩, ?_⟩, ?_⟩, ?_⟩, ?_⟩
            · intro γ w' he hf; clear hf; refine ⟨trivial, ?_⟩; intro R hR
              have hc := he.cells
              go_simp
              (try go_ints); (try (rw [if_neg (by omega)])); (try (rw [if_pos (by omega)])); (try go_simp); (try go_ints)
              refine hR _ _ (Ext.refl _) ?_ trivial
              rfl
            · intro γ w' he hf; clear hf; refine ⟨trivial, ?_⟩; intro R hR
              have hc := he.cells
              go_simp
              (try go_ints); (try (rw [if_neg (by omega)])); (try (rw [if_pos (by omega)])); (try go_simp); (try go_ints)
              refine hR _ _ (Ext.refl _) ?_ trivial
              rfl
            · intro γ w' he hf; clear hf; refine ⟨trivial, ?_⟩; intro R hR
              have hc := he.cells
              go_simp
              (try go_ints); (try (rw [if_neg (by omega)])); (try (rw [if_pos (by omega)])); (try go_simp); (try go_ints)
              refine hR _ _ (Ext.refl _) ?_ trivial
              rfl
            · intro γ w' he hf; clear hf; refine ⟨trivial, ?_⟩; intro R hR
              have hc := he.cells
              go_simp
              (try go_ints); (try (rw [if_neg (by omega)])); (try (rw [if_pos (by omega)])); (try go_simp); (try go_ints)
              refine hR _ _ (Ext.refl _) ?_ trivial
              rfl
            · intro γ w' he hf; clear hf; refine ⟨trivial, ?_⟩; intro R hR
              have hc := he.cells
              go_simp
              (try go_ints); (try (rw [if_neg (by omega)])); (try (rw [if_pos (by omega)])); (try go_simp); (try go_ints)
              refine hR _ _ (Ext.refl _) ?_ trivial
              rfl
            · intro γ w' he hf; clear hf; refine ⟨trivial, ?_⟩; intro R hR
              have hc := he.cells
              have cq0 := he.cell q0
              have cq1 := he.cell q1
              have cq2 := he.cell q2
              have cq3 := he.cell q3
              have cq4 := he.cell ceb0
              have cq5 := he.cell ceb1
              go_simp
              (try go_ints); (try (rw [if_neg (by omega)])); (try (rw [if_pos (by omega)])); (try go_simp); (try go_ints)
              refine hR _ _ (Ext.refl _) ?_ trivial
              rfl
            · intro γ w' he hf; clear hf; refine ⟨trivial, ?_⟩; intro R hR
              have hc := he.cells
              have cq0 := he.cell q0
              have cq1 := he.cell q1
              have cq2 := he.cell q2
              have cq3 := he.cell q3
              have cq4 := he.cell ceb0
              have cq5 := he.cell ceb1
              go_simp
              (try go_ints); (try (rw [if_neg (by omega)])); (try (rw [if_pos (by omega)])); (try go_simp); (try go_ints)
              refine hR _ _ (Ext.refl _) ?_ trivial
              rfl
            · intro γ w' he hf; clear hf; refine ⟨trivial, ?_⟩; intro R hR
              have hc := he.cells
              go_simp
              (try go_ints); (try (rw [if_neg (by omega)])); (try (rw [if_pos (by omega)])); (try go_simp); (try go_ints)
              refine hR _ _ (Ext.refl _) ?_ trivial
              rfl
            · intro γ w' he hf; clear hf; refine ⟨trivial, ?_⟩; intro R hR
              have hc := he.cells
              go_simp
              (try go_ints); (try (rw [if_neg (by omega)])); (try (rw [if_pos (by omega)])); (try go_simp); (try go_ints)
              refine hR _ _ (Ext.refl _) ?_ trivial
              rfl
            · intro γ w' he hf; clear hf; refine ⟨trivial, ?_⟩; intro R hR
              have hc := he.cells
              go_simp
              (try go_ints); (try (rw [if_neg (by omega)])); (try (rw [if_pos (by omega)])); (try go_simp); (try go_ints)
              refine hR _ _ (Ext.refl _) ?_ trivial
              rfl
            · intro γ w' he hf; clear hf; refine ⟨trivial, ?_⟩; intro R hR
              have hc := he.cells
              go_simp
              (try go_ints); (try (rw [if_neg (by omega)])); (try (rw [if_pos (by omega)])); (try go_simp); (try go_ints)
              refine hR _ _ (Ext.refl _) ?_ trivial
              rfl
            · intro γ w' he hf; clear hf; refine ⟨trivial, ?_⟩; intro R hR
              have hc := he.cells
              have cq0 := he.cell q0
              have cq1 := he.cell q1
              have cq2 := he.cell q2
              have cq3 := he.cell q3
              have cq4 := he.cell ceb0
              have cq5 := he.cell ceb1
              go_simp
              (try go_ints); (try (rw [if_neg (by omega)])); (try (rw [if_pos (by omega)])); (try go_simp); (try go_ints)
              refine hR _ _ (Ext.refl _) ?_ trivial
              rfl
            · intro γ w' he hf; clear hf; refine ⟨trivial, ?_⟩; intro R hR
              go_simp
              refine Calls.mono (show Calls _ _ _ w' (Gives w' fun r w'' => IsZ w'' (r) X) from Gives.imp (exact_r _ _ (L : Int) (D : Int) w' ((Hb.out.kd he.kd).has (by have := HG.out.2.2.2.2.1; omega)) (Hq.out.1.kd he.kd) HG.out.2.1 (by have := HG.out.2.2.2.2.1; omega) (by have := HG.out.2.2.1; omega)) fun _ _ h => IsZ.cast h HG.out.1.symm) ?_
              rintro e w2 ⟨v, rfl, hv, hx⟩
              exact ⟨v, rfl, hR v w2 hx rfl hv⟩
            · intro γ w' he hf; have f12 : IsZ w' (γ 12) X := hf 12 (by decide); clear hf; refine ⟨trivial, ?_⟩; intro R hR
              go_simp
              refine Calls.mono (show Calls _ _ _ w' (Gives w' fun r w'' => IsZ w'' (r) (clr n F k).num) from Gives.imp (mul_r _ _ (F k).num X w' (Hq.out.2.kd he.kd) (f12.has (by have := HG.out.2.2.2.2.2.1; omega)) (by have := HG.out.2.2.2.2.2.2.2; omega) (by have := HG.out.2.2.2.2.2.1; omega)) fun _ _ h => IsZ.cast h HG.out.2.2.2.1) ?_
              rintro e w2 ⟨v, rfl, hv, hx⟩
              exact ⟨v, rfl, hR v w2 hx rfl hv⟩
            · intro γ w' he hf; have f12 : IsZ w' (γ 12) X := hf 12 (by decide); have f13 : IsZ w' (γ 13) (clr n F k).num := hf 13 (by decide); clear hf; refine ⟨trivial, ?_⟩; intro R hR
              refine IsZ.el f13 fun b5 A5 n5 c5 e13 f13' => ?_
              clear f13
              go_simp
              exact hR _ _ ((Ext.refl _).alloc _) rfl (NewZ.mk f13' (Nat.le_trans (by simp) he.size) _)
          case hloc2 =>
            exact ⟨⟨⟨⟨⟨⟨⟨⟨⟨⟨⟨⟨⟨⟨⟨trivial, (fun γ γ' h => ⟨rfl, fun _ => rfl⟩)⟩, (fun γ γ' h => ⟨rfl, fun _ => rfl⟩)⟩, (fun γ γ' h => ⟨rfl, fun _ => rfl⟩)⟩, (fun γ γ' h => ⟨rfl, fun _ => rfl⟩)⟩, (fun γ γ' h => ⟨rfl, fun _ => rfl⟩)⟩, (fun γ γ' h => ⟨rfl, fun _ => rfl⟩)⟩, (fun γ γ' h => ⟨rfl, fun _ => rfl⟩)⟩, (fun γ γ' h => ⟨rfl, fun _ => rfl⟩)⟩, (fun γ γ' h => ⟨rfl, fun _ => rfl⟩)⟩, (fun γ γ' h => ⟨rfl, fun _ => rfl⟩)⟩, (fun γ γ' h => ⟨rfl, fun _ => rfl⟩)⟩, (fun γ γ' h => ⟨rfl, fun _ => rfl⟩)⟩, (fun γ γ' h => ⟨h 12 rfl, fun w' => (congrArg (fun a => IsZ w' (a) X) (h 12 rfl))⟩)⟩, (fun γ γ' h => ⟨h 13 rfl, fun w' => (congrArg (fun a => IsZ w' (a) (clr n F k).num) (h 13 rfl))⟩)⟩, (fun γ γ' h => ⟨h 14 rfl, fun w' => (congrArg (fun a => NewZ w' (a) (wr.heap.size) ((clr n F k).num) 38) (h 14 rfl))⟩)⟩
          case hmono2 =>
            exact ⟨⟨⟨⟨⟨⟨⟨⟨⟨⟨⟨⟨⟨⟨⟨trivial, (fun γ wA w' e h => h)⟩, (fun γ wA w' e h => h)⟩, (fun γ wA w' e h => h)⟩, (fun γ wA w' e h => h)⟩, (fun γ wA w' e h => h)⟩, (fun γ wA w' e h => h)⟩, (fun γ wA w' e h => h)⟩, (fun γ wA w' e h => h)⟩, (fun γ wA w' e h => h)⟩, (fun γ wA w' e h => h)⟩, (fun γ wA w' e h => h)⟩, (fun γ wA w' e h => h)⟩, (fun γ wA w' e h => (show IsZ wA (γ 12) X from h).ext e)⟩, (fun γ wA w' e h => (show IsZ wA (γ 13) (clr n F k).num from h).ext e)⟩, (fun γ wA w' e h => (show NewZ wA (γ 14) (wr.heap.size) ((clr n F k).num) 38 from h).ext e)⟩
          intro γ w8 hx8 hF
          have p12 : IsZ w8 (γ 12) X := Each.get hF 12 (by decide)
          have p13 : IsZ w8 (γ 13) (clr n F k).num := Each.get hF 13 (by decide)
          have p14 : NewZ w8 (γ 14) (wr.heap.size) ((clr n F k).num) 38 := Each.get hF 14 (by decide)
          clear hF
          simp only [fillAll, gV, kv, List.getD_cons_zero, List.getD_cons_succ, Act.put, List.setIfInBounds_toArray, List.set_cons_zero, List.set_cons_succ, List.toList_toArray, List.drop_succ_cons, List.drop_zero, List.drop_nil, Nat.zero_add, Nat.reduceAdd]
          generalize γ 12 = g12 at *
          generalize γ 13 = g13 at *
          generalize γ 14 = g14 at *
          clear γ
          have hs8 := hx8.size
          refine wpList_append_run rfl _ _ 63 rfl u7 g14 rfl rfl (append_nz w8 _ _ (gb + 1) _ _ _ _ (Hown.out.ext hx8) p14 (by rw [lzf_len]; omega) (by omega)) ?_
          rintro v' w5 ⟨hown, U⟩
          have hb2 := OwnR.blk_ge (Hown.out.ext hx8)
          replace ea := (ea.ext hx8).upd U (fun hm => by have := (hb2 _ hm).1; omega)
          replace eb := (eb.ext hx8).upd U (fun hm => by have := (hb2 _ hm).1; omega)
          have Hb' := Lib.hid ((Hb.out.kd hx8.kd).kd U.kd)
          replace hx2 := U.from_ (hx2.trans hx8) (fun g hg => by have := (hb2 _ hg).1; omega)
          have Hown' := Lib.hid hown
          clear hown U hb2 hx8 Hb Hown p12 p13 p14 q0 q1 q2 q3 Hq
          go_wp2
          go_roundw
          case rel => exact ⟨k + 1, by omega, by go_num, by rw [lzf_succ]; exact Hown'.out, ea, eb, by rw [← HG.out.2.2.2.2.2.2.1]; exact Hb'.out, hx2⟩
          case measure => simp [intOf] <;> omega
        · obtain rfl : n = k := by omega
          obtain ⟨A2, c2, hv2⟩ := (OwnZ.row hown).len
          rw [lzf_len] at hv2
          have hz2 := lzf_hz hown (fun i => by have := HX.out.2.2.2.2.2.2.2 i; omega)
          rw [hv2] at hz2
          have hzn := clr_zi HX.out.2.2.2.2.2.1
          have hfn := clr_fin (n := n) HX.out.2.1
          have hczl := cz_lzf hzn (show Sup n (clr n F) from (HX.out.2.2.2.2.2.1).psc _)
          have hppz := pp_zi hzn hfn
          have hppq := fun i => pp_qsz hzn hfn HX.out.2.2.2.2.2.2.2 i
          have hppl : pl (pp (clr n F)) ≤ 1000 := by
            rw [pp_pl hzn hfn, clr_pl HX.out.2.1, ← HX.out.1]; exact hn3
          have Hz := Lib.hid (And.intro hz2 (And.intro hczl (And.intro hppz (And.intro hppq hppl)))); clear hz2 hczl hown hzn hfn hppz hppq hppl
          subst hv2
          go_wp2_with fail
          refine Calls.mono (primitive_rz _ _ _ Hz.out.1 (by rw [Hz.out.2.1]; intro i; have := HX.out.2.2.2.2.2.2.2 i; omega) (by rw [lzf_len]; omega)) ?_
          rintro e w2 ⟨r2, rfl, hr2, hx3⟩
          rw [Hz.out.2.1] at hr2
          replace ea := ea.ext hx3
          have hz4 := hx2.size
          replace hx2 := hx2.trans hx3
          have Hp := Lib.hid hr2
          obtain ⟨A3, c3, rfl, k3, k4⟩ := hr2.shape
          clear hr2 hx3 Hb eb
          go_wp2_with fail
          refine Calls.mono (lead_rp _ lh _ (HH.out.1.ext hx2) (by have := HH.out.2.1; omega)) ?_
          rintro e w3 ⟨r3, rfl, hr3, hx3⟩
          rw [HH.out.2.2] at hr3
          have hldq : qsz (ld F) ≤ 1000000 := by have := HX.out.2.2.2.1 (pl F - 1); have := HX.out.2.2.2.2.1; show qsz (F (pl F - 1)) ≤ _; omega
          have Hr3 := Lib.hid (hr3.has (by omega : qsz (ld F) ≤ 274877906944)); clear hr3 hldq
          have Hp' := Lib.hid (Hp.out.ext hx3)
          replace ea := ea.ext hx3
          replace hx2 := hx2.trans hx3
          clear hx3 Hp
          obtain ⟨lp, hp1, hp2, -, hp4⟩ := Hp'.out.hz (fun i => by have := Hz.out.2.2.2.1 i; omega)
          have HP := Lib.hid (And.intro hp1 (And.intro hp2 hp4)); clear hp1 hp2 hp4
          go_wp2_with fail
          refine Calls.mono (lead_rz _ lp _ HP.out.1 (by have := HP.out.2.1; have := Hz.out.2.2.2.2; omega)) ?_
          rintro e w4 ⟨r4, rfl, hr4, hx4⟩
          rw [HP.out.2.2] at hr4
          have hlq : sz (ld (pp (clr n F))).num.natAbs ≤ 1099511627776 := by
            have := Hz.out.2.2.2.1 (pl (pp (clr n F)) - 1)
            unfold qsz at this
            show sz (pp (clr n F) (pl (pp (clr n F)) - 1)).num.natAbs ≤ _
            omega
          have Hr4 := Lib.hid (hr4.has hlq); clear hr4 hlq
          have Hp := Lib.hid (Hp'.out.ext hx4)
          have Hr3' := Lib.hid (Hr3.out.ext hx4)
          replace ea := ea.ext hx4
          replace hx2 := hx2.trans hx4
          clear hx4 Hp' Hr3 HP
          go_wp2_with fail
          refine Calls.mono (whole_rq _ _ _ Hr4.out) ?_
          rintro e w5 ⟨r5, rfl, hr5, hx5⟩
          rw [show (((ld (pp (clr n F))).num : Int) : Rat) = ld (pp (clr n F)) from (Hz.out.2.2.1.num _).symm] at hr5
          have hlq : qsz (ld (pp (clr n F))) ≤ 274877906944 := by
            have := Hz.out.2.2.2.1 (pl (pp (clr n F)) - 1)
            show qsz (pp (clr n F) (pl (pp (clr n F)) - 1)) ≤ _
            omega
          have Hr5 := Lib.hid (hr5.has hlq); clear hr5 hlq
          have Hp' := Lib.hid (Hp.out.ext hx5)
          have Hr3 := Lib.hid (Hr3'.out.ext hx5)
          replace ea := ea.ext hx5
          replace hx2 := hx2.trans hx5
          clear hx5 Hp Hr3' Hr4
          go_wp2_with fail
          refine Calls.mono (ratio_rq _ _ _ _ _ Hr3.out Hr5.out) ?_
          rintro e w6 ⟨r6, rfl, hr6, hx6⟩
          obtain ⟨b8, A8, n8, c8, b9, A9, n9, c9, rfl⟩ := hr6.cells
          have hp := Hp'.out.ext hx6
          replace ea := ea.ext hx6
          have hxx := hx.trans (hx2.trans hx6)
          clear hx6 Hp' Hr3 Hr5 hx2
          obtain ⟨cea0, cea1, cea2, cea3⟩ := ea.cells4
          have fea := ea.frozen
          go_wp2
          obtain ⟨W3, eW, ea', U⟩ := ea.put4 (.bool b8) (.slice A8 n8 c8) (.bool b9) (.slice A9 n9 c9) rfl rfl rfl rfl
          rw [← eW]
          clear eW ea
          replace hr6 := hr6.kd U.kd
          replace hp := hp.upd U (by simp <;> omega)
          replace hxx := U.from_ hxx (by simp <;> omega)
          have ea := ea'
          clear U ea'
          have HP := Lib.hid (hp.base_le (Nat.zero_le _)); clear hp
          clear cea0 cea1 cea2 cea3
          obtain ⟨cea0, cea1, cea2, cea3⟩ := ea.cells4
          have fea := ea.frozen
          refine bodyPost_ret (v := .tuple #[_, .agg #[.bool b8, .slice A8 n8 c8, .bool b9, .slice A9 n9 c9]]) (by simp [results, Tryz.results39, go_sem, cea0, cea1, cea2, cea3]; rfl) rfl ?_
          exact Gives.mk ⟨_, _, rfl, HP.out, hr6⟩ hxx
end Go.Proofs.YtedoifjbgokmcaaGreat
namespace Go.Proofs.YtedoifjbgokmcaaGreat
open Go.RowKit Go.Hp
set_option maxHeartbeats 1000000 in
theorem of_qp (v : Value) (l : List Int) (w : World) (hv : HzV 0 w v l) (hn : l.length ≤ 1099511627776) : Calls Tryz.prog 41 #[v] w (Gives w fun r w' => IsP w.heap.size w' r (cz l)) := by
  obtain ⟨A, c, rfl, hl, hc, hA⟩ := hv
  obtain ⟨W0, hmk, ea, hx⟩ := make_rats l.length (l.length : Int) rfl hn w
  have HA : Hid (HzAt 0 w A l) := Lib.hid hA; clear hA
  have hzl := zq_len l
  have Hzl := Lib.hid hzl; clear hzl
  go_enter Tryz.func41, Tryz.ntmps41
  go_wp2
  go_loopw [11] (fun iv wr => ∃ (k : Nat) (la : List (Option Rat)), k ≤ l.length ∧ iv = .int .i64 k ∧ QArr wr w.heap.size 40 la ∧ la.length = l.length ∧ la = ((zq l).take k).map some ++ List.replicate (l.length - k) none ∧ Ext w wr) (fun iv _ => l.length - (intOf iv).toNat)
  case atStart => exact ⟨0, _, Nat.zero_le _, rfl, ea, by simp, by simp, hx⟩
  case round =>
    obtain ⟨k, la, hk, rfl, ea, hlen, hla, hx⟩ := hrel
    have Hla := Lib.hid hla; clear hla
    have Hlen := Lib.hid hlen; clear hlen
    by_cases hkl : k < l.length
    · obtain ⟨g, o, b, A1, n, c1, rfl, _, q0, q1, hq⟩ := HA.out.at_ (j := k) hkl
      replace q0 := hx.cell q0
      replace q1 := hx.cell q1
      have Hq := Lib.hid hq; clear hq
      go_wp2_with fail
      refine Calls.mono (whole_q _ _ _ (Hq.out.kd (hx.alloc _).kd)) ?_
      rintro e w2 ⟨r, rfl, hr, hx2⟩
      replace ea := ea.ext hx2.a1
      replace hx := hx.trans hx2.a1
      clear hx2 q0 q1
      obtain ⟨b5, A5, n5, c5, b6, A6, n6, c6, rfl⟩ := hr.cells
      have hkla : k < la.length := by have := Hlen.out; omega
      obtain ⟨_, _, _, _, _, _, _, _, ca0, ca1, ca2, ca3, -⟩ := ea.at_ (j := k) (by first | omega | (simp; omega))
      have fa0 := ea.frozen (k * 4)
      have fa1 := ea.frozen (k * 4 + 1)
      have fa2 := ea.frozen (k * 4 + 2)
      have fa3 := ea.frozen (k * 4 + 3)
      go_wp2
      obtain ⟨W3, eW, ea', U⟩ := ea.put (k := k) (by first | omega | (simp; omega)) hr
      rw [← eW]
      clear eW ea
      replace hx := U.from_ hx (by simp <;> omega)
      have ea := ea'
      clear U ea'
      go_roundw
      case rel => exact ⟨k + 1, _, by omega, by go_num, ea, by simpa using Hlen.out, pick_set Hla.out hkl Hzl.out (zq_get hkl), hx⟩
      case measure => simp [intOf]; omega
    · obtain rfl : k = l.length := by omega
      replace ea : QArr wr w.heap.size 40 ((zq l).map some) := by
        have := Hla.out
        rw [Nat.sub_self, List.replicate_zero, List.append_nil, List.take_of_length_le (by rw [Hzl.out]; exact Nat.le_refl _)] at this
        rw [← this]; exact ea
      have hrow := ea.row (m := zq l) rfl (Nat.le_refl _)
      have hT := trimmed_qs w.heap.size (some ⟨w.heap.size, 0, none⟩) l.length (zq l) wr (by rw [Hzl.out]; exact Nat.le_refl _) (by omega) hrow
      rw [Hzl.out] at hT
      have Hrow := Lib.hid hrow; clear hrow
      go_wp2_with fail
      refine Calls.mono hT ?_
      rintro e w2 ⟨rfl, rfl⟩
      go_wp2
      go_ret
      exact Gives.mk (IsP.of_trim (QsV.trim Hrow.out (by rw [Hzl.out]; exact Nat.le_refl _)) rfl) hx
set_option maxHeartbeats 1000000 in
theorem of_rp (v : Value) (l : List Int) (w : World) (hv : HzV 0 w v l) (hs : ∀ i, qsz (cz l i) ≤ 274877906944) (hn : l.length ≤ 274877906944) : Calls Tryz.prog 42 #[v] w (Gives w fun r w' => IsP w.heap.size w' r (cz l)) := by
  obtain ⟨A, c, rfl, hl, hc, hA⟩ := hv
  have HA : Hid (HzAt 0 w A l) := Lib.hid hA; clear hA
  have HS := Lib.hid hs; clear hs
  go_enter Tryz.func42, Tryz.ntmps42
  go_wp2
  go_loopw [3, 4] (fun ov iv wr => ∃ (k : Nat), k ≤ l.length ∧ iv = .int .i64 k ∧ OwnQ w.heap.size 40 wr ov ((List.range k).map (cz l)) ∧ Ext w wr) (fun _ iv _ => l.length - (intOf iv).toNat)
  case atStart => exact ⟨0, Nat.zero_le _, rfl, OwnR.nil _ _ _ _ _, Ext.refl _⟩
  case round =>
    obtain ⟨k, hk, rfl, hown, hx⟩ := hrel
    by_cases hkl : k < l.length
    · obtain ⟨g, o, b, A1, n, c1, rfl, _, q0, q1, hq⟩ := HA.out.at_ (j := k) hkl
      replace q0 := hx.cell q0
      replace q1 := hx.cell q1
      have Hq := Lib.hid hq; clear hq
      go_wp2_with fail
      refine Calls.mono (whole_rq _ _ _ (Hq.out.kd hx.kd)) ?_
      rintro e w2 ⟨r, rfl, hr, hx2⟩
      rw [← cz_lt hkl] at hr
      obtain ⟨b5, A5, n5, c5, b6, A6, n6, c6, rfl⟩ := hr.cells
      have Hr := Lib.hid hr; clear hr
      replace hown := hown.ext hx2
      replace hx := hx.trans hx2
      have Hown := Lib.hid hown; clear hown
      have hsz := hx.size
      clear hx2 q0 q1
      go_wp2_with (at_builtin; refine wpList_append_run rfl _ _ 22 rfl u3 (.slice (some ⟨w2.heap.size, 0, none⟩) 1 1) rfl rfl (append_rq w2 w.heap.size _ _ _ _ _ Hown.out Hr.out (by first | (rw [List.length_map, List.length_range]; omega) | omega) hsz rfl) ?_)
      first | intro v' w5 hown U | rintro v' w5 ⟨hown, U⟩
      replace hx := (Hown.out.ext ((Ext.refl w2).alloc _)).from_ U (hx.alloc _) (Nat.le_refl _)
      have Hown' := Lib.hid hown; clear hown U
      go_wp2
      go_roundw
      case rel => exact ⟨k + 1, by omega, by go_num, by rw [range_succ_map]; exact Hown'.out, hx⟩
      case measure => simp [intOf] <;> omega
    · obtain rfl : k = l.length := by omega
      have hz : Sup l.length (cz l) := (cz_sup l)
      have hco := co_ofFn hz
      have hh := (OwnQ.row hown).has (fun q hq => by obtain ⟨i, hi, rfl⟩ := List.mem_map.1 hq; have hi := List.mem_range.1 hi; exact (HS.out i))
      have hln : ((List.range l.length).map (cz l)).length ≤ 1099511627776 := by rw [List.length_map, List.length_range]; omega
      obtain ⟨A2, c2, e2⟩ := hh.len
      rw [range_len] at e2
      subst e2
      have HH := Lib.hid (And.intro hh hco); clear hh hco hz hown
      go_wp2_with fail
      refine Calls.mono (normal_rp _ _ _ HH.out.1 hln) ?_
      rintro e w9 ⟨r, rfl, hr, hx9⟩
      have hsz := (hx).size
      have Hr := Lib.hid hr; clear hr hln
      go_wp2
      go_ret
      exact Gives.mk (by rw [← HH.out.2]; exact Hr.out.base_le (by omega)) ((hx).trans hx9)
end Go.Proofs.YtedoifjbgokmcaaGreat
namespace Go.Proofs.YtedoifjbgokmcaaGreat
open Go.RowKit Go.Hp
set_option maxHeartbeats 1000000 in
theorem sameints_d (v u : Value) (l m : List Int) (b1 b2 : Nat) (w : World) (hv : ZsV b1 w v l) (hu : ZsV b2 w u m) (hn : l.length ≤ 1099511627776) : Calls Tryz.prog 40 #[v, u] w (Gives w fun r _ => r = .bool (decide (l = m))) := by
  have HV := Lib.hid hv; have HU := Lib.hid hu
  obtain ⟨A, c, rfl⟩ := RowV.len hv
  obtain ⟨E, d, rfl⟩ := RowV.len hu
  clear hv hu
  obtain ⟨D, hD⟩ : ∃ D, D = decide (l = m) := ⟨_, rfl⟩
  rw [← hD]
  have HD := Lib.hid hD; clear hD
  by_cases hlen : l.length = m.length
  · have hb : ((l.length : Int) != (m.length : Int)) = false := by simp [hlen]
    have Hlen := Lib.hid hlen; clear hlen
    go_enter Tryz.func40, Tryz.ntmps40
    go_wp2
    go_loopw [5] (fun iv wr => ∃ (k : Nat), k ≤ l.length ∧ iv = .int .i64 k ∧ (∀ j (h : j < l.length) (h' : j < m.length), j < k → l[j] = m[j]) ∧ Ext w wr) (fun iv _ => l.length - (intOf iv).toNat)
    case atStart => exact ⟨0, Nat.zero_le _, rfl, fun j h h' h0 => by omega, Ext.refl _⟩
    case round =>
      obtain ⟨k, hk, rfl, heq, hx⟩ := hrel
      have Heq := Lib.hid heq; clear heq
      by_cases hkl : k < l.length
      · have hkm : k < m.length := by have := Hlen.out; omega
        obtain ⟨g, o, b, A1, n, c1, rfl, _, q0, q1, hq⟩ := HV.out.at_ (j := k) hkl
        obtain ⟨g', o', bb, B1, m1, d1, rfl, _, r0, r1, hq'⟩ := HU.out.at_ (j := k) hkm
        replace q0 := hx.cell q0
        replace q1 := hx.cell q1
        replace r0 := hx.cell r0
        replace r1 := hx.cell r1
        have Hq := Lib.hid (And.intro (hq.kd hx.kd) (hq'.kd hx.kd)); clear hq hq'
        go_wp2_with fail
        refine wp_region_par (k := 8) (D := [17, 18, 19, 20, 21, 22, 23, 24]) (T := [[], [], [0, 1], [0, 1, 2], [], [], [4, 5], [4, 5, 6], [0, 1, 2, 3, 4, 5, 6, 7], [0, 1, 2, 3, 4, 5, 6, 7, 8]]) (EK := [0, 5, 1]) (EV := [?e1x0, ?e1x1, ?e1x2]) (VL := [(kv ?v1x0), (kv ?v1x1), (kv ?v1x2), (kv ?v1x3), (kv ?v1x4), (kv ?v1x5), (kv ?v1x6), (kv ?v1x7)]) (FL := fun γ w' => [True, True, True, True, True, True, True, True]) ?hE1 (by kernel_rfl) (by kernel_rfl) (by rfl) (by kernel_rfl) ?hloc1 ?hmono1 ?hstep1 ?htail1
        case hE1 => refine ⟨?_, ?_, ?_, trivial⟩ <;> (simp only [List.getElem?_toArray, List.getElem?_cons_succ, List.getElem?_cons_zero]; rfl)
        case hstep1 =>
          refine ⟨⟨⟨⟨⟨⟨⟨⟨trivial, ?_⟩, ?_⟩, ?_⟩, ?_⟩, ?_⟩, ?_⟩, ?_⟩, ?_⟩
          · intro γ w' he hf; clear hf; refine ⟨trivial, ?_⟩; intro R hR
            have hc := he.cells
            go_simp
            (try go_ints); (try (rw [if_neg (by omega)])); (try (rw [if_pos (by omega)])); (try go_simp); (try go_ints)
            refine hR _ _ (Ext.refl _) ?_ trivial
            rfl
          · intro γ w' he hf; clear hf; refine ⟨trivial, ?_⟩; intro R hR
            have hc := he.cells
            go_simp
            (try go_ints); (try (rw [if_neg (by omega)])); (try (rw [if_pos (by omega)])); (try go_simp); (try go_ints)
            refine hR _ _ (Ext.refl _) ?_ trivial
            rfl
          · intro γ w' he hf; clear hf; refine ⟨trivial, ?_⟩; intro R hR
            have hc := he.cells
            go_simp
            (try go_ints); (try (rw [if_neg (by omega)])); (try (rw [if_pos (by omega)])); (try go_simp); (try go_ints)
            refine hR _ _ (Ext.refl _) ?_ trivial
            rfl
          · intro γ w' he hf; clear hf; refine ⟨trivial, ?_⟩; intro R hR
            have hc := he.cells
            have cq0 := he.cell q0
            have cq1 := he.cell q1
            have cq2 := he.cell r0
            have cq3 := he.cell r1
            go_simp
            (try go_ints); (try (rw [if_neg (by omega)])); (try (rw [if_pos (by omega)])); (try go_simp); (try go_ints)
            refine hR _ _ (Ext.refl _) ?_ trivial
            rfl
          · intro γ w' he hf; clear hf; refine ⟨trivial, ?_⟩; intro R hR
            have hc := he.cells
            go_simp
            (try go_ints); (try (rw [if_neg (by omega)])); (try (rw [if_pos (by omega)])); (try go_simp); (try go_ints)
            refine hR _ _ (Ext.refl _) ?_ trivial
            rfl
          · intro γ w' he hf; clear hf; refine ⟨trivial, ?_⟩; intro R hR
            have hc := he.cells
            go_simp
            (try go_ints); (try (rw [if_neg (by omega)])); (try (rw [if_pos (by omega)])); (try go_simp); (try go_ints)
            refine hR _ _ (Ext.refl _) ?_ trivial
            rfl
          · intro γ w' he hf; clear hf; refine ⟨trivial, ?_⟩; intro R hR
            have hc := he.cells
            go_simp
            (try go_ints); (try (rw [if_neg (by omega)])); (try (rw [if_pos (by omega)])); (try go_simp); (try go_ints)
            refine hR _ _ (Ext.refl _) ?_ trivial
            rfl
          · intro γ w' he hf; clear hf; refine ⟨trivial, ?_⟩; intro R hR
            have hc := he.cells
            have cq0 := he.cell q0
            have cq1 := he.cell q1
            have cq2 := he.cell r0
            have cq3 := he.cell r1
            go_simp
            (try go_ints); (try (rw [if_neg (by omega)])); (try (rw [if_pos (by omega)])); (try go_simp); (try go_ints)
            refine hR _ _ (Ext.refl _) ?_ trivial
            rfl
        case hloc1 =>
          exact ⟨⟨⟨⟨⟨⟨⟨⟨trivial, (fun γ γ' h => ⟨rfl, fun _ => rfl⟩)⟩, (fun γ γ' h => ⟨rfl, fun _ => rfl⟩)⟩, (fun γ γ' h => ⟨rfl, fun _ => rfl⟩)⟩, (fun γ γ' h => ⟨rfl, fun _ => rfl⟩)⟩, (fun γ γ' h => ⟨rfl, fun _ => rfl⟩)⟩, (fun γ γ' h => ⟨rfl, fun _ => rfl⟩)⟩, (fun γ γ' h => ⟨rfl, fun _ => rfl⟩)⟩, (fun γ γ' h => ⟨rfl, fun _ => rfl⟩)⟩
        case hmono1 =>
          exact ⟨⟨⟨⟨⟨⟨⟨⟨trivial, (fun γ wA w' e h => h)⟩, (fun γ wA w' e h => h)⟩, (fun γ wA w' e h => h)⟩, (fun γ wA w' e h => h)⟩, (fun γ wA w' e h => h)⟩, (fun γ wA w' e h => h)⟩, (fun γ wA w' e h => h)⟩, (fun γ wA w' e h => h)⟩
        intro γ w1 hx1 hF
        clear hF
        simp only [fillAll, gV, kv, List.getD_cons_zero, List.getD_cons_succ, Act.put, List.setIfInBounds_toArray, List.set_cons_zero, List.set_cons_succ, List.toList_toArray, List.drop_succ_cons, List.drop_zero, List.drop_nil, Nat.zero_add, Nat.reduceAdd]
        clear γ
        go_wp2_with fail
        refine Calls.mono (sameint_b _ _ l[k] m[k] _ (Hq.out.1.kd hx1.kd) (Hq.out.2.kd hx1.kd)) ?_
        rintro e w2 ⟨r, rfl, rfl, hx2⟩
        replace hx := (hx.trans hx1).trans hx2
        clear q0 q1 r0 r1 hx1 hx2 Hq
        by_cases he : l[k] = m[k]
        · have hb2 : decide (l[k] = m[k]) = true := decide_eq_true he
          have He := Lib.hid he; clear he
          go_wp2
          go_roundw
          case rel => exact ⟨k + 1, by omega, by go_num, fun j h h' h0 => by
            rcases Nat.lt_or_ge j k with h1 | h1
            · exact Heq.out j h h' h1
            · obtain rfl : j = k := by omega
              exact He.out, hx⟩
          case measure => simp [intOf] <;> omega
        · have hb2 : decide (l[k] = m[k]) = false := decide_eq_false he
          have He := Lib.hid he; clear he
          have hd : D = false := by
            rw [HD.out]
            refine decide_eq_false fun e => He.out ?_
            subst e; rfl
          have HD' := Lib.hid hd; clear hd
          go_wp2
          go_ret
          rw [HD'.out]
          exact Gives.mk rfl hx
      · obtain rfl : k = l.length := by omega
        have hd : D = true := by
          rw [HD.out]
          refine decide_eq_true (List.ext_getElem Hlen.out fun i h h' => Heq.out i h h' h)
        have HD' := Lib.hid hd; clear HV HU hd
        go_wp2
        go_ret
        rw [HD'.out]
        exact Gives.mk rfl hx
  · have hb : ((l.length : Int) != (m.length : Int)) = true := by simp; omega
    have hd : D = false := by rw [HD.out]; exact decide_eq_false fun e => hlen (by rw [e])
    have HD' := Lib.hid hd; clear HV HU hd hlen
    go_enter Tryz.func40, Tryz.ntmps40
    go_wp2
    go_ret
    rw [HD'.out]
    exact Gives.mk rfl (Ext.refl _)
theorem sameints_p (v u : Value) (F G : Nat → Rat) (b1 b2 : Nat) (w : World) (hv : IsZP b1 w v F) (hu : IsZP b2 w u G) (hn : pl F ≤ 1099511627776) : Calls Tryz.prog 40 #[v, u] w (Gives w fun r _ => ∃ b : Bool, r = .bool b ∧ (b = true ↔ F = G)) := by
  obtain ⟨l, h1, h2, h3, rfl⟩ := hv.zs
  obtain ⟨m, k1, k2, k3, rfl⟩ := hu.zs
  refine Gives.imp (sameints_d v u l m b1 b2 w h1 k1 (by omega)) fun r _ h => ⟨_, h, ?_⟩
  rw [decide_eq_true_iff]
  exact ⟨fun e => by rw [e], fun e => zs_uniq h3 k3 e⟩
theorem sameints_t (v u : Value) (F : Nat → Rat) (b1 b2 : Nat) (w : World) (hv : IsZP b1 w v F) (hu : IsZP b2 w u F) (hn : pl F ≤ 1099511627776) : Calls Tryz.prog 40 #[v, u] w (Gives w fun r _ => r = .bool true) :=
  Gives.imp (sameints_p v u F F b1 b2 w hv hu hn) fun r _ ⟨b, h1, h2⟩ => by rw [h1, h2.2 rfl]
end Go.Proofs.YtedoifjbgokmcaaGreat
namespace Go.Hp
theorem IsZP.cast {b : Nat} {w : World} {v : Value} {F G : Nat → Rat} (h : IsZP b w v F) (e : F = G) : IsZP b w v G := e ▸ h
theorem IsP.cast {b : Nat} {w : World} {v : Value} {F G : Nat → Rat} (h : IsP b w v F) (e : F = G) : IsP b w v G := e ▸ h
theorem qsz_cfa {n : Nat} {F : Nat → Rat} {s : Nat} (hs : Sup n F) (hq : ∀ i, qsz (F i) ≤ s) : qsz (cfa n F) ≤ s + (1 + n * s + 1 + s) := by
  unfold cfa
  have h1 := qsz_div (ld F) (ld (pp (clr n F)))
  have h2 := hq (pl F - 1)
  have h3 := pp_qsz (clr_zi hs) (clr_fin (n := n) ⟨n, hs⟩) (fun i => clr_qsz (n := n) hq i) (pl (pp (clr n F)) - 1)
  have e1 : ld F = F (pl F - 1) := rfl
  have e2 : ld (pp (clr n F)) = pp (clr n F) (pl (pp (clr n F)) - 1) := rfl
  rw [e1, e2] at h1
  show qsz (F (pl F - 1) / pp (clr n F) (pl (pp (clr n F)) - 1)) ≤ _
  omega
theorem cfa_all {n : Nat} {F : Nat → Rat} (hs : Sup n F) : psc (cfa n F) (pp (clr n F)) = F := by
  by_cases h0 : F = pz
  · subst h0; rw [clr_pz, pp_pz]; exact psc_pz _
  · exact (cfa_eq hs h0).2
end Go.Hp
namespace Go.Proofs.YtedoifjbgokmcaaGreat
open Go.RowKit Go.Hp
theorem clear_any (v : Value) (l : List Rat) (s : Nat) (w : World) (hv : HsV 0 w v l) (hn : l.length ≤ 1000) (hs : ∀ i, qsz (co l i) ≤ s) (hs0 : s ≤ 1000000) :
    Calls Tryz.prog 38 #[v] w (Gives w fun r w' => ClOut (pl (co l)) (co l) r w') := by
  by_cases h0 : co l = pz
  · have := clear_zero v l w hv (by omega) h0
    rw [h0, pl_pz]; exact this
  · exact clear_p v l s w hv hn hs hs0 h0
theorem clear_rany (v : Value) (l : List Rat) (s : Nat) (w : World) (hv : HsV 0 w v l) (hn : l.length ≤ 1000) (hs : ∀ i, qsz (co l i) ≤ s) (hs0 : s ≤ 1000000) :
    Calls Tryz.prog 39 #[v] w (Gives w fun r w' => ClOut (pl (co l)) (co l) r w') := by
  by_cases h0 : co l = pz
  · have := clear_rzero v l w hv (by omega) h0
    rw [h0, pl_pz]; exact this
  · exact clear_rp v l s w hv hn hs hs0 h0
theorem Calls_scale_cl (v u : Value) (F : Nat → Rat) (a : Rat) (w : World) (hv : IsP 0 w v F) (hs : ∀ i, qsz (F i) ≤ 274877906944) (hu : HasQ w u a) (hn : pl F ≤ 1099511627776) :
    Calls Tryz.prog 27 #[v, u] w (Gives w fun r w' => IsP 0 w' r (psc a F)) := by
  obtain ⟨l, h1, h2, -, rfl⟩ := hv.hs hs
  exact Gives.imp (scale_p v u l a w h1 hu (by omega)) fun _ _ h => h.base_le (Nat.zero_le _)
set_option maxRecDepth 20000 in
set_option maxHeartbeats 16000000 in
theorem clears_law (v0 v1 : Value) (l0 : List Raw) (l1 : List RawI) (w : World) (h0 : PolyV w v0 l0) (h1 : ZPolyV w v1 l1) :
    Calls Tryz.prog 7 #[v0, v1] w (Gives w fun r _ => r = .bool true) := by
  have H0 := Lib.hid h0; have H1 := Lib.hid h1
  obtain ⟨A0, c0, rfl, k1, k2⟩ := h0.len
  obtain ⟨A1, c1, rfl, k3, k4⟩ := h1.len
  clear h0 h1
  go_enter Tryz.func7, Tryz.ntmps7
  go_wp2_with fail
  refine Calls.mono (awake_b _) ?_
  rintro e w1 ⟨r, rfl, rfl, hx⟩
  go_wp2_with fail
  refine Calls.mono (long_b 12 w1.heap.size 1 [(_, l0)] _ (by decide) (by simp) (by simp) (listsV_one w1 _ (H0.out.ext hx) rfl)) ?_
  rintro e w2 ⟨rfl, b, rfl, hb⟩
  replace hx := hx.alloc (.cells #[.slice A0 l0.length c0] 22)
  have Hb := Lib.hid hb; clear hb
  generalize w1.alloc (.cells #[.slice A0 l0.length c0] 22) = wb at hx ⊢
  cases b with
  | true =>
    go_wp2
    go_ret
    exact Gives.mk rfl hx
  | false =>
    by_cases h12 : 12 < l1.length
    · have hb1 : decide ((12 : Int) < l1.length) = true := by simp; omega
      go_wp2
      go_ret
      exact Gives.mk rfl hx
    · have hb1 : decide ((12 : Int) < l1.length) = false := by simp; omega
      go_wp2
      go_loopw [5] (fun iv wr => ∃ i : Nat, i ≤ l1.length ∧ iv = .int .i64 i ∧ (∀ j (h : j < l1.length), j < i → l1[j].2.length ≤ 4) ∧ Ext w wr) (fun iv _ => l1.length - (intOf iv).toNat)
      case atStart => exact ⟨0, by omega, rfl, fun j h h' => by omega, hx⟩
      case round =>
        clear hx hb1
        obtain ⟨i, hi, rfl, hsm, hx⟩ := hrel
        have Hsm := Lib.hid hsm; clear hsm
        by_cases hil : i < l1.length
        · obtain ⟨g, o, B1, bc, rfl, q0, q1, -⟩ := H1.out.at_ hil
          replace q0 := hx.cell q0
          replace q1 := hx.cell q1
          obtain ⟨n1, hn1⟩ : ∃ n1, n1 = l1[i].2.length := ⟨_, rfl⟩
          rw [← hn1] at q1
          by_cases h4 : 4 < n1
          · have hb2 : decide ((4 : Int) < n1) = true := by simp; omega
            clear hn1
            go_wp2
            go_ret
            exact Gives.mk rfl hx
          · have hb2 : decide ((4 : Int) < n1) = false := by simp; omega
            have Hn1 := Lib.hid hn1; clear hn1
            go_wp2
            go_roundw
            case rel => exact ⟨i + 1, by omega, by go_num, fun j h1 h2 => by
              rcases Nat.lt_or_ge j i with h | h
              · exact Hsm.out j h1 h
              · obtain rfl : j = i := by omega
                rw [← Hn1.out]; omega, hx⟩
            case measure => simp [intOf] <;> omega
        · obtain rfl : i = l1.length := by omega
          have hs1 : ∀ x ∈ l1, x.2.length ≤ 4 := fun x hx => by
            obtain ⟨j, hj, rfl⟩ := List.getElem_of_mem hx
            exact Hsm.out j hj hj
          obtain ⟨hl0, hs0⟩ := Hb.out (by trivial) (.slice A0 l0.length c0, l0) (by simp)
          simp only at hl0 hs0
          have P0 := Lib.hid (H0.out.has hs0)
          have P1 := Lib.hid (H1.out.has hs1).1
          have HC := Lib.hid (And.intro (small_qsz H0.out hs0) (H1.out.qsz hs1))
          have hll0 : (l0.map ratOf).length = l0.length := by simp
          have hll1 : (l1.map zOf).length = l1.length := by simp
          obtain ⟨m0, hm0⟩ : ∃ m0, m0 = l0.map ratOf := ⟨_, rfl⟩
          obtain ⟨m1, hm1⟩ : ∃ m1, m1 = l1.map zOf := ⟨_, rfl⟩
          rw [← hm0] at P0 HC hll0
          rw [← hm1] at P1 HC hll1
          rw [← hll0] at hl0 k1 P0 ⊢
          have hl1 : m1.length ≤ 12 := by omega
          clear hs0 hs1 hm0 hm1 hll0 hll1 Hb H0 H1 Hsm hi hil h12
          have hp0 := pl_le (co_sup m0)
          have hsup := pl_sup (Fin_.co m0)
          obtain ⟨n, hn⟩ : ∃ n, n = pl (co m0) := ⟨_, rfl⟩
          have hn12 : n ≤ 12 := by omega
          rw [← hn] at hsup
          have hzi := clr_zi hsup
          have hfn := clr_fin (n := n) (Fin_.co m0)
          have hcq : ∀ i, qsz (clr n (co m0) i) ≤ 100 := fun i => by
            have := clr_qsz (n := n) HC.out.1 i
            have h2 : n * 2 ≤ 12 * 2 := Nat.mul_le_mul_right _ hn12
            omega
          have hpq : ∀ i, qsz (pp (clr n (co m0)) i) ≤ 100 := fun i => pp_qsz hzi hfn hcq i
          have hfq : qsz (cfa n (co m0)) ≤ 100 := by
            have := qsz_cfa hsup HC.out.1
            have h2 : n * 2 ≤ 12 * 2 := Nat.mul_le_mul_right _ hn12
            omega
          have hall := cfa_all hsup
          have hppp := pp_pp hzi hfn
          have hplp : pl (pp (clr n (co m0))) ≤ 12 := by
            rw [pp_pl hzi hfn, clr_pl (Fin_.co m0)]; omega
          have HF := Lib.hid (And.intro hn (And.intro hpq (And.intro hfq (And.intro hall (And.intro hppp hplp)))))
          clear hn hsup hzi hfn hcq hpq hfq hall hppp hplp
          go_wp2_with fail
          refine Calls.mono (clear_any _ m0 2 _ (P0.out.ext hx) (by omega) HC.out.1 (by omega)) ?_
          rintro e w2 ⟨r2, rfl, ⟨pa, pb, rfl, hpa, hpb⟩, hx2⟩
          rw [← HF.out.1] at hpa hpb
          obtain ⟨A2, c2, rfl, k5, k6⟩ := hpa.shape
          obtain ⟨b5, A5, n5, c5, b6, A6, n6, c6, rfl⟩ := hpb.cells
          obtain ⟨W0, eW, eA, x0⟩ := Box.made w2 40 #[.bool b5, .slice A5 n5 c5, .bool b6, .slice A6 n6 c6] (by simp [isDig])
          have Hp := Lib.hid (And.intro (hpa.ext x0) (hpb.ext x0))
          replace hx := hx.trans (hx2.trans x0)
          clear hpa hpb hx2
          go_wp2_with fail
          rw [← eW]
          clear eW x0
          generalize w2.heap.size = gA at *
          refine Calls.mono (clear_rany _ m0 2 _ (P0.out.ext hx) (by omega) HC.out.1 (by omega)) ?_
          rintro e w3 ⟨r3, rfl, ⟨qa, qb, rfl, hqa, hqb⟩, hx3⟩
          rw [← HF.out.1] at hqa hqb
          obtain ⟨A3, c3, rfl, k7, k8⟩ := hqa.shape
          obtain ⟨b7, A7, n7, c7, b8, A8, n8, c8, rfl⟩ := hqb.cells
          obtain ⟨W1, eW, eB, x1⟩ := Box.made w3 40 #[.bool b7, .slice A7 n7 c7, .bool b8, .slice A8 n8 c8] (by simp [isDig])
          have Hq := Lib.hid (And.intro (hqa.ext x1) (hqb.ext x1))
          replace eA := eA.ext (hx3.trans x1)
          have Hp' := Lib.hid (And.intro (Hp.out.1.ext (hx3.trans x1)) (Hp.out.2.ext (hx3.trans x1))); clear Hp
          replace hx := hx.trans (hx3.trans x1)
          clear hqa hqb hx3
          go_wp2_with fail
          rw [← eW]
          clear eW x1
          generalize w3.heap.size = gB at *
          refine Calls.mono (sameints_t _ _ _ _ _ _ Hp'.out.1 Hq.out.1 (by have := HF.out.2.2.2.2.2; omega)) ?_
          rintro e w4 ⟨r4, rfl, rfl, hx4⟩
          replace eA := eA.ext hx4
          replace eB := eB.ext hx4
          have Hp := Lib.hid (And.intro (Hp'.out.1.ext hx4) (Hp'.out.2.ext hx4)); clear Hp'
          have Hq' := Lib.hid (Hq.out.2.ext hx4); clear Hq
          replace hx := hx.trans hx4
          clear hx4
          obtain ⟨ceA0, ceA1, ceA2, ceA3⟩ := eA.cells4
          have feA := eA.frozen
          obtain ⟨ceB0, ceB1, ceB2, ceB3⟩ := eB.cells4
          have feB := eB.frozen
          go_wp2_with fail
          refine Calls.mono (same_rq _ _ _ _ _ Hp.out.2 Hq'.out) ?_
          rintro e w5 ⟨r5, rfl, rfl, hx5⟩
          replace eA := eA.ext hx5
          have Hp' := Lib.hid (And.intro (Hp.out.1.ext hx5) (Hp.out.2.ext hx5)); clear Hp Hq'
          replace hx := hx.trans hx5
          clear hx5 ceA0 ceA1 ceA2 ceA3 ceB0 ceB1 ceB2 ceB3 feA feB eB
          rw [decide_eq_true (rfl : cfa n (co m0) = cfa n (co m0))]
          go_wp2_with fail
          refine Calls.mono (of_qp _ m1 _ (P1.out.ext hx) (by omega)) ?_
          rintro e w6 ⟨r6, rfl, hr6, hx6⟩
          replace eA := eA.ext hx6
          have Hp := Lib.hid (And.intro (Hp'.out.1.ext hx6) (Hp'.out.2.ext hx6)); clear Hp'
          replace hx := hx.trans hx6
          have Hr6 := Lib.hid hr6; clear hr6 hx6
          go_wp2_with fail
          refine Calls.mono (of_rp _ m1 _ (P1.out.ext hx) (fun i => by have := HC.out.2 i; omega) (by omega)) ?_
          rintro e w7 ⟨r7, rfl, hr7, hx7⟩
          replace eA := eA.ext hx7
          have Hp' := Lib.hid (And.intro (Hp.out.1.ext hx7) (Hp.out.2.ext hx7)); clear Hp
          replace hx := hx.trans hx7
          have Hr6' := Lib.hid (Hr6.out.ext hx7); clear Hr6
          have Hr7 := Lib.hid hr7; clear hr7 hx7
          have hplz := pl_le (cz_sup m1)
          go_wp2_with fail
          refine Calls.mono (samerats_p _ _ _ _ _ _ Hr6'.out Hr7.out (by omega)) ?_
          rintro e w8 ⟨r8, rfl, rfl, hx8⟩
          replace eA := eA.ext hx8
          have Hp := Lib.hid (And.intro (Hp'.out.1.ext hx8) (Hp'.out.2.ext hx8)); clear Hp' Hr6' Hr7
          replace hx := hx.trans hx8
          clear hx8 hplz
          obtain ⟨lp, g1, g2, -, g4⟩ := Hp.out.1.hz (fun i => by have := HF.out.2.1 i; omega)
          have Hg := Lib.hid (And.intro g1 (And.intro g2 g4)); clear g1 g2 g4
          obtain ⟨ca0, ca1, ca2, ca3⟩ := eA.cells4
          go_wp2_with fail
          refine wp_region_par (k := 12) (D := [61, 62, 63, 64, 65, 66, 67, 68, 69, 70, 71, 72]) (T := [[], [0], [], [0, 1, 2], [], [0, 1, 2, 3, 4], [0, 1, 2, 3, 4, 5], [0, 1, 2, 3, 4, 5, 6], [0, 1, 2, 3, 4, 5, 6, 7], [0, 1, 2, 3, 4, 5, 6, 7, 8], [0, 1, 2, 3, 4, 5, 6, 7], [0, 1, 2, 3, 4, 5, 6, 7, 8, 9, 10], [0, 1, 2, 3, 4, 5, 6, 7, 8, 9, 10, 11], [0, 1, 2, 3, 4, 5, 6, 7, 8, 9, 10, 11, 12]]) (EK := [6, 7, 0]) (EV := [?e1x0, ?e1x1, ?e1x2]) (VL := [(kv ?v1x0), (fun γ => γ 1), (kv ?v1x2), (fun γ => γ 3), (kv ?v1x4), (fun γ => γ 5), (kv (.bool true)), (kv ?v1x7), (kv ?v1x8), (fun γ => γ 9), (kv ?v1x10), (kv (.bool true))]) (FL := fun γ w' => [True, IsP 0 w' (γ 1) (pp (clr n (co m0))), True, IsP 0 w' (γ 3) (co m0), True, IsP 0 w' (γ 5) (co m0), True, True, True, IsZP 0 w' (γ 9) (pp (clr n (co m0))), True, True]) ?hE1 (by kernel_rfl) (by kernel_rfl) (by rfl) (by kernel_rfl) ?hloc1 ?hmono1 ?hstep1 ?htail1
          case hE1 => refine ⟨?_, ?_, ?_, trivial⟩ <;> (simp only [List.getElem?_toArray, List.getElem?_cons_succ, List.getElem?_cons_zero]; rfl)
          case hstep1 =>
            refine ⟨⟨⟨⟨⟨⟨⟨⟨⟨⟨⟨⟨trivial, ?_⟩, ?_⟩, ?_⟩, ?_⟩, ?_⟩, ?_⟩, ?_⟩, ?_⟩, ?_⟩, ?_⟩, ?_⟩, ?_⟩
            · intro γ w' he hf; clear hf; refine ⟨trivial, ?_⟩; intro R hR
              have hc := he.cells
              go_simp
              (try go_ints); (try (rw [if_neg (by omega)])); (try (rw [if_pos (by omega)])); (try go_simp); (try go_ints)
              refine hR _ _ (Ext.refl _) ?_ trivial
              rfl
            · intro γ w' he hf; clear hf; refine ⟨trivial, ?_⟩; intro R hR
              go_simp
              refine Calls.mono (show Calls _ _ _ w' (Gives w' fun r w'' => IsP 0 w'' (r) (pp (clr n (co m0)))) from Gives.imp (of_qp _ lp w' (Hg.out.1.ext he) (by have := Hg.out.2.1; have := HF.out.2.2.2.2.2; omega)) fun _ _ h => Hg.out.2.2 ▸ h.base_le (Nat.zero_le _)) ?_
              rintro e w2 ⟨v, rfl, hv, hx⟩
              exact ⟨v, rfl, hR v w2 hx rfl hv⟩
            · intro γ w' he hf; clear hf; refine ⟨trivial, ?_⟩; intro R hR
              have hc := he.cells
              have cq0 := he.cell ca0
              have cq1 := he.cell ca1
              have cq2 := he.cell ca2
              have cq3 := he.cell ca3
              go_simp
              (try go_ints); (try (rw [if_neg (by omega)])); (try (rw [if_pos (by omega)])); (try go_simp); (try go_ints)
              refine hR _ _ (Ext.refl _) ?_ trivial
              rfl
            · intro γ w' he hf; have f1 : IsP 0 w' (γ 1) (pp (clr n (co m0))) := hf 1 (by decide); clear hf; refine ⟨trivial, ?_⟩; intro R hR
              go_simp
              refine Calls.mono (show Calls _ _ _ w' (Gives w' fun r w'' => IsP 0 w'' (r) (co m0)) from HF.out.2.2.2.1 ▸ Calls_scale_cl _ _ _ _ w' f1 (fun i => by have := HF.out.2.1 i; omega) ((Hp.out.2.ext he).has (by have := HF.out.2.2.1; omega)) (by have := HF.out.2.2.2.2.2; omega)) ?_
              rintro e w2 ⟨v, rfl, hv, hx⟩
              exact ⟨v, rfl, hR v w2 hx rfl hv⟩
            · intro γ w' he hf; clear hf; refine ⟨trivial, ?_⟩; intro R hR
              have hc := he.cells
              go_simp
              (try go_ints); (try (rw [if_neg (by omega)])); (try (rw [if_pos (by omega)])); (try go_simp); (try go_ints)
              refine hR _ _ (Ext.refl _) ?_ trivial
              rfl
            · intro γ w' he hf; have f1 : IsP 0 w' (γ 1) (pp (clr n (co m0))) := hf 1 (by decide); have f3 : IsP 0 w' (γ 3) (co m0) := hf 3 (by decide); clear hf; refine ⟨trivial, ?_⟩; intro R hR
              go_simp
              refine Calls.mono (show Calls _ _ _ w' (Gives w' fun r w'' => IsP 0 w'' (r) (co m0)) from Gives.imp (normal_rp _ m0 w' (P0.out.ext (hx.trans he)) (by omega)) fun _ _ h => h.base_le (Nat.zero_le _)) ?_
              rintro e w2 ⟨v, rfl, hv, hx⟩
              exact ⟨v, rfl, hR v w2 hx rfl hv⟩
            · intro γ w' he hf; have f1 : IsP 0 w' (γ 1) (pp (clr n (co m0))) := hf 1 (by decide); have f3 : IsP 0 w' (γ 3) (co m0) := hf 3 (by decide); have f5 : IsP 0 w' (γ 5) (co m0) := hf 5 (by decide); clear hf; refine ⟨trivial, ?_⟩; intro R hR
              go_simp
              refine Calls.mono (show Calls _ _ _ w' (Gives w' fun r _ => r = .bool true) from samerats_p _ _ _ _ _ w' f3 f5 (by omega)) ?_
              rintro e w2 ⟨v, rfl, rfl, hx⟩
              exact ⟨_, rfl, hR _ w2 hx rfl trivial⟩
            · intro γ w' he hf; have f1 : IsP 0 w' (γ 1) (pp (clr n (co m0))) := hf 1 (by decide); have f3 : IsP 0 w' (γ 3) (co m0) := hf 3 (by decide); have f5 : IsP 0 w' (γ 5) (co m0) := hf 5 (by decide); clear hf; refine ⟨trivial, ?_⟩; intro R hR
              have hc := he.cells
              go_simp
              (try go_ints); (try (rw [if_neg (by omega)])); (try (rw [if_pos (by omega)])); (try go_simp); (try go_ints)
              refine hR _ _ (Ext.refl _) ?_ trivial
              rfl
            · intro γ w' he hf; have f1 : IsP 0 w' (γ 1) (pp (clr n (co m0))) := hf 1 (by decide); have f3 : IsP 0 w' (γ 3) (co m0) := hf 3 (by decide); have f5 : IsP 0 w' (γ 5) (co m0) := hf 5 (by decide); clear hf; refine ⟨rfl, ?_⟩; intro R hR
              have hc := he.cells
              go_simp
              (try go_ints); (try (rw [if_neg (by omega)])); (try (rw [if_pos (by omega)])); (try go_simp); (try go_ints)
              refine hR _ _ (Ext.refl _) ?_ trivial
              rfl
            · intro γ w' he hf; have f1 : IsP 0 w' (γ 1) (pp (clr n (co m0))) := hf 1 (by decide); have f3 : IsP 0 w' (γ 3) (co m0) := hf 3 (by decide); have f5 : IsP 0 w' (γ 5) (co m0) := hf 5 (by decide); clear hf; refine ⟨rfl, ?_⟩; intro R hR
              go_simp
              refine Calls.mono (show Calls _ _ _ w' (Gives w' fun r w'' => IsZP 0 w'' (r) (pp (clr n (co m0)))) from Gives.imp (primitive_rz _ lp w' (Hg.out.1.ext he) (by rw [Hg.out.2.2]; intro i; have := HF.out.2.1 i; omega) (by have := Hg.out.2.1; have := HF.out.2.2.2.2.2; omega)) fun _ _ h => IsZP.cast (h.base_le (Nat.zero_le _)) ((congrArg pp Hg.out.2.2).trans HF.out.2.2.2.2.1)) ?_
              rintro e w2 ⟨v, rfl, hv, hx⟩
              exact ⟨v, rfl, hR v w2 hx rfl hv⟩
            · intro γ w' he hf; have f1 : IsP 0 w' (γ 1) (pp (clr n (co m0))) := hf 1 (by decide); have f3 : IsP 0 w' (γ 3) (co m0) := hf 3 (by decide); have f5 : IsP 0 w' (γ 5) (co m0) := hf 5 (by decide); clear hf; refine ⟨rfl, ?_⟩; intro R hR
              have hc := he.cells
              go_simp
              (try go_ints); (try (rw [if_neg (by omega)])); (try (rw [if_pos (by omega)])); (try go_simp); (try go_ints)
              refine hR _ _ (Ext.refl _) ?_ trivial
              rfl
            · intro γ w' he hf; have f1 : IsP 0 w' (γ 1) (pp (clr n (co m0))) := hf 1 (by decide); have f3 : IsP 0 w' (γ 3) (co m0) := hf 3 (by decide); have f5 : IsP 0 w' (γ 5) (co m0) := hf 5 (by decide); have f9 : IsZP 0 w' (γ 9) (pp (clr n (co m0))) := hf 9 (by decide); clear hf; refine ⟨rfl, ?_⟩; intro R hR
              go_simp
              refine Calls.mono (show Calls _ _ _ w' (Gives w' fun r _ => r = .bool true) from sameints_t _ _ _ _ _ w' f9 (Hp.out.1.ext he) (by have := HF.out.2.2.2.2.2; omega)) ?_
              rintro e w2 ⟨v, rfl, rfl, hx⟩
              exact ⟨_, rfl, hR _ w2 hx rfl trivial⟩
          case hloc1 =>
            exact ⟨⟨⟨⟨⟨⟨⟨⟨⟨⟨⟨⟨trivial, (fun γ γ' h => ⟨rfl, fun _ => rfl⟩)⟩, (fun γ γ' h => ⟨h 1 rfl, fun w' => (congrArg (fun a => IsP 0 w' (a) (pp (clr n (co m0)))) (h 1 rfl))⟩)⟩, (fun γ γ' h => ⟨rfl, fun _ => rfl⟩)⟩, (fun γ γ' h => ⟨h 3 rfl, fun w' => (congrArg (fun a => IsP 0 w' (a) (co m0)) (h 3 rfl))⟩)⟩, (fun γ γ' h => ⟨rfl, fun _ => rfl⟩)⟩, (fun γ γ' h => ⟨h 5 rfl, fun w' => (congrArg (fun a => IsP 0 w' (a) (co m0)) (h 5 rfl))⟩)⟩, (fun γ γ' h => ⟨rfl, fun _ => rfl⟩)⟩, (fun γ γ' h => ⟨rfl, fun _ => rfl⟩)⟩, (fun γ γ' h => ⟨rfl, fun _ => rfl⟩)⟩, (fun γ γ' h => ⟨h 9 rfl, fun w' => (congrArg (fun a => IsZP 0 w' (a) (pp (clr n (co m0)))) (h 9 rfl))⟩)⟩, (fun γ γ' h => ⟨rfl, fun _ => rfl⟩)⟩, (fun γ γ' h => ⟨rfl, fun _ => rfl⟩)⟩
          case hmono1 =>
            exact ⟨⟨⟨⟨⟨⟨⟨⟨⟨⟨⟨⟨trivial, (fun γ wA w' e h => h)⟩, (fun γ wA w' e h => (show IsP 0 wA (γ 1) (pp (clr n (co m0))) from h).ext e)⟩, (fun γ wA w' e h => h)⟩, (fun γ wA w' e h => (show IsP 0 wA (γ 3) (co m0) from h).ext e)⟩, (fun γ wA w' e h => h)⟩, (fun γ wA w' e h => (show IsP 0 wA (γ 5) (co m0) from h).ext e)⟩, (fun γ wA w' e h => h)⟩, (fun γ wA w' e h => h)⟩, (fun γ wA w' e h => h)⟩, (fun γ wA w' e h => (show IsZP 0 wA (γ 9) (pp (clr n (co m0))) from h).ext e)⟩, (fun γ wA w' e h => h)⟩, (fun γ wA w' e h => h)⟩
          intro γ w9 hx9 hF
          have p1 : IsP 0 w9 (γ 1) (pp (clr n (co m0))) := Each.get hF 1 (by decide)
          have p3 : IsP 0 w9 (γ 3) (co m0) := Each.get hF 3 (by decide)
          have p5 : IsP 0 w9 (γ 5) (co m0) := Each.get hF 5 (by decide)
          have p9 : IsZP 0 w9 (γ 9) (pp (clr n (co m0))) := Each.get hF 9 (by decide)
          clear hF
          simp only [fillAll, gV, kv, List.getD_cons_zero, List.getD_cons_succ, Act.put, List.setIfInBounds_toArray, List.set_cons_zero, List.set_cons_succ, List.toList_toArray, List.drop_succ_cons, List.drop_zero, List.drop_nil, Nat.zero_add, Nat.reduceAdd]
          generalize γ 1 = g1 at *
          generalize γ 3 = g3 at *
          generalize γ 5 = g5 at *
          generalize γ 9 = g9 at *
          clear γ
          clear p1 p3 p5 p9
          go_wp2
          go_ret
          exact Gives.mk rfl (hx.trans hx9)
end Go.Proofs.YtedoifjbgokmcaaGreat
namespace Go.Proofs.YtedoifjbgokmcaaGreat
open Go.ChangeShapes Go.WideShapes Go.ChangeAt Go.RowKit Go.Hp
open Go.ChangeMaps (open_string shut_string)
theorem own_ : ownKnob Tryz.prog.godebug = none := by kernel_rfl
theorem laidOut_ : laidOutB Tryz.prog = true := by kernel_rfl
set_option maxRecDepth 100000 in
theorem qpolyClears_lifted (os : Os) (started : os.Started) (H : Type) (enc : TypeId × Value → H) :
    ReturnsInHanded {} Tryz.checked os 7 .any (Rows.qpolyClearsSpec.pre6 enc Tryz.prog Tryz.f7 Rows.qpolyClearsRow.domain false) (Rows.qpolyClearsSpec.post enc Tryz.prog Tryz.f7 false true false false) := by
  refine returnsInHanded_of_change (C := Tryz.checked) own_ started (by kernel_rfl) Tryz.func7
    (ChangeSpec.witness6 (enc := enc) (C := Tryz.checked) false ⟨#[], #[.slice none 0 0, .slice none 0 0], []⟩ 8 (by kernel_rfl) (by kernel_rfl) (by kernel_rfl) (by kernel_rfl)) ?_
  intro W base args ds gs before hval0 hW hcnd _
  have hval : ∀ (j : Nat) t v, Tryz.f7.params[j]? = some t → args[j]? = some v → Value.okWide Tryz.prog W .any base t v := hval0
  have hW' := hW
  obtain ⟨p, q, hA0, hV, rfl, hfz, hnd⟩ := hW
  have hA : DataW.TrodAll enc Tryz.prog W 0 (fun _ => true) true Tryz.f7.params.toList args.toList ds p := hA0
  rw [Tryz.params7] at hA hval
  obtain ⟨v0, v1, d0, d1, p0, p1, hargs, rfl, rfl, h0, h1⟩ := trodAll_two hA
  obtain rfl : args = #[v0, v1] := by cases args; simp_all
  obtain ⟨rfl, rfl⟩ := trodVars_none hV
  have lt0 : ∀ x ∈ p0, x.block < W.heap.size := by obtain ⟨m, hm⟩ := h0; exact DataW.trod_lt m _ _ _ hm
  have lt1 : ∀ x ∈ p1, x.block < W.heap.size := by obtain ⟨m, hm⟩ := h1; exact DataW.trod_lt m _ _ _ hm
  obtain ⟨l0, w0⟩ : ∃ l, PolyV W v0 l := by obtain ⟨m, hm⟩ := h0; exact open_poly Tryz.underlying23 hm (okWide_slice Tryz.underlying23 (hval 0 23 v0 rfl rfl))
  obtain ⟨l1, w1⟩ : ∃ l, ZPolyV W v1 l := by obtain ⟨m, hm⟩ := h1; exact open_zpoly Tryz.underlying64 hm (okWide_slice Tryz.underlying64 (hval 1 64 v1 rfl rfl))
  clear hA0 hval0
  refine (clears_law v0 v1 l0 l1 W w0 w1).mono fun e W' ⟨v, he, hv, bel⟩ => ?_
  subst he hv
  exact ⟨_, rfl, _, _, _, [], _, [], hW', trodAll_mk1 (shut_bool Tryz.underlying4 _), (trodAll_cons_mk (Below.trod laidOut_ (by kernel_rfl) (of_decide_eq_true (by kernel_rfl)) h0 bel lt0) (trodAll_cons_mk (Below.trod laidOut_ (by kernel_rfl) (of_decide_eq_true (by kernel_rfl)) h1 bel lt1) trodAll_mk0)), rfl, bel.frame _, fun h => by cases h⟩
theorem qpolyClears_over : Rows.qpolyClearsRow.holds Tryz.pinned (OpenSpec.ofChange Rows.qpolyClearsSpec) :=
  OpenClaim.holds_of_wide 7 Tryz.f7 rfl rfl rfl rfl rfl rfl rfl ⟨rfl, rfl, rfl, rfl, rfl⟩ rfl rfl rfl rfl rfl (by kernel_rfl) Tryz.func7 (by kernel_rfl)
    (of_decide_eq_true (by kernel_rfl)) (by unfold Func.isWrapper; first | (rw [if_pos (by decide +kernel)]; kernel_rfl) | (rw [if_neg (by decide +kernel)]; exact ⟨rfl, rfl⟩))
    (fun os started H enc _ => qpolyClears_lifted os started H enc)
theorem qpolyClears_proved : Rows.QpolyClearsSaid := qpolyClears_over
end Go.Proofs.YtedoifjbgokmcaaGreat
