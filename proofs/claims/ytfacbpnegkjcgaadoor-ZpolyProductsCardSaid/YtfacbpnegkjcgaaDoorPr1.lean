/- Lemmas: The walks of strings.Builder and of strconv.Itoa below 100, turned from the shelf's proofs. The memory words of the half-plane proofs: what a value reads as, kept under growth of the world. The memory words of the half-plane proofs: digits and integers. Digits to the base 2^32 as lists of numbers: plain arithmetic, no program in sight. One digit of a long quotient: the guess out of the first digits is right but for one. Plain arithmetic. How many digits a number has. Plain arithmetic. Integers in memory: their forms. Plain. Boxes: blocks of a call's own that hold no digits, as whole blocks. Fractions: what a value reads as; sizes. Plain. Rows in memory: slices whose elements are structs of k cells. Plain. Arrays of fractions of the call's own. Plain. Polynomials and series over the fractions as functions from the index to the coefficient: plain algebra, no program in sight. Polynomials over the fractions: division, common divisors, roots, series. Plain algebra. How many digits the coefficients of a polynomial need over a common denominator. Plain. What a value reads as: polynomials over the fractions. Plain. Rows of the call's own that are appended to. Plain. Integers in rows; polynomials over the integers: what a value reads as. Plain. A region that draws its order, walked once: each operation of its first part is shown to do its work in every world that has grown; the rest follows in the text's order. The walks of math/bits, slices.Clone and bigint.sign. -/
import Derived.Shelf.Strings.BuilderK
import Derived.Shelf.Strconv.Itoa3
import Derived.Test.YtfacbpnegkjcgaaDoorChecked
import Derived.WalkKit
import Derived.Below
import Derived.Deep.Draws
import Derived.Laws.MakeOwn
import Derived.Laws.AppendOwn
import Derived.Orders
import Derived.Tactics
import Derived.Test.YtfacbpnegkjcgaaDoorProg
import Derived.IntWalk
import Derived.Laws.BitsAllLaws
import Derived.WalkSpells
import Derived.Lib.Strings
import Derived.Lib.Slices
import Derived.Lib.Small
import Derived.Lib.Walk
import Derived.Lib.BitFns
import Derived.Lib.Hide
import Derived.Outline
set_option linter.unusedVariables false
set_option linter.unusedSimpArgs false
namespace Go.Proofs.YtfacbpnegkjcgaaDoor
open Go.RowKit
theorem infoB : (Tryd.prog.info? 70).map (·.size) = some 2 := by kernel_rfl
theorem liesB : liesAt Tryd.prog Tryd.prog.depth 70 (2 / Tryd.prog.cellsOf 70) 0 70 1 = true := by kernel_rfl
theorem infoU8 : (Tryd.prog.info? 5).map (fun i => (i.zero, i.size, i.bytes)) = some (some (.int .u8 0), 1, 1) := by kernel_rfl
theorem cellsU8 : Tryd.prog.cellsOf 5 = 1 := by kernel_rfl
def IsBd (B b : Nat) (l : List UInt8) (w : World) : Prop := Lib.IsBuilderF 70 5 B b (Lib.byteCells l) w
set_option maxHeartbeats 1000000 in
set_option maxRecDepth 100000 in
theorem bcheck_used (b : Nat) (w : World) (h0 : w.cell? ⟨b, 0, none⟩ = some (.pointer (some ⟨b, 0, none⟩))) :
  Calls Tryd.prog 65 #[.pointer (some ⟨b, 0, none⟩)] w fun e w' => e = .returned (.tuple #[]) ∧ w' = w := by
 obtain ⟨j, hj, _⟩ := Option.map_eq_some_iff.1 infoB
 go_enter Tryd.func65, Tryd.ntmps65
 go_wp2
 rw [Lib.run_neq_ptr_same w _ Tryd.underlying67 hj]
 go_wp2
 go_end0
 exact ⟨rfl, rfl⟩
set_option maxHeartbeats 1000000 in
set_option maxRecDepth 100000 in
theorem bcheck_fresh (b : Nat) (w : World) (h0 : w.cell? ⟨b, 0, none⟩ = some (.pointer none)) (hsh : w.shape? b = some (70, 2)) (hfz : w.frozen? ⟨b, 0, none⟩ = false) :
  Calls Tryd.prog 65 #[.pointer (some ⟨b, 0, none⟩)] w fun e w' => e = .returned (.tuple #[]) ∧ w' = w.setCell ⟨b, 0, none⟩ (.pointer (some ⟨b, 0, none⟩)) := by
 obtain ⟨j, hj, hjs⟩ := Option.map_eq_some_iff.1 infoB
 go_enter Tryd.func65, Tryd.ntmps65
 go_wp2
 rw [Lib.run_to_unsafe w ⟨b, 0, none⟩ Tryd.underlying67 Tryd.underlying96 hj (by rw [hjs]; decide) hsh (Nat.zero_lt_succ 1)]
 simp only [Result.andThen]
 rw [Oper.upon_value]
 go_wp2
 rw [run_callFunc_extern Tryd.func74 (by kernel_rfl) (by kernel_rfl) (by kernel_rfl) (e := Extern.AbiNoEscape.same) (by kernel_rfl)]
 rw [Lib.run_noEscape]
 simp only [Result.andThen]
 rw [Oper.upon_value]
 go_wp2
 rw [Lib.run_from_unsafe w ⟨b, 0, none⟩ Tryd.underlying96 Tryd.underlying67 hj hsh liesB]
 simp only [Result.andThen]
 rw [Oper.upon_value]
 go_wp2
 go_end0
 exact ⟨rfl, rfl⟩
theorem bcheck (B b : Nat) (bs : List Value) (w : World) (h : Lib.IsBuilderF 70 5 B b bs w) :
  Calls Tryd.prog 65 #[.pointer (some ⟨b, 0, none⟩)] w fun e w' => e = .returned (.tuple #[]) ∧ (Lib.BuilderAtF 70 5 B b (.pointer (some ⟨b, 0, none⟩)) bs w' ∧ Below B w w' ∧ Lib.OthersKept 5 (some b) w w') := by
 rcases h with h | h
 ·refine (bcheck_fresh b w h.cell0 h.shape h.frozen0).mono ?_
  rintro e w' ⟨rfl, rfl⟩
  exact ⟨rfl, h.used _, (Below.refl B w).setCell (p := ⟨b, 0, none⟩) h.1 _, (Lib.OthersKept.refl _ _ w).setCell ⟨b, 0, none⟩ rfl _⟩
 ·refine (bcheck_used b w h.cell0).mono ?_
  rintro e w' ⟨rfl, rfl⟩
  exact ⟨rfl, h, Below.refl B _, Lib.OthersKept.refl _ _ _⟩
set_option maxHeartbeats 2000000 in
set_option maxRecDepth 100000 in
theorem bwrite (B b : Nat) (bs : List Value) (s : ByteArray) (w : World) (h : Lib.IsBuilderF 70 5 B b bs w) (hlen : bs.length + s.size ≤ 140737488355328) (hBw : B ≤ w.heap.size) :
  Calls Tryd.prog 46 #[.pointer (some ⟨b, 0, none⟩), .string s] w fun e w' => e = .returned (.tuple #[.int .i64 s.size, .nilIface]) ∧ (Lib.BuilderAtF 70 5 B b (.pointer (some ⟨b, 0, none⟩)) (bs ++ Lib.strCells s) w' ∧ Below B w w' ∧ Lib.OthersKept 5 (some b) w w') := by
 obtain ⟨i0, hi, hz0, hz1, hz2⟩ := info_parts infoU8
 go_enter Tryd.func46, Tryd.ntmps46
 go_wp2_with (refine (bcheck B b bs _ h).mono ?_)
 rintro e w1 ⟨rfl, h1, hb1, hk1⟩
 obtain ⟨hB, v, hbk, hown, hne⟩ := h1
 have c0 : w1.cell? ⟨b, 0, none⟩ = some (.pointer (some ⟨b, 0, none⟩)) := by rw [Lib.cell_of_heap hbk]; rfl
 have c1 : w1.cell? ⟨b, 1, none⟩ = some v := by rw [Lib.cell_of_heap hbk]; rfl
 go_wp2_with (at_builtin; refine Lib.wpList_append_own_stringF _ rfl _ _ 68 9 rfl B 5 i0 Tryd.underlying68 Tryd.underlying9 hi hz0 hz1 hz2 _ _ _ rfl hown s rfl ?c3 ?c4 ?c5 ?_)
 case c3 => unfold maxLen; omega
 case c4 => omega
 case c5 => have := hb1.size; omega
 intro v' w2 hown' hgrow _
 have hlt : b < w1.heap.size := by
  rcases Nat.lt_or_ge b w1.heap.size with h' | h'
  ·exact h'
  ·simp [Array.getElem?_eq_none h'] at hbk
 have hb2 : w2.heap[b]? = some (.cells #[.pointer (some ⟨b, 0, none⟩), v] 70 (0, 0)) := by
  rw [hgrow.block b hlt (fun e => hne e.symm)]
  exact hbk
 have d0 : w2.cell? ⟨b, 0, none⟩ = some (.pointer (some ⟨b, 0, none⟩)) := by rw [Lib.cell_of_heap hb2]; rfl
 have d1 : w2.cell? ⟨b, 1, none⟩ = some v := by rw [Lib.cell_of_heap hb2]; rfl
 have f1 : w2.frozen? ⟨b, 1, none⟩ = false := Lib.frozen_of_heap hb2 1
 obtain ⟨ao, n', cap, rfl⟩ : ∃ ao n' cap, v' = .slice ao n' cap := by
  rcases hown'.2 with ⟨hv, _⟩ | ⟨g, cap, cur, fz, hv, _⟩
  ·exact ⟨_, _, _, hv⟩
  ·exact ⟨_, _, _, hv⟩
 go_wp2
 go_ret2
 refine ⟨rfl, ?_, ?_, (hk1.grown hgrow (Lib.ownsRowF_kind hown)).setCell ⟨b, 1, none⟩ rfl _⟩
 ·exact Lib.BuilderAtF.put (T := 70) (e := 5) hB hb2 (bs' := bs ++ Lib.strCells s) (by simpa [Lib.strCells_length] using hown') (by decide)
 ·exact (hb1.grown hgrow (by have := hb1.size; omega) (fun k hk => (hown.lt k hk).1)).setCell (p := ⟨b, 1, none⟩) hB _
set_option maxHeartbeats 1000000 in
set_option maxRecDepth 100000 in
theorem blen (B b : Nat) (bs : List Value) (w : World) (h : Lib.IsBuilderF 70 5 B b bs w) :
  Calls Tryd.prog 45 #[.pointer (some ⟨b, 0, none⟩)] w fun e w' => e = .returned (.int .i64 bs.length) ∧ w' = w := by
 obtain ⟨p, hB, v, hbk, hown, hne⟩ : ∃ p, Lib.BuilderAtF 70 5 B b p bs w := by
  rcases h with h | h
  ·exact ⟨_, h⟩
  ·exact ⟨_, h⟩
 obtain ⟨ao, cap, rfl⟩ : ∃ ao cap, v = .slice ao bs.length cap := by
  rcases hown.2 with ⟨hv, h0⟩ | ⟨g, cap, cur, fz, hv, _⟩
  ·exact ⟨none, 0, by rw [hv, h0]⟩
  ·exact ⟨_, _, hv⟩
 have c1 : w.cell? ⟨b, 1, none⟩ = some (.slice ao bs.length cap) := by rw [Lib.cell_of_heap hbk]; rfl
 clear hown
 go_enter Tryd.func45, Tryd.ntmps45
 go_wp2
 go_ret
 exact ⟨rfl, rfl⟩
set_option maxHeartbeats 2000000 in
set_option maxRecDepth 100000 in
theorem bstring (B b : Nat) (l : List UInt8) (w : World) (h : IsBd B b l w) (h0 : l ≠ []) :
  Calls Tryd.prog 48 #[.pointer (some ⟨b, 0, none⟩)] w fun e w' => e = .returned (.string ⟨l.toArray⟩) ∧ Below B w w' ∧ Lib.OthersKept 5 (some b) w w' := by
 obtain ⟨p, hp, hAt⟩ : ∃ p, (p = .pointer none ∨ p = .pointer (some ⟨b, 0, none⟩)) ∧ Lib.BuilderAtF 70 5 B b p (Lib.byteCells l) w := by
  rcases h with h | h
  ·exact ⟨_, .inl rfl, h⟩
  ·exact ⟨_, .inr rfl, h⟩
 obtain ⟨hB, v, hbk, hown, hne⟩ := hAt
 have hl0 : l.length ≠ 0 := by simpa using h0
 rw [Lib.byteCells_length] at hown
 obtain ⟨g, cap, cur, fz, rfl, hbg, hg, hfz, hnc, hcm, hcs, htake⟩ : ∃ g cap cur fz, v = .slice (some ⟨g, 0, none⟩) l.length cap ∧ B ≤ g ∧ w.heap[g]? = some (.cells cur 5 fz) ∧ fz.2 ≤ l.length * 1 ∧ l.length ≤ cap ∧ cap ≤ maxLen ∧ cur.size = cap * 1 ∧ cur.toList.take (l.length * 1) = Lib.byteCells l := by
  rcases hown.2 with ⟨_, hz⟩ | ⟨g, cap, cur, fz, hv, r⟩
  ·exact absurd hz hl0
  ·exact ⟨g, cap, cur, fz, hv, r⟩
 have c1 : w.drew.cell? ⟨b, 1, none⟩ = some (.slice (some ⟨g, 0, none⟩) l.length cap) := by
  have : w.drew.heap[b]? = some (.cells #[p, .slice (some ⟨g, 0, none⟩) l.length cap] 70 (0, 0)) := hbk
  rw [Lib.cell_of_heap this]; rfl
 have hSD : (Builtin.unsafeSliceData_ #[68] 91 #[.slice (some ⟨g, 0, none⟩) l.length cap]).run Tryd.prog w.drew = .ok (.pointer (some ⟨g, 0, none⟩)) w.drew :=
  Lib.run_unsafeSliceData_row _ _ _ _ _ _ (by omega)
 have hUS : (Builtin.unsafeString_ #[91, 3] 9 #[.pointer (some ⟨g, 0, none⟩), .int .i64 l.length]).run Tryd.prog w.drew = .ok (.string ⟨l.toArray⟩) (w.drew.freeze ⟨g, 0, none⟩ l.length) := by
  refine Lib.run_unsafeString_row w.drew 91 3 9 5 Tryd.underlying91 cellsU8 g cur.size (by have hg' : w.drew.heap[g]? = some (.cells cur 5 fz) := hg; simp [World.shape?, hg']) l h0 (by omega) (by unfold maxLen at hcm; omega) ?_
  intro j x hx
  have := hown.cells (g := g) rfl j (.int .u8 x.toNat) (by simp [Lib.byteCells, hx])
  exact this
 have hmx : Tryd.prog.follows .mixedOrders = true := by kernel_rfl
 clear hown hfz hnc hcm hcs htake hne
 go_enter Tryd.func48, Tryd.ntmps48
 go_wp2
 go_region
 all_goals (go_wp2; go_ret; exact ⟨rfl, Lib.below_freeze (Below.drew (Below.refl B w)) (p := ⟨g, 0, none⟩) hbg _, ((Lib.OthersKept.refl _ _ w).drew).freeze ⟨g, 0, none⟩ _ ⟨cur, fz, hg⟩⟩)
set_option maxRecDepth 100000 in
theorem small_s (i : Nat) (h : i < 10) (w : World) :
  Calls Tryd.prog 88 #[.int .i64 i] w fun e w' => e = .returned (.string ⟨(Lib.decDigits i).toArray⟩) ∧ w' = w := by
 go_enter Tryd.func88, Tryd.ntmps88
 go_name_bytes_deep 45 SM hSM
 clear hSM
 go_name_bytes_deep 30 DG hDG
 have eDG : DG = Lib.digits36 := by rw [← hDG]; decide +kernel
 subst eDG
 clear hDG
 have hsl : ∀ w, (Instr.slice 9 (.string Lib.digits36) (some (.int .i64 (i : Int))) (some (.int .i64 ((i : Int) + 1))) none).run Tryd.prog w = .ok (.string (Lib.digits36.extract i (i + 1))) w := fun w => by
  rw [run_slice_string w 9 Lib.digits36 .i64 .i64 _ _ Tryd.underlying9 (by omega) (by omega) (by rw [Lib.digits36_size]; omega), show ((i : Int)).toNat = i by omega, show ((i : Int) + 1).toNat = i + 1 by omega]
 go_wp2
 go_ret
 refine ⟨?_, rfl⟩
 show Ending.returned (Value.string (Lib.digits36.extract i (i + 1))) = _
 rw [AnyPlain.small_ba (Lib.digits36.extract i (i + 1)) (Lib.decDigits i) (by rw [Lib.extract_data]; exact Lib.digits36_piece h)]
theorem formatint_s (i : Nat) (hi : i < 10) (w : World) :
  Calls Tryd.prog 86 #[.int .i64 i, .int .i64 10] w fun e w' => e = .returned (.string ⟨(Lib.decDigits i).toArray⟩) ∧ w' = w := by
 go_enter Tryd.func86, Tryd.ntmps86
 go_wp2_with (refine (small_s i hi _).mono ?_; rintro e w' ⟨rfl, rfl⟩)
 go_ret
 exact ⟨rfl, rfl⟩
theorem itoa0_s (i : Nat) (hi : i < 10) (w : World) :
  Calls Tryd.prog 77 #[.int .i64 i] w fun e w' => e = .returned (.string ⟨(Lib.decDigits i).toArray⟩) ∧ w' = w := by
 go_enter Tryd.func77, Tryd.ntmps77
 go_wp2_with (refine (formatint_s i hi _).mono ?_; rintro e w' ⟨rfl, rfl⟩)
 go_ret
 exact ⟨rfl, rfl⟩
theorem itoa_s (i : Nat) (hi : i < 10) (w : World) :
  Calls Tryd.prog 68 #[.int .i64 i] w fun e w' => e = .returned (.string ⟨(Lib.decDigits i).toArray⟩) ∧ w' = w := by
 go_enter Tryd.func68, Tryd.ntmps68
 go_wp2_with (refine (itoa0_s i hi _).mono ?_; rintro e w' ⟨rfl, rfl⟩)
 go_ret
 exact ⟨rfl, rfl⟩
end Go.Proofs.YtfacbpnegkjcgaaDoor
namespace Go.Hp
open Go.RowKit
def Ext (w w' : World) : Prop := Below w.heap.size w w'
section
variable {a w w' : World}
theorem Ext.refl (w : World) : Ext w w := Below.refl _ _
theorem Ext.size (h : Ext a w) : a.heap.size ≤ w.heap.size := Below.size h
theorem Ext.trans {b c : World} (h : Ext a b) (k : Ext b c) : Ext a c := Below.trans h (Below.mono k h.size)
theorem Ext.alloc (h : Ext a w) (o : Obj) : Ext a (w.alloc o) := Below.alloc h h.size o
theorem Ext.drew (h : Ext a w) : Ext a w.drew := Below.drew h
theorem Ext.drewN (h : Ext a w) (n : Nat) : Ext a (w.drewN n) := by
 have h : Below a.heap.size a w := h
 exact ⟨h.os, h.tape, h.output, h.size, h.block⟩
theorem Ext.setCell (h : Ext a w) (p : Addr) (u : Value) (hp : a.heap.size ≤ p.block) : Ext a (w.setCell p u) := Below.setCell h hp u
theorem Ext.grown (h : Ext a w) {row : Option Nat} (hg : w.grownBy w' row) (hr : ∀ k, row = some k → a.heap.size ≤ k) : Ext a w' := Below.grown h hg h.size hr
theorem Ext.cell (h : Ext a w) {p : Addr} {v : Value} (hp : a.cell? p = some v) : w.cell? p = some v :=
 (Below.cell h (World.block_lt_of_cell? a p hp)).trans hp
theorem Ext.cells (h : Ext a w) : ∀ b o, b < a.heap.size → w.cell? ⟨b, o, none⟩ = a.cell? ⟨b, o, none⟩ := fun b o hb => Below.cell (p := ⟨b, o, none⟩) h hb
theorem Ext.frozens (h : Ext a w) : ∀ b o, b < a.heap.size → w.frozen? ⟨b, o, none⟩ = a.frozen? ⟨b, o, none⟩ := fun b o hb => Below.frozen (p := ⟨b, o, none⟩) h hb
theorem Ext.blk (h : Ext a w) {g : Nat} {o : Obj} (hg : a.heap[g]? = some o) : w.heap[g]? = some o := by
 have hlt : g < a.heap.size := by
  rcases Nat.lt_or_ge g a.heap.size with hlt | hge
  ·exact hlt
  ·rw [Array.getElem?_eq_none hge] at hg; cases hg
 exact (Below.block h g hlt).trans hg
end
def Gives (w : World) (R : Value → World → Prop) (e : Ending) (w' : World) : Prop := ∃ v, e = .returned v ∧ R v w' ∧ Ext w w'
theorem Gives.mk {w w' : World} {R : Value → World → Prop} {v : Value} (hr : R v w') (he : Ext w w') : Gives w R (.returned v) w' := ⟨v, rfl, hr, he⟩
theorem Gives.imp {P : Program} {f : FuncId} {args : Array Value} {w : World} {R R' : Value → World → Prop} (h : Calls P f args w (Gives w R)) (hi : ∀ v w', R v w' → R' v w') : Calls P f args w (Gives w R') :=
 h.mono fun _ _ ⟨v, he, hr, hx⟩ => ⟨v, he, hi _ _ hr, hx⟩
end Go.Hp
namespace Go.Hp
open Go.RowKit
def DigAt (w : World) (A : Option Addr) (ds : List Nat) : Prop :=
 (∀ d ∈ ds, d < 4294967296) ∧ (0 < ds.length → ∃ a, A = some a ∧ ∀ j (h : j < ds.length), w.cell? (a.add j) = some (.int .u32 (ds[j] : Nat)))
theorem DigAt.ext {w w' : World} {A : Option Addr} {ds : List Nat} (h : DigAt w A ds) (e : Ext w w') : DigAt w' A ds :=
 ⟨h.1, fun hl => by obtain ⟨a, ha, hc⟩ := h.2 hl; exact ⟨a, ha, fun j hj => e.cell (hc j hj)⟩⟩
def DigV (w : World) (v : Value) (ds : List Nat) : Prop :=
 ∃ A c, v = .slice A ds.length c ∧ ds.length ≤ c ∧ c ≤ 9223372036854775807 ∧ DigAt w A ds
theorem DigV.ext {w w' : World} {v : Value} {ds : List Nat} (h : DigV w v ds) (e : Ext w w') : DigV w' v ds := by
 obtain ⟨A, c, h1, h2, h3, h4⟩ := h; exact ⟨A, c, h1, h2, h3, h4.ext e⟩
theorem maxLen_le {c : Nat} (h : c ≤ maxLen) : c ≤ 9223372036854775807 := by simpa [maxLen] using h
theorem DigV.of_own {w : World} {base e n : Nat} {v : Value} {ds : List Nat} (h : w.ownsRow base e 1 v n (ds.map fun d => Value.int .u32 (d : Nat))) (hd : ∀ d ∈ ds, d < 4294967296) : DigV w v ds := by
 have hl : ds.length = n := by simpa using h.1
 subst hl
 rcases h.2 with ⟨rfl, h0⟩ | ⟨g, cap, cur, rfl, _, hg, hn, hm, hs, ht⟩
 ·exact ⟨none, 0, by rw [h0], by omega, by omega, hd, fun hh => by omega⟩
 ·refine ⟨_, cap, rfl, hn, maxLen_le hm, hd, fun _ => ⟨_, rfl, fun j hj => ?_⟩⟩
  exact h.cells (g := g) rfl j _ (by rw [List.getElem?_map, List.getElem?_eq_getElem hj]; rfl)
def dv (d : Nat) : Value := .int .u32 (d : Nat)
def zcells (n : Nat) : Array Value := ((List.replicate n 0).map dv).toArray
def DBlk (w : World) (g : Nat) (t : TypeId) (l : List Nat) : Prop := w.heap[g]? = some (.cells (l.map dv).toArray t (0, 0))
section
variable {w w' : World} {g : Nat} {t : TypeId} {l : List Nat}
theorem DBlk.lt (h : DBlk w g t l) : g < w.heap.size := by
 rcases Nat.lt_or_ge g w.heap.size with hlt | hge
 ·exact hlt
 ·unfold DBlk at h; rw [Array.getElem?_eq_none hge] at h; cases h
theorem DBlk.cell (h : DBlk w g t l) {i : Nat} (hi : i < l.length) : w.cell? ⟨g, i, none⟩ = some (.int .u32 (l[i] : Nat)) := by
 rw [cell_of_row w g i _ t (0, 0) h]
 simp [hi, dv]
theorem DBlk.frozen (h : DBlk w g t l) (i : Nat) : w.frozen? ⟨g, i, none⟩ = false := by
 unfold DBlk at h
 simp [World.frozen?, h]
theorem DBlk.new (w : World) (t : TypeId) (n : Nat) : DBlk (w.alloc (.cells (zcells n) t)) w.heap.size t (List.replicate n 0) := heap_alloc_new w _
theorem DBlk.set_ (h : DBlk w g t l) (i d : Nat) : DBlk (w.setCell ⟨g, i, none⟩ (.int .u32 (d : Nat))) g t (l.set i d) := by
 unfold DBlk at h ⊢
 simp [World.setCell, Array.getElem?_modify, h, List.map_set, dv]
theorem DBlk.setI (h : DBlk w g t l) (i d : Nat) {z : Int} (hz : z = (d : Nat)) : DBlk (w.setCell ⟨g, i, none⟩ (.int .u32 z)) g t (l.set i d) := by subst hz; exact h.set_ i d
theorem DBlk.ext (h : DBlk w g t l) (e : Ext w w') : DBlk w' g t l := e.blk h
theorem DBlk.alloc (h : DBlk w g t l) (o : Obj) : DBlk (w.alloc o) g t l := (Below.heap_alloc w o g h.lt).trans h
theorem DBlk.far (h : DBlk w g t l) {p : Addr} (hp : g ≠ p.block) (u : Value) : DBlk (w.setCell p u) g t l := (Below.heap_setCell w p u g hp).trans h
theorem DBlk.digv (h : DBlk w g t l) (hd : ∀ d ∈ l, d < 4294967296) {c : Nat} (hc : l.length ≤ c) (hm : c ≤ 9223372036854775807) : DigV w (.slice (some ⟨g, 0, none⟩) l.length c) l := by
 refine ⟨_, c, rfl, hc, hm, hd, fun _ => ⟨_, rfl, fun j hj => ?_⟩⟩
 have e : (⟨g, 0, none⟩ : Addr).add j = ⟨g, j, none⟩ := by unfold Addr.add; split <;> simp_all
 rw [e]
 exact h.cell hj
end
theorem madeCells_zero (n : Nat) : madeCells #[Value.int .u32 0] n = zcells n := by
 apply Array.ext
 ·simp [madeCells, zcells]
 ·intro i h1 h2
  simp [madeCells, zcells, dv, Nat.mod_one]
def IntV (w : World) (v : Value) (neg : Bool) (ds : List Nat) : Prop :=
 ∃ s, v = .agg #[.bool neg, s] ∧ DigV w s ds
theorem IntV.ext {w w' : World} {v : Value} {neg : Bool} {ds : List Nat} (h : IntV w v neg ds) (e : Ext w w') : IntV w' v neg ds := by
 obtain ⟨s, h1, h2⟩ := h; exact ⟨s, h1, h2.ext e⟩
def nv : List Nat → Nat
 | [] => 0
 | d :: ds => d + 4294967296 * nv ds
def iv (neg : Bool) (ds : List Nat) : Int := if neg then -(nv ds : Int) else nv ds
def NumV (w : World) (v : Value) (n l : Nat) : Prop := ∃ ds, DigV w v ds ∧ nv ds = n ∧ ds.length ≤ l
theorem NumV.ext {w w' : World} {v : Value} {n l : Nat} (h : NumV w v n l) (e : Ext w w') : NumV w' v n l := by obtain ⟨d, h1, h2⟩ := h; exact ⟨d, h1.ext e, h2⟩
def NatV (w : World) (v : Value) (n : Nat) : Prop := ∃ ds, DigV w v ds ∧ nv ds = n ∧ (∀ h : ds ≠ [], ds.getLast h ≠ 0)
theorem NatV.ext {w w' : World} {v : Value} {n : Nat} (h : NatV w v n) (e : Ext w w') : NatV w' v n := by obtain ⟨d, h1, h2⟩ := h; exact ⟨d, h1.ext e, h2⟩
def canon (neg : Bool) (ds : List Nat) : Prop := (∀ h : ds ≠ [], ds.getLast h ≠ 0) ∧ (neg = true → ds ≠ [])
def HasZ (w : World) (v : Value) (x : Int) : Prop := ∃ neg ds, IntV w v neg ds ∧ iv neg ds = x ∧ ds.length ≤ 1099511627776
def IsZ (w : World) (v : Value) (x : Int) : Prop := ∃ neg ds, IntV w v neg ds ∧ iv neg ds = x ∧ canon neg ds
theorem HasZ.ext {w w' : World} {v : Value} {x : Int} (h : HasZ w v x) (e : Ext w w') : HasZ w' v x := by
 obtain ⟨n, d, h1, h2⟩ := h; exact ⟨n, d, h1.ext e, h2⟩
theorem IsZ.ext {w w' : World} {v : Value} {x : Int} (h : IsZ w v x) (e : Ext w w') : IsZ w' v x := by
 obtain ⟨n, d, h1, h2⟩ := h; exact ⟨n, d, h1.ext e, h2⟩
end Go.Hp
namespace Go.Hp
def Digs (ds : List Nat) : Prop := ∀ d ∈ ds, d < 4294967296
theorem Digs.nil : Digs [] := fun _ h => by cases h
theorem Digs.cons {d : Nat} {ds : List Nat} (h : d < 4294967296) (hs : Digs ds) : Digs (d :: ds) := fun e he => by
 rcases List.mem_cons.1 he with rfl | he
 ·exact h
 ·exact hs e he
theorem Digs.append {a b : List Nat} (ha : Digs a) (hb : Digs b) : Digs (a ++ b) := fun e he => by
 rcases List.mem_append.1 he with he | he
 ·exact ha e he
 ·exact hb e he
theorem Digs.left {a b : List Nat} (h : Digs (a ++ b)) : Digs a := fun e he => h e (List.mem_append_left _ he)
theorem Digs.right {a b : List Nat} (h : Digs (a ++ b)) : Digs b := fun e he => h e (List.mem_append_right _ he)
theorem Digs.take {a : List Nat} (h : Digs a) (n : Nat) : Digs (a.take n) := fun e he => h e (List.mem_of_mem_take he)
theorem Digs.drop {a : List Nat} (h : Digs a) (n : Nat) : Digs (a.drop n) := fun e he => h e (List.mem_of_mem_drop he)
theorem Digs.get {a : List Nat} (h : Digs a) {i : Nat} (hi : i < a.length) : a[i] < 4294967296 := h _ (List.getElem_mem hi)
theorem Digs.zeros (n : Nat) : Digs (List.replicate n 0) := fun e he => by rw [List.eq_of_mem_replicate he]; decide
def bp (n : Nat) : Nat := 4294967296 ^ n
theorem bp_zero : bp 0 = 1 := rfl
theorem bp_succ (n : Nat) : bp (n + 1) = 4294967296 * bp n := by unfold bp; rw [Nat.pow_succ, Nat.mul_comm]
theorem bp_add (m n : Nat) : bp (m + n) = bp m * bp n := by unfold bp; rw [Nat.pow_add]
theorem bp_pos (n : Nat) : 0 < bp n := Nat.pow_pos (by decide)
theorem bp_le {m n : Nat} (h : m ≤ n) : bp m ≤ bp n := Nat.pow_le_pow_right (by decide) h
theorem bp_one : bp 1 = 4294967296 := rfl
theorem bp_two : bp 2 = 18446744073709551616 := by decide
theorem nv_nil : nv [] = 0 := rfl
theorem nv_cons (d : Nat) (ds : List Nat) : nv (d :: ds) = d + 4294967296 * nv ds := rfl
theorem nv_append (a b : List Nat) : nv (a ++ b) = nv a + bp a.length * nv b := by
 induction a with
 | nil => simp [nv_nil, bp_zero]
 | cons d ds ih =>
  rw [List.cons_append, nv_cons, nv_cons, ih, List.length_cons, bp_succ, Nat.mul_add, Nat.mul_assoc]
  omega
theorem nv_snoc (a : List Nat) (d : Nat) : nv (a ++ [d]) = nv a + bp a.length * d := by rw [nv_append, nv_cons, nv_nil]; rfl
theorem nv_lt {ds : List Nat} (h : Digs ds) : nv ds < bp ds.length := by
 induction ds with
 | nil => exact bp_pos 0
 | cons d ds ih =>
  have h1 := ih (fun e he => h e (List.mem_cons_of_mem _ he))
  have h2 := h d List.mem_cons_self
  rw [nv_cons, List.length_cons, bp_succ]
  omega
theorem nv_zeros (n : Nat) : nv (List.replicate n 0) = 0 := by
 induction n with
 | zero => rfl
 | succ n ih => rw [List.replicate_succ, nv_cons, ih]
theorem nv_take_succ {ds : List Nat} {i : Nat} (hi : i < ds.length) : nv (ds.take (i + 1)) = nv (ds.take i) + bp i * ds[i] := by
 rw [List.take_succ_eq_append_getElem hi, nv_snoc, List.length_take, Nat.min_eq_left (by omega)]
theorem nv_split (ds : List Nat) (i : Nat) (hi : i ≤ ds.length) : nv ds = nv (ds.take i) + bp i * nv (ds.drop i) := by
 have := nv_append (ds.take i) (ds.drop i)
 rw [List.take_append_drop, List.length_take, Nat.min_eq_left hi] at this
 exact this
theorem nv_drop {ds : List Nat} {i : Nat} (hi : i < ds.length) : nv (ds.drop i) = ds[i] + 4294967296 * nv (ds.drop (i + 1)) := by
 rw [List.drop_eq_getElem_cons hi, nv_cons]
theorem Digs.set {l : List Nat} (h : Digs l) {d : Nat} (hd : d < 4294967296) (i : Nat) : Digs (l.set i d) := fun e he => by
 rcases List.mem_or_eq_of_mem_set he with he | rfl
 ·exact h e he
 ·exact hd
theorem nv_take_set {l : List Nat} {k d : Nat} (hk : k < l.length) : nv ((l.set k d).take (k + 1)) = nv (l.take k) + bp k * d := by
 have hk' : k < (l.set k d).length := by simpa using hk
 rw [nv_take_succ hk']
 simp [List.take_set_of_le]
def dg (ds : List Nat) (k : Nat) : Nat := ds.getD k 0
theorem dg_lt {ds : List Nat} {k : Nat} (h : k < ds.length) : dg ds k = ds[k] := by unfold dg; rw [List.getD_eq_getElem?_getD, List.getElem?_eq_getElem h]; rfl
theorem dg_ge {ds : List Nat} {k : Nat} (h : ds.length ≤ k) : dg ds k = 0 := by unfold dg; rw [List.getD_eq_getElem?_getD, List.getElem?_eq_none h]; rfl
theorem DBlk.celld {w : World} {g : Nat} {t : TypeId} {l : List Nat} (h : DBlk w g t l) {i : Nat} (hi : i < l.length) : w.cell? ⟨g, i, none⟩ = some (.int .u32 (dg l i : Nat)) := by rw [dg_lt hi]; exact h.cell hi
theorem nv_take_dg (ds : List Nat) (k : Nat) : nv (ds.take (k + 1)) = nv (ds.take k) + bp k * dg ds k := by
 rcases Nat.lt_or_ge k ds.length with h | h
 ·rw [dg_lt h, nv_take_succ h]
 ·rw [dg_ge h, List.take_of_length_le (by omega), List.take_of_length_le h]; omega
theorem dg_bound {ds : List Nat} (h : Digs ds) (k : Nat) : dg ds k < 4294967296 := by
 rcases Nat.lt_or_ge k ds.length with hl | hl
 ·rw [dg_lt hl]; exact h.get hl
 ·rw [dg_ge hl]; decide
theorem add_step {L X Y p c x y : Nat} (h : L + c * p = X + Y) : L + p * ((x + y + c) % 4294967296) + (x + y + c) / 4294967296 * (4294967296 * p) = X + p * x + (Y + p * y) := by
 have e : (x + y + c) % 4294967296 + 4294967296 * ((x + y + c) / 4294967296) = x + y + c := Nat.mod_add_div _ _
 generalize (x + y + c) % 4294967296 = r at *
 generalize (x + y + c) / 4294967296 = q at *
 grind
def Top (ds : List Nat) : Prop := ∀ h : ds ≠ [], ds.getLast h ≠ 0
theorem Top.nil : Top [] := fun h => absurd rfl h
theorem Top.len {ds : List Nat} (h : Top ds) (hl : 0 < ds.length) : bp (ds.length - 1) ≤ nv ds := by
 have hne : ds ≠ [] := fun e => by rw [e] at hl; simp at hl
 have h1 := h hne
 have h2 := List.dropLast_concat_getLast hne
 rw [← h2, nv_snoc]
 have h3 : bp (ds.dropLast ++ [ds.getLast hne]).length = bp ds.length := by rw [h2]
 have h4 : ds.dropLast.length = ds.length - 1 := by simp
 rw [h4]
 have h5 : (ds.dropLast ++ [ds.getLast hne]).length - 1 = ds.length - 1 := by rw [h2]
 rw [h5]
 have : bp (ds.length - 1) * 1 ≤ bp (ds.length - 1) * ds.getLast hne := Nat.mul_le_mul_left _ (by omega)
 omega
theorem Top.pos {ds : List Nat} (h : Top ds) : nv ds = 0 ↔ ds = [] := by
 constructor
 ·intro h0
  rcases Nat.eq_zero_or_pos ds.length with hl | hl
  ·exact List.eq_nil_of_length_eq_zero hl
  ·have := h.len hl
   have := bp_pos (ds.length - 1)
   omega
 ·rintro rfl; rfl
theorem digs_inj : ∀ {a b : List Nat}, Digs a → Digs b → a.length = b.length → nv a = nv b → a = b
 | [], [], _, _, _, _ => rfl
 | x :: a, y :: b, ha, hb, hl, hv => by
  rw [nv_cons, nv_cons] at hv
  have h1 := ha x List.mem_cons_self
  have h2 := hb y List.mem_cons_self
  have h3 : x = y := by omega
  have h4 : nv a = nv b := by omega
  rw [h3, digs_inj (fun e he => ha e (List.mem_cons_of_mem _ he)) (fun e he => hb e (List.mem_cons_of_mem _ he)) (by simpa using hl) h4]
 | [], _ :: _, _, _, hl, _ => by simp at hl
 | _ :: _, [], _, _, hl, _ => by simp at hl
theorem top_len_lt {a b : List Nat} (da : Digs a) (tb : Top b) (h : a.length < b.length) : nv a < nv b := by
 have l1 := nv_lt da
 have := tb.len (by omega)
 have := bp_le (show a.length ≤ b.length - 1 by omega)
 omega
theorem top_len_le {a b : List Nat} (db : Digs b) (ta : Top a) (h : nv a ≤ nv b) : a.length ≤ b.length := by
 rcases Nat.lt_or_ge b.length a.length with hl | hl
 ·have := top_len_lt db ta hl; omega
 ·exact hl
theorem len_of_lt {a : List Nat} (ta : Top a) {n : Nat} (h : nv a < bp n) : a.length ≤ n := by
 rcases Nat.lt_or_ge n a.length with hl | hl
 ·have := ta.len (by omega)
  have := bp_le (show n ≤ a.length - 1 by omega)
  omega
 ·exact hl
def trim (ds : List Nat) : List Nat := (ds.reverse.dropWhile (· == 0)).reverse
theorem trim_nil : trim [] = [] := rfl
theorem trim_snoc_zero (ds : List Nat) : trim (ds ++ [0]) = trim ds := by simp [trim]
theorem trim_snoc (ds : List Nat) (d : Nat) (h : d ≠ 0) : trim (ds ++ [d]) = ds ++ [d] := by simp [trim, h]
theorem trim_ind {p : List Nat → Prop} (h0 : p []) (h1 : ∀ ds d, p ds → p (ds ++ [d])) : ∀ ds, p ds := by
 intro ds
 have : ∀ n (ds : List Nat), ds.length = n → p ds := by
  intro n
  induction n with
  | zero => intro ds h; rw [List.eq_nil_of_length_eq_zero h]; exact h0
  | succ n ih =>
   intro ds h
   have hne : ds ≠ [] := fun e => by rw [e] at h; simp at h
   rw [← List.dropLast_concat_getLast hne]
   exact h1 _ _ (ih _ (by simp [h]))
 exact this _ ds rfl
theorem trim_top : ∀ ds, Top (trim ds) := by
 refine trim_ind Top.nil fun ds d ih => ?_
 by_cases h : d = 0
 ·subst h; rw [trim_snoc_zero]; exact ih
 ·rw [trim_snoc _ _ h]
  intro hne
  simpa using h
theorem trim_nv : ∀ ds, nv (trim ds) = nv ds := by
 refine trim_ind rfl fun ds d ih => ?_
 by_cases h : d = 0
 ·subst h; rw [trim_snoc_zero, ih, nv_snoc, Nat.mul_zero, Nat.add_zero]
 ·rw [trim_snoc _ _ h]
theorem trim_digs {ds : List Nat} (h : Digs ds) : Digs (trim ds) := fun e he => by
 unfold trim at he
 exact h e (List.mem_reverse.1 (List.Sublist.mem (List.mem_reverse.1 he) (List.dropWhile_sublist _)))
theorem trim_len (ds : List Nat) : (trim ds).length ≤ ds.length := by
 unfold trim
 rw [List.length_reverse]
 have := (List.dropWhile_sublist (fun x : Nat => x == 0) (l := ds.reverse)).length_le
 rwa [List.length_reverse] at this
theorem trim_of_top {ds : List Nat} (h : Top ds) : trim ds = ds := by
 revert h
 refine trim_ind (p := fun ds => Top ds → trim ds = ds) (fun _ => rfl) (fun ds d _ h => ?_) ds
 refine trim_snoc _ _ ?_
 simpa using h (by simp)
theorem trim_take {ds : List Nat} {m : Nat} (hm : m ≤ ds.length) (hz : ∀ j, m ≤ j → (h : j < ds.length) → ds[j] = 0) (hlast : ∀ h : m - 1 < ds.length, 0 < m → ds[m - 1] ≠ 0) : ds.take m = trim ds := by
 have h1 : ds = ds.take m ++ List.replicate (ds.length - m) 0 := by
  apply List.ext_getElem
  ·simp; omega
  ·intro i h1 h2
   rw [List.getElem_append]
   split
   ·rename_i h; simp at h; simp
   ·rename_i h; simp at h; simp; exact hz i (by omega) h1
 have h2 : ∀ n (xs : List Nat), trim (xs ++ List.replicate n 0) = trim xs := by
  intro n
  induction n with
  | zero => intro xs; simp
  | succ n ih => intro xs; rw [List.replicate_succ', ← List.append_assoc, trim_snoc_zero, ih]
 rw [h1, h2]
 have h3 : Top (ds.take m) := by
  intro hne
  rcases Nat.eq_zero_or_pos m with h0 | h0
  ·subst h0; simp at hne
  ·rw [List.getLast_eq_getElem]
   simp only [List.length_take, Nat.min_eq_left hm, List.getElem_take]
   exact hlast (by omega) h0
 rw [trim_of_top h3, ← h1]
theorem trim_nil_iff (ds : List Nat) : trim ds = [] ↔ nv ds = 0 := by rw [← trim_nv, (trim_top ds).pos]
theorem trim_prefix (ds : List Nat) : ∃ m, trim ds = ds.take m := by
 refine trim_ind (p := fun ds => ∃ m, trim ds = ds.take m) ⟨0, rfl⟩ (fun ds d ⟨m, hm⟩ => ?_) ds
 by_cases h : d = 0
 ·subst h
  rw [trim_snoc_zero, hm]
  refine ⟨min m ds.length, ?_⟩
  rw [List.take_append_of_le_length (Nat.min_le_right _ _), ← List.take_take, List.take_length]
 ·exact ⟨ds.length + 1, by rw [trim_snoc _ _ h, List.take_of_length_le (by simp)]⟩
theorem DigAt.trim {w : World} {A : Option Addr} {ds : List Nat} (h : DigAt w A ds) : DigAt w A (trim ds) := by
 refine ⟨trim_digs h.1, fun hl => ?_⟩
 have hle := trim_len ds
 obtain ⟨a, ha, hc⟩ := h.2 (by omega)
 refine ⟨a, ha, fun j hj => ?_⟩
 obtain ⟨m, hm⟩ := trim_prefix ds
 rw [hc j (by omega)]
 simp only [hm, List.getElem_take]
end Go.Hp
namespace Go.Hp
open Go.RowKit
section
variable {W V v1 v2 P Vl un un1 un2 Wl : Nat}
structure Knuth (W V v1 v2 P Vl un un1 un2 Wl : Nat) : Prop where
 hV : V = (v1 * 4294967296 + v2) * P + Vl
 hVl : Vl < P
 hv1 : v1 < 4294967296
 hv2 : v2 < 4294967296
 hv : 4294967296 ≤ 2 * v1
 hW : W = ((un * 4294967296 + un1) * 4294967296 + un2) * P + Wl
 hWl : Wl < P
 hu2 : un2 < 4294967296
 hu1 : un1 < 4294967296
 hlt : W < 4294967296 * V
theorem Knuth.vpos (h : Knuth W V v1 v2 P Vl un un1 un2 Wl) : 0 < V := by
 rcases Nat.eq_zero_or_pos V with h0 | h0
 ·have := h.hlt; rw [h0] at this; omega
 ·exact h0
theorem Knuth.q_lt (h : Knuth W V v1 v2 P Vl un un1 un2 Wl) : W / V < 4294967296 := Nat.div_lt_of_lt_mul (by rw [Nat.mul_comm]; exact h.hlt)
theorem Knuth.w_lt (h : Knuth W V v1 v2 P Vl un un1 un2 Wl) : W < ((un * 4294967296 + un1) * 4294967296 + un2 + 1) * P := by
 have := h.hW; have := h.hWl
 rw [Nat.add_mul _ 1, Nat.one_mul]
 omega
theorem Knuth.v_ge (h : Knuth W V v1 v2 P Vl un un1 un2 Wl) : (v1 * 4294967296 + v2) * P ≤ V := by have := h.hV; omega
theorem Knuth.w_ge (h : Knuth W V v1 v2 P Vl un un1 un2 Wl) : ((un * 4294967296 + un1) * 4294967296 + un2) * P ≤ W := by have := h.hW; omega
theorem Knuth.un_le (h : Knuth W V v1 v2 P Vl un un1 un2 Wl) : un ≤ v1 := by
 rcases Nat.lt_or_ge v1 un with hc | hc
 ·exfalso
  have h1 := h.w_ge
  have h2 := h.hlt
  have h3 : V < (v1 * 4294967296 + v2 + 1) * P := by have := h.hV; have := h.hVl; rw [Nat.add_mul _ 1, Nat.one_mul]; omega
  have h4 : v1 * 4294967296 + v2 + 1 ≤ (v1 + 1) * 4294967296 := by have := h.hv2; omega
  have h5 : (v1 * 4294967296 + v2 + 1) * P ≤ (v1 + 1) * 4294967296 * P := Nat.mul_le_mul_right _ h4
  have h6 : (v1 + 1) * 4294967296 * 4294967296 ≤ (un * 4294967296 + un1) * 4294967296 + un2 := by omega
  have h7 : (v1 + 1) * 4294967296 * 4294967296 * P ≤ ((un * 4294967296 + un1) * 4294967296 + un2) * P := Nat.mul_le_mul_right _ h6
  have h8 : 4294967296 * V < 4294967296 * ((v1 + 1) * 4294967296 * P) := by omega
  have h9 : 4294967296 * ((v1 + 1) * 4294967296 * P) = (v1 + 1) * 4294967296 * 4294967296 * P := by grind
  omega
 ·exact hc
theorem Knuth.guess_le (h : Knuth W V v1 v2 P Vl un un1 un2 Wl) : (un * 4294967296 + un1) / v1 ≤ 4294967297 := by
 have h1 := h.un_le; have h2 := h.hv; have h3 := h.hu1
 have : (un * 4294967296 + un1) / v1 < 4294967298 := by
  apply Nat.div_lt_of_lt_mul
  have : un * 4294967296 ≤ v1 * 4294967296 := Nat.mul_le_mul_right _ h1
  omega
 omega
theorem Knuth.guess_ge (h : Knuth W V v1 v2 P Vl un un1 un2 Wl) : W / V ≤ (un * 4294967296 + un1) / v1 := by
 have hv := h.hv
 rw [Nat.le_div_iff_mul_le (by omega)]
 rcases Nat.lt_or_ge (un * 4294967296 + un1) (W / V * v1) with hc | hc
 ·exfalso
  have h1 : W / V * V ≤ W := Nat.div_mul_le_self _ _
  have h2 : W / V * ((v1 * 4294967296 + v2) * P) ≤ W / V * V := Nat.mul_le_mul_left _ h.v_ge
  have h3 : (un * 4294967296 + un1 + 1) * (4294967296 * P) ≤ W / V * v1 * (4294967296 * P) := Nat.mul_le_mul_right _ hc
  have h4 := h.w_lt
  have h5 : ((un * 4294967296 + un1) * 4294967296 + un2 + 1) * P ≤ (un * 4294967296 + un1 + 1) * 4294967296 * P := Nat.mul_le_mul_right _ (by have := h.hu2; omega)
  have h6 : W / V * v1 * (4294967296 * P) ≤ W / V * ((v1 * 4294967296 + v2) * P) := by
   rw [Nat.mul_assoc]
   refine Nat.mul_le_mul_left _ ?_
   rw [← Nat.mul_assoc]
   exact Nat.mul_le_mul_right _ (by omega)
  rw [← Nat.mul_assoc] at h3
  omega
 ·exact hc
theorem Knuth.lower (h : Knuth W V v1 v2 P Vl un un1 un2 Wl) {g r : Nat} (hg : g * v1 + r = un * 4294967296 + un1) (hq : W / V ≤ g) (hc : 4294967296 ≤ g ∨ r * 4294967296 + un2 < g * v2) : W / V ≤ g - 1 ∧ 1 ≤ g := by
 have hq' := h.q_lt
 rcases hc with hc | hc
 ·generalize W / V = Q at *; omega
 ·have h1 : ((un * 4294967296 + un1) * 4294967296 + un2 + 1) ≤ g * (v1 * 4294967296 + v2) := by
   rw [← hg]
   have : g * (v1 * 4294967296 + v2) = g * v1 * 4294967296 + g * v2 := by rw [Nat.mul_add, Nat.mul_assoc]
   rw [this]
   omega
  have h2 : W < g * V := by
   have h3 := Nat.mul_le_mul_right P h1
   have h4 : g * ((v1 * 4294967296 + v2) * P) ≤ g * V := Nat.mul_le_mul_left _ h.v_ge
   have h5 := h.w_lt
   rw [Nat.mul_assoc g] at h3
   omega
  have h3 : W / V < g := Nat.div_lt_of_lt_mul (by rw [Nat.mul_comm]; exact h2)
  generalize W / V = Q at *; omega
theorem Knuth.upper (h : Knuth W V v1 v2 P Vl un un1 un2 Wl) {g : Nat} (hg : g ≤ 4294967296) (hc : g * (v1 * 4294967296 + v2) ≤ (un * 4294967296 + un1) * 4294967296 + un2) : g ≤ W / V + 1 := by
 rcases Nat.eq_zero_or_pos g with h0 | h0
 ·generalize W / V = Q at *; omega
 ·obtain ⟨f, rfl⟩ : ∃ f, g = f + 1 := ⟨g - 1, by omega⟩
  have : f ≤ W / V := by
   rw [Nat.le_div_iff_mul_le h.vpos, h.hV, Nat.mul_add]
   have h1 : f * Vl ≤ 4294967296 * P := Nat.mul_le_mul (by omega) (by have := h.hVl; omega)
   have h2 : 4294967296 * P ≤ (v1 * 4294967296 + v2) * P := Nat.mul_le_mul_right _ (by have := h.hv; omega)
   have h3 : (f + 1) * (v1 * 4294967296 + v2) * P ≤ ((un * 4294967296 + un1) * 4294967296 + un2) * P := Nat.mul_le_mul_right _ hc
   have h4 := h.w_ge
   rw [Nat.add_mul f 1, Nat.one_mul, Nat.add_mul, Nat.mul_assoc] at h3
   omega
  generalize W / V = Q at *; omega
theorem Knuth.exit1 (h : Knuth W V v1 v2 P Vl un un1 un2 Wl) {g r : Nat} (hg : g * v1 + r = un * 4294967296 + un1) (hl : g < 4294967296) (hc : g * v2 ≤ r * 4294967296 + un2) : g ≤ W / V + 1 := by
 refine h.upper (by omega) ?_
 rw [← hg, Nat.mul_add, ← Nat.mul_assoc]
 omega
theorem Knuth.exit2 (h : Knuth W V v1 v2 P Vl un un1 un2 Wl) {g r : Nat} (hg : g * v1 + r = un * 4294967296 + un1) (hl : g ≤ 4294967296) (hr : 4294967296 ≤ r) : g ≤ W / V + 1 := by
 refine h.upper hl ?_
 rw [← hg, Nat.mul_add, ← Nat.mul_assoc]
 have : g * v2 ≤ 4294967296 * 4294967295 := Nat.mul_le_mul hl (by have := h.hv2; omega)
 omega
end
theorem nv_top2 {vs : List Nat} {n : Nat} (hn : vs.length = n + 2) : nv vs = (dg vs (n + 1) * 4294967296 + dg vs n) * bp n + nv (vs.take n) := by
 have h1 := nv_take_dg vs n
 have h2 := nv_take_dg vs (n + 1)
 rw [List.take_of_length_le (by omega), bp_succ] at h2
 rw [h2, h1]
 grind
theorem nv_top3 {us : List Nat} {n : Nat} (hn : us.length = n + 3) : nv us = ((dg us (n + 2) * 4294967296 + dg us (n + 1)) * 4294967296 + dg us n) * bp n + nv (us.take n) := by
 have h1 := nv_take_dg us n
 have h2 := nv_take_dg us (n + 1)
 have h3 := nv_take_dg us (n + 2)
 rw [List.take_of_length_le (by omega), bp_succ, bp_succ] at h3
 rw [bp_succ] at h2
 rw [h3, h2, h1]
 grind
theorem knuth_of {us vs : List Nat} {n : Nat} (hu : us.length = n + 3) (hv : vs.length = n + 2) (du : Digs us) (dv : Digs vs) (ht : 4294967296 ≤ 2 * dg vs (n + 1)) (hlt : nv us < 4294967296 * nv vs) :
  Knuth (nv us) (nv vs) (dg vs (n + 1)) (dg vs n) (bp n) (nv (vs.take n)) (dg us (n + 2)) (dg us (n + 1)) (dg us n) (nv (us.take n)) where
 hV := nv_top2 hv
 hVl := by have := nv_lt (dv.take n); rwa [List.length_take, Nat.min_eq_left (by omega)] at this
 hv1 := dg_bound dv _
 hv2 := dg_bound dv _
 hv := ht
 hW := nv_top3 hu
 hWl := by have := nv_lt (du.take n); rwa [List.length_take, Nat.min_eq_left (by omega)] at this
 hu2 := dg_bound du _
 hu1 := dg_bound du _
 hlt := hlt
theorem mulsub_step {A X N p c b g x y : Nat} (hu : x < 4294967296) (hb : b ≤ 1) (h : A + g * N = X + (c + b) * p) :
  A + p * ((x + 4294967296 - (g * y + c) % 4294967296 - b) % 4294967296) + g * (N + p * y) = X + p * x + ((g * y + c) / 4294967296 + if x < (g * y + c) % 4294967296 + b then 1 else 0) * (4294967296 * p) := by
 have e1 : (g * y + c) % 4294967296 + 4294967296 * ((g * y + c) / 4294967296) = g * y + c := Nat.mod_add_div _ _
 have hl : (g * y + c) % 4294967296 < 4294967296 := Nat.mod_lt _ (by decide)
 generalize (g * y + c) % 4294967296 = lo at *
 generalize (g * y + c) / 4294967296 = hi at *
 have e2 : (x + 4294967296 - lo - b) % 4294967296 + lo + b = x + (if x < lo + b then 1 else 0) * 4294967296 := by
  by_cases hc : x < lo + b
  ·rw [if_pos hc]; omega
  ·rw [if_neg hc]; omega
 generalize (x + 4294967296 - lo - b) % 4294967296 = r at *
 generalize (if x < lo + b then 1 else 0) = q at *
 have e3 : p * (r + lo + b) = p * (x + q * 4294967296) := by rw [e2]
 have e4 : p * (lo + 4294967296 * hi) = p * (g * y + c) := by rw [e1]
 grind
theorem dg_window {U : List Nat} {j L i : Nat} (h : i < L) : dg ((U.drop j).take L) i = dg U (j + i) := by
 unfold dg
 rw [List.getD_eq_getElem?_getD, List.getD_eq_getElem?_getD, List.getElem?_take_of_lt h, List.getElem?_drop]
theorem nv_window {U : List Nat} {j L : Nat} (dU : Digs U) (h : nv (U.drop j) < bp L) (hl : j + L ≤ U.length) : nv ((U.drop j).take L) = nv (U.drop j) := by
 have h1 := nv_split (U.drop j) L (by rw [List.length_drop]; omega)
 rcases Nat.eq_zero_or_pos (nv ((U.drop j).drop L)) with h2 | h2
 ·rw [h2] at h1; omega
 ·have : bp L * 1 ≤ bp L * nv ((U.drop j).drop L) := Nat.mul_le_mul_left _ h2
  omega
theorem knuth_win {U vs : List Nat} {j L : Nat} (hL : 2 ≤ L) (hLj : j + L + 1 ≤ U.length) (dU : Digs U) (dV : Digs vs) (hvl : vs.length = L) (ht : 4294967296 ≤ 2 * dg vs (L - 1)) (hlt : nv (U.drop j) < 4294967296 * nv vs) :
  ∃ P Vl Wl, Knuth (nv (U.drop j)) (nv vs) (dg vs (L - 1)) (dg vs (L - 2)) P Vl (dg U (j + L)) (dg U (j + (L - 1))) (dg U (j + (L - 2))) Wl := by
 obtain ⟨n, rfl⟩ : ∃ n, L = n + 2 := ⟨L - 2, by omega⟩
 have hb : nv (U.drop j) < bp (n + 2 + 1) := by
  have := nv_lt dV
  rw [hvl] at this
  rw [bp_succ]; omega
 have hw := nv_window dU hb (by omega)
 have k := knuth_of (us := (U.drop j).take (n + 2 + 1)) (vs := vs) (n := n) (by simp; omega) hvl ((dU.drop j).take _) dV ht (by rw [hw]; exact hlt)
 rw [hw, dg_window (by omega), dg_window (by omega), dg_window (by omega)] at k
 exact ⟨_, _, _, k⟩
theorem DBlk.cellR {w : World} {g : Nat} {t : TypeId} {pre X : List Nat} {j : Nat} (h : DBlk w g t (pre ++ X)) (hj : pre.length = j) {k : Nat} (hk : k < X.length) : w.cell? ⟨g, j + k, none⟩ = some (.int .u32 (dg X k : Nat)) := by
 have := h.celld (i := j + k) (by simp; omega)
 rw [this]
 unfold dg
 rw [List.getD_eq_getElem?_getD, List.getD_eq_getElem?_getD, List.getElem?_append_right (by omega), show j + k - pre.length = k from by omega]
theorem DBlk.setR {w : World} {g : Nat} {t : TypeId} {pre X : List Nat} {j : Nat} (h : DBlk w g t (pre ++ X)) (hj : pre.length = j) (k d : Nat) {z : Int} (hz : z = (d : Nat)) : DBlk (w.setCell ⟨g, j + k, none⟩ (.int .u32 z)) g t (pre ++ X.set k d) := by
 have := h.setI (j + k) d hz
 rwa [List.set_append, if_neg (by omega), show j + k - pre.length = k from by omega] at this
theorem add_block (a : Addr) (k : Nat) : (a.add k).block = a.block := by unfold Addr.add; split <;> rfl
theorem grown_set {a w : World} {g : Nat} (h : a.grownBy w (some g)) (i : Nat) (u : Value) : a.grownBy (w.setCell ⟨g, i, none⟩ u) (some g) :=
 ⟨h.os, h.tape, h.output, by simpa [World.setCell] using h.size, fun k hk hne => (Below.heap_setCell w ⟨g, i, none⟩ u k (fun e => hne (by rw [e]))).trans (h.block k hk hne)⟩
theorem ext_grown {a w : World} (g : Nat) (h : Ext a w) : a.grownBy w (some g) := by
 have e' : Below a.heap.size a w := h
 exact ⟨e'.os, e'.tape, e'.output, e'.size, fun k hk _ => e'.block k hk⟩
theorem drop_of_dg {X Y : List Nat} {k : Nat} (hl : X.length = Y.length) (h : ∀ q, k ≤ q → dg X q = dg Y q) : X.drop k = Y.drop k := by
 apply List.ext_getElem
 ·simp [hl]
 ·intro i h1 h2
  simp only [List.length_drop] at h1 h2
  have := h (k + i) (by omega)
  rw [dg_lt (by omega), dg_lt (by omega)] at this
  simpa using this
theorem digit_end0 {W V G A : Nat} (hV : 0 < V) (hQ : W / V ≤ G) (h : A + G * V = W) : G = W / V ∧ A = W % V := by
 have h1 : G ≤ W / V := by rw [Nat.le_div_iff_mul_le hV]; omega
 have h2 : G = W / V := by generalize W / V = Q at *; omega
 refine ⟨h2, ?_⟩
 have := Nat.div_add_mod W V
 rw [← h2, Nat.mul_comm] at this
 omega
theorem digit_end1 {W V G A p : Nat} (hV : 0 < V) (hG : G ≤ W / V + 1) (hA : A < p) (h : A + G * V = W + p) : G = W / V + 1 ∧ A + V = W % V + p := by
 have h1 : ¬ G ≤ W / V := fun hc => by
  rw [Nat.le_div_iff_mul_le hV] at hc
  omega
 have h2 : G = W / V + 1 := by generalize W / V = Q at *; omega
 refine ⟨h2, ?_⟩
 have := Nat.div_add_mod W V
 rw [h2, Nat.add_mul, Nat.one_mul, Nat.mul_comm] at h
 omega
theorem digit_back {S T p z : Nat} (hT : T < p) (hz : z ≤ 4294967296) (hS : T + p * z = S + p * 4294967296) : T = S ∧ z = 4294967296 := by
 have : z = 4294967296 := by
  rcases Nat.lt_or_ge z 4294967296 with hc | hc
  ·exfalso
   have : p * (z + 1) ≤ p * 4294967296 := Nat.mul_le_mul_left _ hc
   rw [Nat.mul_add, Nat.mul_one] at this
   omega
  ·omega
 subst this
 omega
theorem nv_high {X : List Nat} {m : Nat} (hm : m ≤ X.length) (h : nv X < bp m) : nv (X.drop m) = 0 ∧ nv (X.take m) = nv X := by
 have h1 := nv_split X m hm
 rcases Nat.eq_zero_or_pos (nv (X.drop m)) with h2 | h2
 ·rw [h2] at h1; exact ⟨h2, by omega⟩
 ·have : bp m * 1 ≤ bp m * nv (X.drop m) := Nat.mul_le_mul_left _ h2
  omega
theorem nv_set_at {X Y : List Nat} {L d : Nat} (hl : X.length = Y.length) (hL : L + 1 ≤ X.length) (hs : ∀ q, L ≤ q → dg X q = dg Y q) (hz : nv (Y.drop (L + 1)) = 0) : nv (X.set L d) = nv (X.take L) + bp L * d := by
 have h1 := nv_split (X.set L d) (L + 1) (by simpa using hL)
 have e1 : (X.set L d).drop (L + 1) = Y.drop (L + 1) := by
  rw [List.drop_set_of_lt (Nat.lt_succ_self L)]
  exact drop_of_dg hl (fun q hq => hs q (Nat.le_of_succ_le hq))
 have e2 := nv_take_set (l := X) (k := L) (d := d) hL
 rw [e1, hz, Nat.mul_zero, Nat.add_zero, e2] at h1
 exact h1
theorem last_step {A C N p c b x q r : Nat} (h : A + N = C + (c + b) * p) (e : r + c + b = x + q * 4294967296) : A + p * r + N = C + p * x + q * (4294967296 * p) := by
 have e3 : p * (r + c + b) = p * (x + q * 4294967296) := by rw [e]
 grind
theorem borrow_eq {x c b : Nat} (hx : x < 4294967296) (hc : c < 4294967296) (hb : b ≤ 1) : (x + 4294967296 - c - b) % 4294967296 + c + b = x + (if x < c + b then 1 else 0) * 4294967296 := by
 by_cases h : x < c + b
 ·rw [if_pos h]; omega
 ·rw [if_neg h]; omega
theorem digit_last {X X1 : List Nat} {V L c0 b0 G : Nat} (hXl : L + 1 ≤ X.length) (hl1 : X1.length = X.length) (hs : ∀ q, L ≤ q → dg X1 q = dg X q) (hn : nv (X1.take L) + G * V = nv (X.take L) + (c0 + b0) * bp L)
  (hc : c0 < 4294967296) (hb : b0 ≤ 1) (hx : dg X L < 4294967296) (hW : nv X < bp (L + 1)) :
  nv (X1.set L ((dg X L + 4294967296 - c0 - b0) % 4294967296)) + G * V = nv X + (if dg X L < c0 + b0 then 1 else 0) * bp (L + 1) := by
 have ⟨z1, z2⟩ := nv_high hXl hW
 have e := nv_set_at (d := (dg X L + 4294967296 - c0 - b0) % 4294967296) hl1 (by omega) hs z1
 have h1 := last_step hn (borrow_eq hx hc hb)
 rw [e, h1, bp_succ, ← z2, nv_take_dg]
theorem back_eq {T C V R p c x : Nat} (hn : T + c * p = C + V) (hs : C + p * x + V = R + 4294967296 * p) : T + p * (x + c) = R + p * 4294967296 := by
 rw [Nat.mul_add, Nat.mul_comm p c, Nat.mul_comm p 4294967296]
 omega
theorem digit_addlast {X2 X3 : List Nat} {V L c1 R : Nat} (hl : L + 1 ≤ X2.length) (hl3 : X3.length = X2.length) (d3 : Digs X3) (hs : ∀ q, L ≤ q → dg X3 q = dg X2 q) (hn : nv (X3.take L) + c1 * bp L = nv (X2.take L) + V)
  (hc : c1 ≤ 1) (hsum : nv X2 + V = R + bp (L + 1)) (hX : nv X2 < bp (L + 1)) (hx : dg X2 L < 4294967296) : nv (X3.set L ((dg X2 L + c1) % 4294967296)) = R := by
 have ⟨z1, z2⟩ := nv_high hl hX
 rw [nv_set_at hl3 (by omega) hs z1]
 have hT := nv_lt (d3.take L)
 rw [List.length_take, Nat.min_eq_left (by omega)] at hT
 rw [nv_take_dg] at z2
 rw [← z2, bp_succ] at hsum
 have ⟨a, b⟩ := digit_back (S := R) (z := dg X2 L + c1) hT (by omega) (back_eq hn hsum)
 rw [b, Nat.mod_self, Nat.mul_zero, Nat.add_zero]
 exact a
theorem div_round {N V T X Q p : Nat} (h : T + p * X + Q * (4294967296 * p) * V = N) : T + p * (X % V) + (X / V + 4294967296 * Q) * p * V = N := by
 have e := Nat.div_add_mod X V
 generalize X / V = q at *
 generalize X % V = r at *
 subst e
 grind
theorem div_next {V d Y : Nat} (hd : d < 4294967296) (hY : Y < V) : d + 4294967296 * Y < 4294967296 * V := by omega
theorem div_end {N V U Q : Nat} (hU : U < V) (h : U + Q * V = N) : Q = N / V ∧ U = N % V := by
 subst h
 rw [Nat.add_mul_mod_self_right, Nat.mod_eq_of_lt hU, Nat.add_mul_div_right _ _ (by omega), Nat.div_eq_of_lt hU, Nat.zero_add]
 exact ⟨rfl, rfl⟩
theorem norm_div {es : List Nat} {S L : Nat} (de : Digs es) (hL : es.length = L) (h1 : 1 ≤ L) (hS : 0 < S) (hhi : (dg es (L - 1) + 1) * S ≤ 4294967296) (hlo : 2147483648 ≤ dg es (L - 1) * S) {vs : List Nat} (dv : Digs vs) (tv : Top vs) (hv : nv vs = nv es * S) :
  vs.length = L ∧ 4294967296 ≤ 2 * dg vs (L - 1) := by
 obtain ⟨n, rfl⟩ : ∃ n, L = n + 1 := ⟨L - 1, by omega⟩
 rw [Nat.add_sub_cancel] at *
 have e1 := nv_take_dg es n
 rw [List.take_of_length_le (by omega)] at e1
 have l1 := nv_lt (de.take n)
 rw [List.length_take, Nat.min_eq_left (by omega)] at l1
 generalize dg es n = d at *
 have h2 : nv es < bp n * (d + 1) := by rw [Nat.mul_add, Nat.mul_one]; omega
 have h3 : nv vs < bp (n + 1) := by
  rw [hv, bp_succ]
  have a := Nat.mul_lt_mul_of_pos_right h2 hS
  have b := Nat.mul_le_mul_left (bp n) hhi
  rw [Nat.mul_assoc] at a
  rw [Nat.mul_comm 4294967296]
  exact Nat.lt_of_lt_of_le a b
 have h4 : bp n * 2147483648 ≤ nv vs := by
  rw [hv]
  have a : bp n * d ≤ nv es := by omega
  have b := Nat.mul_le_mul_right S a
  have c := Nat.mul_le_mul_left (bp n) hlo
  rw [Nat.mul_assoc] at b
  exact Nat.le_trans c b
 have h5 : vs.length ≤ n + 1 := len_of_lt tv h3
 have h6 : vs.length = n + 1 := by
  rcases Nat.lt_or_ge n vs.length with h | h
  ·omega
  ·have a := nv_lt dv
   have b := bp_le h
   have c := bp_pos n
   omega
 refine ⟨h6, ?_⟩
 have e2 := nv_take_dg vs n
 rw [List.take_of_length_le (by omega)] at e2
 have l2 := nv_lt (dv.take n)
 rw [List.length_take, Nat.min_eq_left (by omega)] at l2
 generalize dg vs n = x at *
 rcases Nat.lt_or_ge (2 * x) 4294967296 with h | h
 ·exfalso
  have : bp n * (x + 1) ≤ bp n * 2147483648 := Nat.mul_le_mul_left _ (by omega)
  rw [Nat.mul_add, Nat.mul_one] at this
  omega
 ·exact h
theorem norm_start {ds es lu : List Nat} {S m : Nat} (dd : Digs ds) (te : Top es) (h1 : 1 ≤ es.length) (hS : 0 < S) (hlu : nv lu = nv ds * S) (hm : m + es.length = ds.length + 1) (hl : m ≤ lu.length) : nv (lu.drop m) < nv es * S := by
 have a := nv_split lu m hl
 have b := nv_lt dd
 have c := te.len h1
 have e : bp ds.length = bp m * bp (es.length - 1) := by rw [← bp_add]; congr 1; omega
 rw [e] at b
 have h2 : bp m * nv (lu.drop m) ≤ nv ds * S := by omega
 have h3 : nv ds * S < bp m * (bp (es.length - 1) * S) := by rw [← Nat.mul_assoc]; exact Nat.mul_lt_mul_of_pos_right b hS
 have h4 : nv (lu.drop m) < bp (es.length - 1) * S := Nat.lt_of_mul_lt_mul_left (a := bp m) (by omega)
 have h5 := Nat.mul_le_mul_right S c
 omega
theorem DBlk.digat {w : World} {g : Nat} {t : TypeId} {l : List Nat} (h : DBlk w g t l) (hd : Digs l) : DigAt w (some ⟨g, 0, none⟩) l :=
 ⟨hd, fun _ => ⟨_, rfl, fun j hj => by
  have e : (⟨g, 0, none⟩ : Addr).add j = ⟨g, j, none⟩ := by unfold Addr.add; split <;> simp_all
  rw [e]
  exact h.cell hj⟩⟩
theorem DBlk.digtake {w : World} {g : Nat} {t : TypeId} {l : List Nat} (h : DBlk w g t l) (hd : Digs l) {n c : Nat} (hn : n ≤ l.length) (hc : l.length ≤ c) (hm : c ≤ 9223372036854775807) : DigV w (.slice (some ⟨g, 0, none⟩) n c) (l.take n) := by
 have hl : (l.take n).length = n := by rw [List.length_take, Nat.min_eq_left hn]
 refine ⟨_, c, by rw [hl], by omega, hm, hd.take n, fun hp => ⟨_, rfl, fun j hj => ?_⟩⟩
 have e : (⟨g, 0, none⟩ : Addr).add j = ⟨g, j, none⟩ := by unfold Addr.add; split <;> simp_all
 rw [e, h.cell (by omega)]
 simp only [List.getElem_take]
end Go.Hp
namespace Go.Hp
open Go.RowKit
def sz (n : Nat) : Nat := if n = 0 then 0 else Nat.log2 n / 32 + 1
theorem bp_two_pow (k : Nat) : bp k = 2 ^ (32 * k) := by unfold bp; rw [Nat.pow_mul]
theorem lt_bp_sz (n : Nat) : n < bp (sz n) := by
 unfold sz
 split
 ·rename_i h; subst h; exact bp_pos 0
 ·rw [bp_two_pow]
  exact Nat.lt_of_lt_of_le Nat.lt_log2_self (Nat.pow_le_pow_right (by decide) (by omega))
theorem sz_le_of_lt {n k : Nat} (h : n < bp k) : sz n ≤ k := by
 unfold sz
 split
 ·omega
 ·rename_i h0
  rw [bp_two_pow] at h
  have := (Nat.log2_lt h0).2 h
  omega
theorem sz_zero : sz 0 = 0 := rfl
theorem sz_le_iff {n k : Nat} : sz n ≤ k ↔ n < bp k := ⟨fun h => Nat.lt_of_lt_of_le (lt_bp_sz n) (bp_le h), sz_le_of_lt⟩
theorem sz_mono {a b : Nat} (h : a ≤ b) : sz a ≤ sz b := sz_le_of_lt (Nat.lt_of_le_of_lt h (lt_bp_sz b))
theorem sz_mul (a b : Nat) : sz (a * b) ≤ sz a + sz b := by
 apply sz_le_of_lt
 rw [bp_add]
 exact Nat.mul_lt_mul_of_lt_of_le (lt_bp_sz a) (Nat.le_of_lt (lt_bp_sz b)) (bp_pos _)
theorem sz_add (a b : Nat) : sz (a + b) ≤ max (sz a) (sz b) + 1 := by
 apply sz_le_of_lt
 have h1 := Nat.lt_of_lt_of_le (lt_bp_sz a) (bp_le (Nat.le_max_left (sz a) (sz b)))
 have h2 := Nat.lt_of_lt_of_le (lt_bp_sz b) (bp_le (Nat.le_max_right (sz a) (sz b)))
 rw [bp_succ]
 have := bp_pos (max (sz a) (sz b))
 omega
theorem sz_nv {ds : List Nat} (hd : Digs ds) : sz (nv ds) ≤ ds.length := sz_le_of_lt (nv_lt hd)
theorem len_sz {ds : List Nat} (hd : Digs ds) (ht : Top ds) : ds.length = sz (nv ds) := by
 have h1 := sz_nv hd
 have h2 := len_of_lt ht (lt_bp_sz (nv ds))
 omega
theorem sz_small {n : Nat} (h : n < 4294967296) : sz n ≤ 1 := sz_le_of_lt (by rw [bp_one]; exact h)
theorem sz_small2 {n : Nat} (h : n < 18446744073709551616) : sz n ≤ 2 := sz_le_of_lt (by rw [bp_two]; exact h)
theorem NatV.len {w : World} {v : Value} {n : Nat} (h : NatV w v n) : ∃ ds, DigV w v ds ∧ nv ds = n ∧ Top ds ∧ ds.length = sz n := by
 obtain ⟨ds, h1, h2, h3⟩ := h
 refine ⟨ds, h1, h2, h3, ?_⟩
 rw [← h2]
 obtain ⟨_, _, _, _, _, hA⟩ := h1
 exact len_sz hA.1 h3
theorem NatV.num {w : World} {v : Value} {n : Nat} (h : NatV w v n) {l : Nat} (hl : sz n ≤ l) : NumV w v n l := by
 obtain ⟨ds, h1, h2, _, h4⟩ := h.len
 exact ⟨ds, h1, h2, by omega⟩
theorem NumV.sz {w : World} {v : Value} {n l : Nat} (h : NumV w v n l) : sz n ≤ l := by
 obtain ⟨ds, ⟨_, _, _, _, _, hA⟩, h2, h3⟩ := h
 rw [← h2]
 exact Nat.le_trans (sz_nv hA.1) h3
theorem NatV.form {w : World} {v : Value} {n : Nat} (h : NatV w v n) : ∃ A c, v = .slice A (sz n) c ∧ sz n ≤ c ∧ c ≤ 9223372036854775807 := by
 obtain ⟨ds, ⟨A, c, h1, h2, h3, _⟩, _, _, h4⟩ := h.len
 exact ⟨A, c, by rw [h1, h4], by omega, h3⟩
/-! ### Digits outlive every store into a cell that holds no digit -/
def KD (w w' : World) : Prop := ∀ p n, w.cell? p = some (.int .u32 n) → w'.cell? p = some (.int .u32 n)
def NoDig (w : World) (g : Nat) : Prop := ∀ o n, w.cell? ⟨g, o, none⟩ ≠ some (.int .u32 n)
def isDig : Value → Bool
 | .int .u32 _ => true
 | _ => false
section
variable {a b w w' : World} {v : Value}
theorem KD.refl (w : World) : KD w w := fun _ _ h => h
theorem KD.trans {c : World} (h : KD a b) (k : KD b c) : KD a c := fun p n hp => k p n (h p n hp)
theorem Ext.kd (h : Ext a b) : KD a b := fun _ _ hp => h.cell hp
theorem KD.alloc (h : KD a w) (o : Obj) : KD a (w.alloc o) := h.trans ((Ext.refl w).alloc o).kd
theorem KD.drew (h : KD a w) : KD a w.drew := h
theorem KD.drewN (h : KD a w) (n : Nat) : KD a (w.drewN n) := h
theorem KD.set_ (h : KD a w) {g i : Nat} (hg : NoDig w g) (u : Value) : KD a (w.setCell ⟨g, i, none⟩ u) := by
 refine h.trans fun p n hp => ?_
 by_cases e : p = ⟨g, i, none⟩
 ·subst e; exact absurd hp (hg i n)
 ·rw [World.cell?_setCell_other w ⟨g, i, none⟩ p u (fun e' => e e'.symm)]; exact hp
theorem NoDig.set_ {g : Nat} (hg : NoDig w g) {h i : Nat} {u : Value} (hu : isDig u = false) : NoDig (w.setCell ⟨h, i, none⟩ u) g := by
 intro o n hc
 by_cases e : (⟨g, o, none⟩ : Addr) = ⟨h, i, none⟩
 ·cases e
  have h1 : (w.setCell ⟨g, i, none⟩ u).cell? ⟨g, i, none⟩ = (w.cell? ⟨g, i, none⟩).map fun _ => u := by
   unfold World.cell? World.setCell
   simp only [Array.getElem?_modify]
   cases hh : w.heap[g]? with
   | none => simp
   | some ob =>
    cases ob with
    | cells c e f =>
     simp only [Option.map_some, Option.isSome_none, Bool.false_eq_true, if_false, Array.getElem?_setIfInBounds]
     by_cases hi : i < c.size <;> simp [hi]
    | _ => simp
  rw [h1] at hc
  cases hcc : w.cell? ⟨g, i, none⟩ with
  | none => rw [hcc] at hc; cases hc
  | some x => rw [hcc] at hc; cases hc; cases hu
 ·rw [World.cell?_setCell_other w ⟨h, i, none⟩ ⟨g, o, none⟩ u (fun e' => e e'.symm)] at hc
  exact hg o n hc
theorem NoDig.ext {g : Nat} (h : NoDig a g) (e : Ext a w) (hg : g < a.heap.size) : NoDig w g := fun o n hc => h o n (by rw [← e.cells g o hg]; exact hc)
theorem NoDig.new (w : World) (cs : Array Value) (t : TypeId) (h : cs.all (fun u => !isDig u) = true) : NoDig (w.alloc (.cells cs t)) w.heap.size := by
 intro o n hc
 rw [cell_of_row _ w.heap.size o cs t (0, 0) (heap_alloc_new w _)] at hc
 have := Array.all_eq_true_iff_forall_mem.1 h _ (Array.mem_of_getElem? hc)
 simp [isDig] at this
theorem NoDig.alloc {g : Nat} (h : NoDig w g) (hg : g < w.heap.size) (o : Obj) : NoDig (w.alloc o) g := h.ext ((Ext.refl w).alloc o) hg
theorem NoDig.drew {g : Nat} (h : NoDig w g) : NoDig w.drew g := h
theorem NoDig.drewN {g : Nat} (h : NoDig w g) (n : Nat) : NoDig (w.drewN n) g := h
theorem DigAt.kd {A : Option Addr} {ds : List Nat} (h : DigAt w A ds) (e : KD w w') : DigAt w' A ds :=
 ⟨h.1, fun hl => by obtain ⟨a, ha, hc⟩ := h.2 hl; exact ⟨a, ha, fun j hj => e _ _ (hc j hj)⟩⟩
theorem DigV.kd {ds : List Nat} (h : DigV w v ds) (e : KD w w') : DigV w' v ds := by
 obtain ⟨A, c, h1, h2, h3, h4⟩ := h; exact ⟨A, c, h1, h2, h3, h4.kd e⟩
theorem IntV.kd {neg : Bool} {ds : List Nat} (h : IntV w v neg ds) (e : KD w w') : IntV w' v neg ds := by
 obtain ⟨s, h1, h2⟩ := h; exact ⟨s, h1, h2.kd e⟩
theorem NumV.kd {n l : Nat} (h : NumV w v n l) (e : KD w w') : NumV w' v n l := by obtain ⟨d, h1, h2⟩ := h; exact ⟨d, h1.kd e, h2⟩
theorem NatV.kd {n : Nat} (h : NatV w v n) (e : KD w w') : NatV w' v n := by obtain ⟨d, h1, h2⟩ := h; exact ⟨d, h1.kd e, h2⟩
theorem HasZ.kd {x : Int} (h : HasZ w v x) (e : KD w w') : HasZ w' v x := by obtain ⟨n, d, h1, h2⟩ := h; exact ⟨n, d, h1.kd e, h2⟩
theorem IsZ.kd {x : Int} (h : IsZ w v x) (e : KD w w') : IsZ w' v x := by obtain ⟨n, d, h1, h2⟩ := h; exact ⟨n, d, h1.kd e, h2⟩
theorem IsZ.mk {N : Nat} {neg : Bool} (h : NatV w v N) (hn : neg = true → N ≠ 0) : IsZ w (.agg #[.bool neg, v]) (if neg then -(N : Int) else N) := by
 obtain ⟨ds, h1, rfl, h3⟩ := h
 exact ⟨neg, ds, ⟨v, rfl, h1⟩, rfl, h3, fun hh e => hn hh (by rw [e]; rfl)⟩
end
end Go.Hp
namespace Go.Hp
open Go.RowKit
theorem HasZ.form {w : World} {v : Value} {x : Int} (h : HasZ w v x) : ∃ neg A n c N, v = .agg #[.bool neg, .slice A n c] ∧ n ≤ c ∧ c ≤ 9223372036854775807 ∧ n ≤ 1099511627776 ∧ NumV w (.slice A n c) N n ∧ x = if neg then -(N : Int) else N := by
 obtain ⟨neg, ds, ⟨s, rfl, hD⟩, rfl, hl⟩ := h
 have hD' := hD
 obtain ⟨A, c, rfl, h1, h2, h3⟩ := hD
 exact ⟨neg, A, ds.length, c, nv ds, rfl, h1, h2, hl, ⟨ds, hD', rfl, Nat.le_refl _⟩, rfl⟩
theorem IsZ.form {w : World} {v : Value} {x : Int} (h : IsZ w v x) : ∃ A c, v = .agg #[.bool (decide (x < 0)), .slice A (sz x.natAbs) c] ∧ sz x.natAbs ≤ c ∧ c ≤ 9223372036854775807 ∧ NatV w (.slice A (sz x.natAbs) c) x.natAbs := by
 obtain ⟨neg, ds, ⟨s, rfl, hD⟩, rfl, h1, h2⟩ := h
 have hn : (iv neg ds).natAbs = nv ds := by unfold iv; cases neg <;> simp
 have hV : NatV w s (iv neg ds).natAbs := ⟨ds, hD, hn.symm, h1⟩
 obtain ⟨A, c, rfl, q1, q2⟩ := hV.form
 refine ⟨A, c, ?_, q1, q2, hV⟩
 have : neg = decide (iv neg ds < 0) := by
  unfold iv
  cases neg with
  | false => simp
  | true =>
   have hne := h2 rfl
   have h0 : nv ds ≠ 0 := by
    intro e
    obtain ⟨_, _, _, _, _, hA⟩ := hD
    have := len_sz hA.1 h1
    rw [e, sz_zero] at this
    exact hne (List.length_eq_zero_iff.1 this)
   simp; omega
 rw [← this]
theorem IsZ.has {w : World} {v : Value} {x : Int} (h : IsZ w v x) (hs : sz x.natAbs ≤ 1099511627776) : HasZ w v x := by
 obtain ⟨neg, ds, h1, h2, h3⟩ := h
 refine ⟨neg, ds, h1, h2, ?_⟩
 obtain ⟨s, _, hD⟩ := h1
 obtain ⟨_, _, _, _, _, hA⟩ := hD
 have := len_sz hA.1 h3.1
 have hn : x.natAbs = nv ds := by rw [← h2]; unfold iv; cases neg <;> simp
 rw [this, ← hn]; exact hs
theorem HasZ.sz {w : World} {v : Value} {x : Int} (h : HasZ w v x) : sz x.natAbs ≤ 1099511627776 := by
 obtain ⟨neg, A, n, c, N, rfl, _, _, h1, h2, rfl⟩ := h.form
 have := h2.sz
 cases neg <;> simp <;> omega
theorem sz_pos {n : Nat} (h : n ≠ 0) : 0 < sz n := by
 have := lt_bp_sz n
 rcases Nat.eq_zero_or_pos (Hp.sz n) with e | e
 ·rw [e, bp_zero] at this; omega
 ·exact e
theorem IsZ.cells {w : World} {v : Value} {x : Int} (h : IsZ w v x) : ∃ b A n c, v = .agg #[.bool b, .slice A n c] := by
 obtain ⟨A, c, rfl, _⟩ := h.form; exact ⟨_, _, _, _, rfl⟩
theorem Ext.a1 {w w' : World} {o : Obj} (h : Ext (w.alloc o) w') : Ext w w' := ((Ext.refl w).alloc o).trans h
theorem Ext.a2 {w w' : World} {o p : Obj} (h : Ext ((w.alloc o).alloc p) w') : Ext w w' := h.a1.a1
theorem Ext.a3 {w w' : World} {o p q : Obj} (h : Ext (((w.alloc o).alloc p).alloc q) w') : Ext w w' := h.a1.a1.a1
theorem NoDig.at_ {w w' : World} {cs : Array Value} {t : TypeId} (hx : Ext (w.alloc (.cells cs t)) w') {g : Nat} (hg : g = w.heap.size) (h : cs.all (fun u => !isDig u) = true) : NoDig w' g := by
 subst hg; exact (NoDig.new w cs t h).ext hx (by simp)
theorem Ext.box {w w' : World} {cs : Array Value} {t : TypeId} (h : Ext (w.alloc (.cells cs t)) w') {g i : Nat} {v : Value} (hg : g = w.heap.size) (hv : cs[i]? = some v) : w'.cell? ⟨g, i, none⟩ = some v := by
 subst hg; exact h.cell ((cell_of_row _ w.heap.size i cs t (0, 0) (heap_alloc_new w _)).trans hv)
theorem fin_z {w w1 : World} {g n c : Nat} {A : Option Addr} {b : Bool} {x : Int} (h : IsZ w1 (.agg #[.bool b, .slice A n c]) x) (hx : Ext w w1) (hn : NoDig w1 g) (hg : w.heap.size ≤ g) :
  Gives w (fun r w' => IsZ w' r x) (.returned (.agg #[.bool b, .slice A n c])) ((w1.setCell ⟨g, 0, none⟩ (.bool b)).setCell ⟨g, 1, none⟩ (.slice A n c)) :=
 Gives.mk (h.kd (((KD.refl w1).set_ (i := 0) hn (.bool b)).set_ (i := 1) (hn.set_ rfl) (.slice A n c))) ((hx.setCell _ _ hg).setCell _ _ hg)
end Go.Hp
namespace Go.Hp
open Go.RowKit
def Box (w : World) (g : Nat) (t : TypeId) (cs : Array Value) : Prop := w.heap[g]? = some (.cells cs t (0, 0)) ∧ cs.all (fun u => !isDig u) = true
section
variable {w w' : World} {g : Nat} {t : TypeId} {cs : Array Value}
theorem Box.lt (h : Box w g t cs) : g < w.heap.size := by
 rcases Nat.lt_or_ge g w.heap.size with hlt | hge
 ·exact hlt
 ·have := h.1; rw [Array.getElem?_eq_none hge] at this; cases this
theorem Box.cell (h : Box w g t cs) {i : Nat} {v : Value} (hv : cs[i]? = some v) : w.cell? ⟨g, i, none⟩ = some v :=
 (cell_of_row w g i cs t (0, 0) h.1).trans hv
theorem Box.cells2 {a b : Value} (h : Box w g t #[a, b]) : w.cell? ⟨g, 0, none⟩ = some a ∧ w.cell? ⟨g, 1, none⟩ = some b := ⟨h.cell rfl, h.cell rfl⟩
theorem Box.frozen (h : Box w g t cs) (i : Nat) : w.frozen? ⟨g, i, none⟩ = false := by
 have := h.1
 simp [World.frozen?, this]
theorem Box.new (w : World) (t : TypeId) (cs : Array Value) (h : cs.all (fun u => !isDig u) = true) : Box (w.alloc (.cells cs t)) w.heap.size t cs := ⟨heap_alloc_new w _, h⟩
theorem Box.set_ (h : Box w g t cs) (i : Nat) {u : Value} (hu : isDig u = false) : Box (w.setCell ⟨g, i, none⟩ u) g t (cs.setIfInBounds i u) := by
 obtain ⟨h1, h2⟩ := h
 refine ⟨by simp [World.setCell, Array.getElem?_modify, h1], ?_⟩
 rw [Array.all_eq_true] at h2 ⊢
 intro j hj
 rw [Array.getElem_setIfInBounds (by simpa using hj)]
 split
 ·simp [hu]
 ·exact h2 j (by simpa using hj)
theorem Box.ext (h : Box w g t cs) (e : Ext w w') : Box w' g t cs := ⟨e.blk h.1, h.2⟩
theorem Box.alloc (h : Box w g t cs) (o : Obj) : Box (w.alloc o) g t cs := ⟨(Below.heap_alloc w o g h.lt).trans h.1, h.2⟩
theorem Box.far (h : Box w g t cs) {p : Addr} (hp : g ≠ p.block) (u : Value) : Box (w.setCell p u) g t cs := ⟨(Below.heap_setCell w p u g hp).trans h.1, h.2⟩
theorem Box.nodig (h : Box w g t cs) : NoDig w g := by
 intro o n hc
 rw [cell_of_row w g o cs t (0, 0) h.1] at hc
 have := Array.all_eq_true_iff_forall_mem.1 h.2 _ (Array.mem_of_getElem? hc)
 simp [isDig] at this
theorem Box.drewN (h : Box w g t cs) (n : Nat) : Box (w.drewN n) g t cs := h
end
def Upd (G : List Nat) (w w' : World) : Prop := (∀ g o, g ∉ G → w.heap[g]? = some o → w'.heap[g]? = some o) ∧ KD w w' ∧ ∀ a, Ext a w → (∀ g ∈ G, a.heap.size ≤ g) → Ext a w'
section
variable {w w' : World} {g : Nat} {t : TypeId} {cs : Array Value} {G : List Nat}
theorem Upd.kd (h : Upd G w w') : KD w w' := h.2.1
theorem Upd.from_ (h : Upd G w w') {a : World} (e : Ext a w) (hg : ∀ g ∈ G, a.heap.size ≤ g) : Ext a w' := h.2.2 a e hg
theorem Upd.refl (G : List Nat) (w : World) : Upd G w w := ⟨fun _ _ _ h => h, KD.refl w, fun _ h _ => h⟩
theorem Upd.trans {w'' : World} (h : Upd G w w') (k : Upd G w' w'') : Upd G w w'' :=
 ⟨fun g o hg ho => k.1 g o hg (h.1 g o hg ho), h.kd.trans k.kd, fun a e hg => k.2.2 a (h.2.2 a e hg) hg⟩
theorem Upd.of_ext (e : Ext w w') : Upd G w w' := ⟨fun _ _ _ h => e.blk h, e.kd, fun _ h _ => h.trans e⟩
theorem Upd.set_ (hn : NoDig w g) (i : Nat) (u : Value) : Upd [g] w (w.setCell ⟨g, i, none⟩ u) :=
 ⟨fun g' o hg ho => (Below.heap_setCell w ⟨g, i, none⟩ u g' (by simpa using hg)).trans ho, (KD.refl w).set_ hn u, fun a e hg => e.setCell _ _ (hg g (by simp))⟩
theorem Box.upd (h : Box w g t cs) (U : Upd G w w') (hg : g ∉ G) : Box w' g t cs := ⟨U.1 g _ hg h.1, h.2⟩
theorem Box.put2 {a b : Value} (h : Box w g t #[a, b]) (u v : Value) (hu : isDig u = false) (hv : isDig v = false) :
  ∃ W, W = (w.setCell ⟨g, 0, none⟩ u).setCell ⟨g, 1, none⟩ v ∧ Box W g t #[u, v] ∧ Upd [g] w W :=
 ⟨_, rfl, (h.set_ 0 hu).set_ 1 hv, (Upd.set_ h.nodig 0 u).trans (Upd.set_ (h.set_ 0 hu).nodig 1 v)⟩
def NewAt (w : World) (v : Value) (base : Nat) (cs : Array Value) (t : TypeId) : Prop := ∃ g, v = .pointer (some ⟨g, 0, none⟩) ∧ base ≤ g ∧ Box w g t cs
theorem NewAt.ext {v : Value} {base : Nat} (h : NewAt w v base cs t) (e : Ext w w') : NewAt w' v base cs t := by obtain ⟨g, h1, h2, h3⟩ := h; exact ⟨g, h1, h2, h3.ext e⟩
theorem NewAt.mk {base : Nat} (hb : base ≤ w.heap.size) (h : cs.all (fun u => !isDig u) = true) : NewAt (w.alloc (.cells cs t)) (.pointer (some ⟨w.heap.size, 0, none⟩)) base cs t := ⟨_, rfl, hb, Box.new w t cs h⟩
theorem Box.made (w : World) (t : TypeId) (cs : Array Value) (h : cs.all (fun u => !isDig u) = true) :
  ∃ W, W = w.alloc (.cells cs t) ∧ Box W w.heap.size t cs ∧ Ext w W := ⟨_, rfl, Box.new w t cs h, (Ext.refl w).alloc _⟩
end
end Go.Hp
namespace Go.Hp
open Go.RowKit
def qsz (q : Rat) : Nat := max (sz q.num.natAbs) (sz q.den)
def IsQ (w : World) (v : Value) (q : Rat) : Prop := ∃ b A n c b' A' n' c', v = .agg #[.bool b, .slice A n c, .bool b', .slice A' n' c'] ∧ IsZ w (.agg #[.bool b, .slice A n c]) q.num ∧ IsZ w (.agg #[.bool b', .slice A' n' c']) (q.den : Int)
def HasQ (w : World) (v : Value) (q : Rat) : Prop := ∃ b A n c b' A' n' c' x y, v = .agg #[.bool b, .slice A n c, .bool b', .slice A' n' c'] ∧ HasZ w (.agg #[.bool b, .slice A n c]) x ∧ HasZ w (.agg #[.bool b', .slice A' n' c']) y ∧ sz x.natAbs ≤ 274877906944 ∧ sz y.natAbs ≤ 274877906944 ∧ q = Rat.divInt x y
theorem IsQ.kd {w w' : World} {v : Value} {q : Rat} (h : IsQ w v q) (k : KD w w') : IsQ w' v q := by
 obtain ⟨b, A, n, c, b', A', n', c', rfl, h1, h2⟩ := h; exact ⟨b, A, n, c, b', A', n', c', rfl, h1.kd k, h2.kd k⟩
theorem HasQ.kd {w w' : World} {v : Value} {q : Rat} (h : HasQ w v q) (k : KD w w') : HasQ w' v q := by
 obtain ⟨b, A, n, c, b', A', n', c', x, y, rfl, h1, h2, h3⟩ := h; exact ⟨b, A, n, c, b', A', n', c', x, y, rfl, h1.kd k, h2.kd k, h3⟩
theorem IsQ.ext {w w' : World} {v : Value} {q : Rat} (h : IsQ w v q) (k : Ext w w') : IsQ w' v q := h.kd k.kd
theorem HasQ.ext {w w' : World} {v : Value} {q : Rat} (h : HasQ w v q) (k : Ext w w') : HasQ w' v q := h.kd k.kd
theorem IsQ.has {w : World} {v : Value} {q : Rat} (h : IsQ w v q) (hs : qsz q ≤ 274877906944) : HasQ w v q := by
 obtain ⟨b, A, n, c, b', A', n', c', rfl, h1, h2⟩ := h
 unfold qsz at hs
 have e : ((q.den : Nat) : Int).natAbs = q.den := by simp
 exact ⟨b, A, n, c, b', A', n', c', _, _, rfl, h1.has (by omega), h2.has (by rw [e]; omega), by omega, by rw [e]; omega, (Rat.num_divInt_den q).symm⟩
theorem num_divInt_le (x y : Int) : (Rat.divInt x y).num.natAbs ≤ x.natAbs := by
 rw [Rat.num_divInt]
 by_cases h : y = 0
 ·subst h; simp
 ·rw [Int.natAbs_ediv_of_dvd]
  ·refine Nat.le_trans (Nat.div_le_self _ _) ?_
   rw [Int.natAbs_mul, Int.natAbs_sign_of_ne_zero h, Nat.one_mul]
   exact Nat.le_refl _
  ·exact Int.dvd_trans (Int.gcd_dvd_right ..) (Int.dvd_mul_left ..)
theorem den_divInt_le (x y : Int) (h : y ≠ 0) : (Rat.divInt x y).den ≤ y.natAbs := by
 rw [Rat.den_divInt, if_neg h]; exact Nat.div_le_self _ _
theorem qsz_divInt {x y : Int} {k : Nat} (hx : sz x.natAbs ≤ k) (hy : sz y.natAbs ≤ k) (hk : 1 ≤ k) : qsz (Rat.divInt x y) ≤ k := by
 unfold qsz
 have h1 := sz_mono (num_divInt_le x y)
 by_cases h : y = 0
 ·subst h
  have : sz (Rat.divInt x 0).den = 1 := by rw [Rat.divInt_zero]; rfl
  rw [this]; omega
 ·have h2 := sz_mono (den_divInt_le x y h)
  omega
theorem HasQ.qsz {w : World} {v : Value} {q : Rat} (h : HasQ w v q) : qsz q ≤ 274877906944 := by
 obtain ⟨b, A, n, c, b', A', n', c', x, y, rfl, h1, h2, h3, h4, rfl⟩ := h
 exact qsz_divInt h3 h4 (by omega)
theorem qsz_pos (q : Rat) : 1 ≤ qsz q := by
 have := sz_pos q.den_nz
 unfold qsz; omega
theorem qsz_mul (a b : Rat) : qsz (a * b) ≤ qsz a + qsz b := by
 rw [Rat.mul_def', ← Rat.divInt_ofNat]
 have h1 := qsz_pos a
 have h2 := sz_mul a.num.natAbs b.num.natAbs
 have h3 := sz_mul a.den b.den
 refine qsz_divInt ?_ ?_ (by omega)
 ·rw [Int.natAbs_mul]; unfold qsz; omega
 ·simp only [Int.natAbs_natCast]; unfold qsz; omega
theorem qsz_add (a b : Rat) : qsz (a + b) ≤ qsz a + qsz b + 1 := by
 rw [Rat.add_def', ← Rat.divInt_ofNat]
 have h1 := qsz_pos a
 have h3 := sz_mul a.den b.den
 refine qsz_divInt ?_ ?_ (by omega)
 ·have h4 := sz_mono (Int.natAbs_add_le (a.num * b.den) (b.num * a.den))
  have h5 := sz_add (a.num * b.den).natAbs (b.num * a.den).natAbs
  rw [Int.natAbs_mul, Int.natAbs_mul, Int.natAbs_natCast, Int.natAbs_natCast] at h5
  have h6 := sz_mul a.num.natAbs b.den
  have h7 := sz_mul b.num.natAbs a.den
  rw [Int.natAbs_mul, Int.natAbs_mul, Int.natAbs_natCast, Int.natAbs_natCast] at h4
  unfold qsz; omega
 ·simp only [Int.natAbs_natCast]; unfold qsz; omega
theorem qsz_neg (a : Rat) : qsz (-a) = qsz a := by unfold qsz; simp
theorem qsz_inv (a : Rat) : qsz (a⁻¹) ≤ qsz a := by
 rw [Rat.inv_def]
 have h1 := qsz_pos a
 refine qsz_divInt ?_ ?_ h1
 ·simp only [Int.natAbs_natCast]; unfold qsz; omega
 ·unfold qsz; omega
theorem qsz_div (a b : Rat) : qsz (a / b) ≤ qsz a + qsz b := by
 rw [Rat.div_def]; have := qsz_mul a b⁻¹; have := qsz_inv b; omega
end Go.Hp
namespace Go.Hp
open Go.RowKit
section
variable {α : Type}
def RowAt (k : Nat) (rd : World → Value → α → Prop) (base : Nat) (w : World) (A : Option Addr) (l : List α) : Prop :=
 0 < l.length → ∃ g o, A = some ⟨g, o, none⟩ ∧ base ≤ g ∧ ∀ j (h : j < l.length), ∃ cs : Array Value, cs.size = k ∧ (∀ i, i < k → w.cell? ⟨g, o + j * k + i, none⟩ = cs[i]?) ∧ rd w (.agg cs) l[j]
def RowV (k : Nat) (rd : World → Value → α → Prop) (base : Nat) (w : World) (v : Value) (l : List α) : Prop :=
 ∃ A c, v = .slice A l.length c ∧ l.length ≤ c ∧ c ≤ 9223372036854775807 ∧ RowAt k rd base w A l
variable {k : Nat} {rd : World → Value → α → Prop} {base : Nat} {w w' : World} {v : Value} {l : List α} {A : Option Addr}
theorem RowAt.ext (h : RowAt k rd base w A l) (e : Ext w w') (hr : ∀ u x, rd w u x → rd w' u x) : RowAt k rd base w' A l := fun h0 => by
 obtain ⟨g, o, ha, hb, hc⟩ := h h0
 refine ⟨g, o, ha, hb, fun j hj => ?_⟩
 obtain ⟨cs, h1, h2, h3⟩ := hc j hj
 refine ⟨cs, h1, fun i hi => ?_, hr _ _ h3⟩
 have hs : cs[i]? = some cs[i] := Array.getElem?_eq_getElem (by omega)
 rw [hs]
 exact e.cell ((h2 i hi).trans hs)
theorem RowV.ext (h : RowV k rd base w v l) (e : Ext w w') (hr : ∀ u x, rd w u x → rd w' u x) : RowV k rd base w' v l := by
 obtain ⟨A, c, h1, h2, h3, h4⟩ := h
 exact ⟨A, c, h1, h2, h3, h4.ext e hr⟩
theorem RowAt.base_le (h : RowAt k rd base w A l) {b : Nat} (hb : b ≤ base) : RowAt k rd b w A l := fun h0 => by
 obtain ⟨g, o, ha, hb', hc⟩ := h h0; exact ⟨g, o, ha, Nat.le_trans hb hb', hc⟩
theorem RowV.base_le (h : RowV k rd base w v l) {b : Nat} (hb : b ≤ base) : RowV k rd b w v l := by
 obtain ⟨A, c, h1, h2, h3, h4⟩ := h
 exact ⟨A, c, h1, h2, h3, h4.base_le hb⟩
theorem RowV.nil (k : Nat) (rd : World → Value → α → Prop) (base : Nat) (w : World) : RowV k rd base w (.slice none 0 0) [] :=
 ⟨none, 0, rfl, Nat.le_refl 0, by omega, fun h => absurd h (by simp)⟩
theorem RowV.upd {G : List Nat} (h : RowV k rd base w v l) (U : Upd G w w') (hG : ∀ g ∈ G, g < base) (hr : ∀ u x, rd w u x → rd w' u x) : RowV k rd base w' v l := by
 obtain ⟨A, c, h1, h2, h3, h4⟩ := h
 refine ⟨A, c, h1, h2, h3, fun h0 => ?_⟩
 obtain ⟨g, o, ha, hb, hc⟩ := h4 h0
 refine ⟨g, o, ha, hb, fun j hj => ?_⟩
 obtain ⟨cs, q1, q2, q3⟩ := hc j hj
 refine ⟨cs, q1, fun i hi => ?_, hr _ _ q3⟩
 rw [← q2 i hi]
 have hs : cs[i]? = some cs[i] := Array.getElem?_eq_getElem (by omega)
 have hcell := (q2 i hi).trans hs
 have hlt := World.block_lt_of_cell? w _ hcell
 have hblk := U.1 g w.heap[g] (fun hm => by have := hG g hm; omega) (Array.getElem?_eq_getElem hlt)
 unfold World.cell?
 simp only [hblk, Array.getElem?_eq_getElem hlt]
theorem RowAt.take (h : RowAt k rd base w A l) (n : Nat) : RowAt k rd base w A (l.take n) := fun h0 => by
 have hl : (l.take n).length ≤ l.length := List.length_take_le' _ _
 obtain ⟨g, o, ha, hb, hc⟩ := h (by omega)
 refine ⟨g, o, ha, hb, fun j hj => ?_⟩
 obtain ⟨cs, q1, q2, q3⟩ := hc j (by omega)
 exact ⟨cs, q1, q2, by rw [List.getElem_take]; exact q3⟩
theorem RowV.len (h : RowV k rd base w v l) : ∃ A c, v = .slice A l.length c := by obtain ⟨A, c, h1, _⟩ := h; exact ⟨A, c, h1⟩
end
/-! ### fractions -/
def QsV (base : Nat) (w : World) (v : Value) (l : List Rat) : Prop := RowV 4 IsQ base w v l
def QsAt (base : Nat) (w : World) (A : Option Addr) (l : List Rat) : Prop := RowAt 4 IsQ base w A l
def HsV (base : Nat) (w : World) (v : Value) (l : List Rat) : Prop := RowV 4 HasQ base w v l
def HsAt (base : Nat) (w : World) (A : Option Addr) (l : List Rat) : Prop := RowAt 4 HasQ base w A l
theorem QsV.ext {base : Nat} {w w' : World} {v : Value} {l : List Rat} (h : QsV base w v l) (e : Ext w w') : QsV base w' v l := RowV.ext h e fun _ _ q => q.ext e
theorem HsV.ext {base : Nat} {w w' : World} {v : Value} {l : List Rat} (h : HsV base w v l) (e : Ext w w') : HsV base w' v l := RowV.ext h e fun _ _ q => q.ext e
theorem HsAt.ext {base : Nat} {w w' : World} {A : Option Addr} {l : List Rat} (h : HsAt base w A l) (e : Ext w w') : HsAt base w' A l := RowAt.ext h e fun _ _ q => q.ext e
theorem QsAt.ext {base : Nat} {w w' : World} {A : Option Addr} {l : List Rat} (h : QsAt base w A l) (e : Ext w w') : QsAt base w' A l := RowAt.ext h e fun _ _ q => q.ext e
theorem agg4 {cs : Array Value} {a b c d : Value} (e : Value.agg cs = .agg #[a, b, c, d]) : cs = #[a, b, c, d] := by injection e
theorem HsAt.at_ {base : Nat} {w : World} {A : Option Addr} {l : List Rat} (h : HsAt base w A l) {j : Nat} (hj : j < l.length) :
  ∃ g o b A1 n c b' A1' n' c', A = some ⟨g, o, none⟩ ∧ base ≤ g ∧ w.cell? ⟨g, o + j * 4, none⟩ = some (.bool b) ∧ w.cell? ⟨g, o + j * 4 + 1, none⟩ = some (.slice A1 n c) ∧ w.cell? ⟨g, o + j * 4 + 2, none⟩ = some (.bool b') ∧ w.cell? ⟨g, o + j * 4 + 3, none⟩ = some (.slice A1' n' c') ∧ HasQ w (.agg #[.bool b, .slice A1 n c, .bool b', .slice A1' n' c']) l[j] := by
 obtain ⟨g, o, ha, hb, hc⟩ := h (by omega)
 obtain ⟨cs, q1, q2, q3⟩ := hc j hj
 have hf := q3
 obtain ⟨b, A1, n, c, b', A1', n', c', x, y, e, _⟩ := hf
 obtain rfl := agg4 e
 exact ⟨g, o, b, A1, n, c, b', A1', n', c', ha, hb, q2 0 (by omega), q2 1 (by omega), q2 2 (by omega), q2 3 (by omega), q3⟩
theorem QsAt.at_ {base : Nat} {w : World} {A : Option Addr} {l : List Rat} (h : QsAt base w A l) {j : Nat} (hj : j < l.length) :
  ∃ g o b A1 n c b' A1' n' c', A = some ⟨g, o, none⟩ ∧ base ≤ g ∧ w.cell? ⟨g, o + j * 4, none⟩ = some (.bool b) ∧ w.cell? ⟨g, o + j * 4 + 1, none⟩ = some (.slice A1 n c) ∧ w.cell? ⟨g, o + j * 4 + 2, none⟩ = some (.bool b') ∧ w.cell? ⟨g, o + j * 4 + 3, none⟩ = some (.slice A1' n' c') ∧ IsQ w (.agg #[.bool b, .slice A1 n c, .bool b', .slice A1' n' c']) l[j] := by
 obtain ⟨g, o, ha, hb, hc⟩ := h (by omega)
 obtain ⟨cs, q1, q2, q3⟩ := hc j hj
 have hf := q3
 obtain ⟨b, A1, n, c, b', A1', n', c', e, _⟩ := hf
 obtain rfl := agg4 e
 exact ⟨g, o, b, A1, n, c, b', A1', n', c', ha, hb, q2 0 (by omega), q2 1 (by omega), q2 2 (by omega), q2 3 (by omega), q3⟩
def trimR (l : List Rat) : List Rat := (l.reverse.dropWhile (· == 0)).reverse
theorem trimR_snoc_zero (l : List Rat) : trimR (l ++ [0]) = trimR l := by simp [trimR]
theorem trimR_snoc (l : List Rat) (d : Rat) (h : d ≠ 0) : trimR (l ++ [d]) = l ++ [d] := by simp [trimR, h]
theorem snoc_ind {α : Type} {p : List α → Prop} (h0 : p []) (h1 : ∀ l d, p l → p (l ++ [d])) : ∀ l, p l := by
 intro l
 have := List.reverse_reverse l
 generalize l.reverse = m at this
 subst this
 induction m with
 | nil => exact h0
 | cons a m ih => rw [List.reverse_cons]; exact h1 _ _ ih
theorem trimR_prefix (l : List Rat) : trimR l = l.take (trimR l).length := by
 refine snoc_ind (p := fun l => trimR l = l.take (trimR l).length) rfl (fun l d ih => ?_) l
 by_cases h : d = 0
 ·subst h
  rw [trimR_snoc_zero]
  have hl : (trimR l).length ≤ l.length := by rw [ih]; exact List.length_take_le' _ _
  rw [List.take_append_of_le_length hl]; exact ih
 ·rw [trimR_snoc _ _ h, List.take_of_length_le (Nat.le_refl _)]
theorem trimR_len (l : List Rat) : (trimR l).length ≤ l.length := by rw [trimR_prefix]; exact List.length_take_le' _ _
theorem trimR_take {l : List Rat} {m : Nat} (hm : m ≤ l.length) (hz : ∀ j, m ≤ j → (h : j < l.length) → l[j] = 0) (hlast : ∀ h : m - 1 < l.length, 0 < m → l[m - 1] ≠ 0) : trimR l = l.take m := by
 have h1 : l = l.take m ++ List.replicate (l.length - m) 0 := by
  apply List.ext_getElem
  ·simp; omega
  ·intro i h1 h2
   rw [List.getElem_append]
   split
   ·simp
   ·rename_i h; simp at h; simp; exact hz i (by omega) h1
 have h2 : ∀ n (xs : List Rat), trimR (xs ++ List.replicate n 0) = trimR xs := by
  intro n
  induction n with
  | zero => intro xs; simp
  | succ n ih => intro xs; rw [List.replicate_succ', ← List.append_assoc, trimR_snoc_zero, ih]
 have h3 : trimR (l.take m) = l.take m := by
  rcases Nat.eq_zero_or_pos m with h0 | h0
  ·subst h0; rfl
  ·obtain ⟨m, rfl⟩ : ∃ k, m = k + 1 := ⟨m - 1, by omega⟩
   rw [List.take_succ_eq_append_getElem (by omega)]
   exact trimR_snoc _ _ (hlast (by omega) h0)
 calc trimR l = trimR (l.take m ++ List.replicate (l.length - m) 0) := by rw [← h1]
  _ = _ := by rw [h2, h3]
end Go.Hp
namespace Go.Hp
open Go.RowKit
def zrat : Value := .agg #[.bool false, .slice none 0 0, .bool false, .slice none 0 0]
def ElO (w : World) (v : Value) : Option Rat → Prop
 | none => v = zrat
 | some q => IsQ w v q
theorem ElO.kd {w w' : World} {v : Value} {x : Option Rat} (h : ElO w v x) (k : KD w w') : ElO w' v x := by
 cases x with
 | none => exact h
 | some q => exact IsQ.kd h k
theorem ElO.form {w : World} {v : Value} {x : Option Rat} (h : ElO w v x) : ∃ b A n c b' A' n' c', v = .agg #[.bool b, .slice A n c, .bool b', .slice A' n' c'] := by
 cases x with
 | none => exact ⟨_, _, _, _, _, _, _, _, h⟩
 | some q => obtain ⟨b, A, n, c, b', A', n', c', e, _⟩ := h; exact ⟨_, _, _, _, _, _, _, _, e⟩
def QArr (w : World) (g : Nat) (t : TypeId) (l : List (Option Rat)) : Prop :=
 ∃ cs, Box w g t cs ∧ l.length * 4 ≤ cs.size ∧ ∀ j (h : j < l.length), ∃ b A n c b' A' n' c', cs[j * 4]? = some (.bool b) ∧ cs[j * 4 + 1]? = some (.slice A n c) ∧ cs[j * 4 + 2]? = some (.bool b') ∧ cs[j * 4 + 3]? = some (.slice A' n' c') ∧ ElO w (.agg #[.bool b, .slice A n c, .bool b', .slice A' n' c']) l[j]
section
variable {w w' : World} {g : Nat} {t : TypeId} {l : List (Option Rat)}
theorem QArr.lt (h : QArr w g t l) : g < w.heap.size := by obtain ⟨cs, h1, _⟩ := h; exact h1.lt
theorem QArr.frozen (h : QArr w g t l) (i : Nat) : w.frozen? ⟨g, i, none⟩ = false := by obtain ⟨cs, h1, _⟩ := h; exact h1.frozen i
theorem QArr.ext (h : QArr w g t l) (e : Ext w w') : QArr w' g t l := by
 obtain ⟨cs, h1, h2, h3⟩ := h
 refine ⟨cs, h1.ext e, h2, fun j hj => ?_⟩
 obtain ⟨b, A, n, c, b', A', n', c', q0, q1, q2, q3, q⟩ := h3 j hj
 exact ⟨b, A, n, c, b', A', n', c', q0, q1, q2, q3, q.kd e.kd⟩
theorem QArr.upd {G : List Nat} (h : QArr w g t l) (U : Upd G w w') (hg : g ∉ G) : QArr w' g t l := by
 obtain ⟨cs, h1, h2, h3⟩ := h
 refine ⟨cs, h1.upd U hg, h2, fun j hj => ?_⟩
 obtain ⟨b, A, n, c, b', A', n', c', q0, q1, q2, q3, q⟩ := h3 j hj
 exact ⟨b, A, n, c, b', A', n', c', q0, q1, q2, q3, q.kd U.kd⟩
theorem QArr.at_ (h : QArr w g t l) {j : Nat} (hj : j < l.length) :
  ∃ b A n c b' A' n' c', w.cell? ⟨g, j * 4, none⟩ = some (.bool b) ∧ w.cell? ⟨g, j * 4 + 1, none⟩ = some (.slice A n c) ∧ w.cell? ⟨g, j * 4 + 2, none⟩ = some (.bool b') ∧ w.cell? ⟨g, j * 4 + 3, none⟩ = some (.slice A' n' c') ∧ ElO w (.agg #[.bool b, .slice A n c, .bool b', .slice A' n' c']) l[j] := by
 obtain ⟨cs, h1, h2, h3⟩ := h
 obtain ⟨b, A, n, c, b', A', n', c', q0, q1, q2, q3, q⟩ := h3 j hj
 exact ⟨b, A, n, c, b', A', n', c', h1.cell q0, h1.cell q1, h1.cell q2, h1.cell q3, q⟩
theorem QArr.put (h : QArr w g t l) {k : Nat} (hk : k < l.length) {b b' : Bool} {A A' : Option Addr} {n c n' c' : Nat} {q : Rat} (hq : IsQ w (.agg #[.bool b, .slice A n c, .bool b', .slice A' n' c']) q) :
  ∃ W, W = (((w.setCell ⟨g, k * 4, none⟩ (.bool b)).setCell ⟨g, k * 4 + 1, none⟩ (.slice A n c)).setCell ⟨g, k * 4 + 2, none⟩ (.bool b')).setCell ⟨g, k * 4 + 3, none⟩ (.slice A' n' c') ∧ QArr W g t (l.set k (some q)) ∧ Upd [g] w W := by
 obtain ⟨cs, h1, h2, h3⟩ := h
 have B1 := h1.set_ (k * 4) (u := .bool b) rfl
 have B2 := B1.set_ (k * 4 + 1) (u := .slice A n c) rfl
 have B3 := B2.set_ (k * 4 + 2) (u := .bool b') rfl
 have B4 := B3.set_ (k * 4 + 3) (u := .slice A' n' c') rfl
 have U : Upd [g] w _ := (((Upd.set_ h1.nodig (k * 4) (.bool b)).trans (Upd.set_ B1.nodig (k * 4 + 1) (.slice A n c))).trans (Upd.set_ B2.nodig (k * 4 + 2) (.bool b'))).trans (Upd.set_ B3.nodig (k * 4 + 3) (.slice A' n' c'))
 refine ⟨_, rfl, ⟨_, B4, by simpa using h2, fun j hj => ?_⟩, U⟩
 have hj' : j < l.length := by simpa using hj
 by_cases e : j = k
 ·subst e
  refine ⟨b, A, n, c, b', A', n', c', ?_, ?_, ?_, ?_, ?_⟩
  ·rw [Array.getElem?_setIfInBounds_ne (by omega), Array.getElem?_setIfInBounds_ne (by omega), Array.getElem?_setIfInBounds_ne (by omega), Array.getElem?_setIfInBounds, if_pos rfl, if_pos (by omega)]
  ·rw [Array.getElem?_setIfInBounds_ne (by omega), Array.getElem?_setIfInBounds_ne (by omega), Array.getElem?_setIfInBounds, if_pos rfl, if_pos (by simp; omega)]
  ·rw [Array.getElem?_setIfInBounds_ne (by omega), Array.getElem?_setIfInBounds, if_pos rfl, if_pos (by simp; omega)]
  ·rw [Array.getElem?_setIfInBounds, if_pos rfl, if_pos (by simp; omega)]
  ·rw [List.getElem_set_self]
   exact hq.kd U.kd
 ·obtain ⟨b, A, n, c, b', A', n', c', q0, q1, q2, q3, q⟩ := h3 j hj'
  refine ⟨b, A, n, c, b', A', n', c', ?_, ?_, ?_, ?_, ?_⟩
  ·rw [Array.getElem?_setIfInBounds_ne (by omega), Array.getElem?_setIfInBounds_ne (by omega), Array.getElem?_setIfInBounds_ne (by omega), Array.getElem?_setIfInBounds_ne (by omega)]; exact q0
  ·rw [Array.getElem?_setIfInBounds_ne (by omega), Array.getElem?_setIfInBounds_ne (by omega), Array.getElem?_setIfInBounds_ne (by omega), Array.getElem?_setIfInBounds_ne (by omega)]; exact q1
  ·rw [Array.getElem?_setIfInBounds_ne (by omega), Array.getElem?_setIfInBounds_ne (by omega), Array.getElem?_setIfInBounds_ne (by omega), Array.getElem?_setIfInBounds_ne (by omega)]; exact q2
  ·rw [Array.getElem?_setIfInBounds_ne (by omega), Array.getElem?_setIfInBounds_ne (by omega), Array.getElem?_setIfInBounds_ne (by omega), Array.getElem?_setIfInBounds_ne (by omega)]; exact q3
  ·rw [List.getElem_set_ne (by omega)]; exact q.kd U.kd
theorem QArr.new (w : World) (t : TypeId) (n : Nat) : QArr (w.alloc (.cells (madeCells #[.bool false, .slice none 0 0, .bool false, .slice none 0 0] (n * 4)) t)) w.heap.size t (List.replicate n none) := by
 have key : ∀ j i v, j < n → i < 4 → #[Value.bool false, .slice none 0 0, .bool false, .slice none 0 0][i]? = some v → (madeCells #[Value.bool false, .slice none 0 0, .bool false, .slice none 0 0] (n * 4))[j * 4 + i]? = some v := by
  intro j i v hj hi hv
  rw [Array.getElem?_eq_getElem (by rw [size_madeCells]; omega)]
  simp only [madeCells, Array.getElem_map, Array.getElem_range]
  rw [show (j * 4 + i) % #[Value.bool false, .slice none 0 0, .bool false, .slice none 0 0].size = i from by show (j * 4 + i) % 4 = i; omega]
  match i, hi with
  | 0, _ => exact hv
  | 1, _ => exact hv
  | 2, _ => exact hv
  | 3, _ => exact hv
 refine ⟨_, Box.new w t _ ?_, by rw [size_madeCells, List.length_replicate]; exact Nat.le_refl _, fun j hj => ?_⟩
 ·rw [Array.all_eq_true]
  intro i hi
  have hi' : i < n * 4 := by rw [size_madeCells] at hi; exact hi
  have hs := Array.getElem?_eq_getElem hi
  generalize (madeCells #[Value.bool false, Value.slice none 0 0, Value.bool false, Value.slice none 0 0] (n * 4))[i] = u at *
  have h4 : i % 4 = 0 ∨ i % 4 = 1 ∨ i % 4 = 2 ∨ i % 4 = 3 := by omega
  rcases h4 with h | h | h | h
  ·have := key (i / 4) 0 _ (by omega) (by omega) rfl
   rw [show i / 4 * 4 + 0 = i from by omega, hs] at this; cases this; rfl
  ·have := key (i / 4) 1 _ (by omega) (by omega) rfl
   rw [show i / 4 * 4 + 1 = i from by omega, hs] at this; cases this; rfl
  ·have := key (i / 4) 2 _ (by omega) (by omega) rfl
   rw [show i / 4 * 4 + 2 = i from by omega, hs] at this; cases this; rfl
  ·have := key (i / 4) 3 _ (by omega) (by omega) rfl
   rw [show i / 4 * 4 + 3 = i from by omega, hs] at this; cases this; rfl
 ·have hj' : j < n := by simpa using hj
  exact ⟨false, none, 0, 0, false, none, 0, 0, key j 0 _ hj' (by omega) rfl, key j 1 _ hj' (by omega) rfl, key j 2 _ hj' (by omega) rfl, key j 3 _ hj' (by omega) rfl, by simp [ElO, zrat]⟩
theorem QArr.row (h : QArr w g t l) {m : List Rat} (hm : l = m.map some) {base : Nat} (hb : base ≤ g) : QsAt base w (some ⟨g, 0, none⟩) m := fun _ => by
 subst hm
 obtain ⟨cs, h1, h2, h3⟩ := h
 refine ⟨g, 0, rfl, hb, fun j hj => ?_⟩
 obtain ⟨b, A, n, c, b', A', n', c', q0, q1, q2, q3, q⟩ := h3 j (by simpa using hj)
 refine ⟨_, rfl, ?_, by simpa [ElO] using q⟩
 intro i hi
 match i, hi with
 | 0, _ => simpa using h1.cell q0
 | 1, _ => simpa using h1.cell q1
 | 2, _ => simpa using h1.cell q2
 | 3, _ => simpa using h1.cell q3
end
end Go.Hp
namespace Go.Hp
def co (l : List Rat) (i : Nat) : Rat := l.getD i 0
def tl (F : Nat → Rat) (n : Nat) : Rat := F (n + 1)
def cs (a : Rat) (F : Nat → Rat) : Nat → Rat
 | 0 => a
 | n + 1 => F n
def cv (F G : Nat → Rat) : Nat → Rat
 | 0 => F 0 * G 0
 | n + 1 => F 0 * G (n + 1) + cv (tl F) G n
def pad (F G : Nat → Rat) (n : Nat) : Rat := F n + G n
def psb (F G : Nat → Rat) (n : Nat) : Rat := F n - G n
def psc (a : Rat) (F : Nat → Rat) (n : Nat) : Rat := a * F n
def pz (_ : Nat) : Rat := 0
def pone : Nat → Rat := cs 1 pz
def pth (F : Nat → Rat) (n : Nat) : Rat := (n : Rat) * F n
def pd (F : Nat → Rat) (n : Nat) : Rat := ((n + 1 : Nat) : Rat) * F (n + 1)
theorem cv_zero (F G : Nat → Rat) : cv F G 0 = F 0 * G 0 := by unfold cv; rfl
theorem cv_succ (F G : Nat → Rat) (n : Nat) : cv F G (n + 1) = F 0 * G (n + 1) + cv (tl F) G n := by rw [cv]
theorem cs_tl (F : Nat → Rat) : cs (F 0) (tl F) = F := by funext n; cases n <;> rfl
theorem tl_cv (F G : Nat → Rat) : tl (cv F G) = pad (psc (F 0) (tl G)) (cv (tl F) G) := by funext n; exact cv_succ F G n
theorem tl_pad (F G : Nat → Rat) : tl (pad F G) = pad (tl F) (tl G) := rfl
theorem tl_psc (a : Rat) (F : Nat → Rat) : tl (psc a F) = psc a (tl F) := rfl
theorem tl_pz : tl pz = pz := rfl
theorem cv_pz (F : Nat → Rat) : cv F pz = pz := by
 funext n
 induction n generalizing F with
 | zero => rw [cv_zero]; exact Rat.mul_zero _
 | succ n ih => rw [cv_succ, ih]; show F 0 * 0 + 0 = 0; grind
theorem pz_cv (F : Nat → Rat) : cv pz F = pz := by
 funext n
 induction n with
 | zero => rw [cv_zero]; exact Rat.zero_mul _
 | succ n ih => rw [cv_succ, tl_pz, ih]; show 0 * _ + 0 = 0; grind
theorem cv_pad (F G H : Nat → Rat) : cv F (pad G H) = pad (cv F G) (cv F H) := by
 funext n
 induction n generalizing F with
 | zero => simp only [cv_zero, pad]; grind
 | succ n ih => have := ih (tl F); simp only [cv_succ, pad] at this ⊢; rw [this]; grind
theorem pad_cv (F G H : Nat → Rat) : cv (pad F G) H = pad (cv F H) (cv G H) := by
 funext n
 induction n generalizing F G with
 | zero => simp only [cv_zero, pad]; grind
 | succ n ih => have := ih (tl F) (tl G); simp only [cv_succ, tl_pad, this]; simp only [pad, cv_succ]; grind
theorem cv_psc (a : Rat) (F G : Nat → Rat) : cv F (psc a G) = psc a (cv F G) := by
 funext n
 induction n generalizing F with
 | zero => simp only [cv_zero, psc]; grind
 | succ n ih => have := ih (tl F); simp only [cv_succ, psc] at this ⊢; rw [this]; grind
theorem psc_cv (a : Rat) (F G : Nat → Rat) : cv (psc a F) G = psc a (cv F G) := by
 funext n
 induction n generalizing F with
 | zero => simp only [cv_zero, psc]; grind
 | succ n ih => have := ih (tl F); simp only [cv_succ, tl_psc, this]; simp only [psc, cv_succ]; grind
theorem psb_eq (F G : Nat → Rat) : psb F G = pad F (psc (-1) G) := by funext n; simp only [psb, pad, psc]; grind
theorem psb_cv (F G H : Nat → Rat) : cv (psb F G) H = psb (cv F H) (cv G H) := by rw [psb_eq, psb_eq, pad_cv, psc_cv]
theorem cv_succ' (F G : Nat → Rat) (n : Nat) : cv F G (n + 1) = cv F (tl G) n + F (n + 1) * G 0 := by
 induction n generalizing F with
 | zero => simp only [cv_succ, cv_zero, tl]
 | succ n ih => rw [cv_succ, ih, cv_succ]; simp only [tl]; grind
theorem cv_comm (F G : Nat → Rat) : cv F G = cv G F := by
 funext n
 induction n generalizing F G with
 | zero => simp only [cv_zero]; grind
 | succ n ih => rw [cv_succ, cv_succ', ih]; grind
theorem cv_assoc (F G H : Nat → Rat) : cv (cv F G) H = cv F (cv G H) := by
 funext n
 induction n generalizing F with
 | zero => simp only [cv_zero]; grind
 | succ n ih =>
  rw [cv_succ, tl_cv, pad_cv, psc_cv]
  have h1 : ∀ A B : Nat → Rat, pad A B n = A n + B n := fun _ _ => rfl
  have h2 : ∀ (a : Rat) (B : Nat → Rat), psc a B n = a * B n := fun _ _ => rfl
  rw [h1, h2, ih, cv_succ F, cv_succ G, cv_zero]
  grind
theorem pone_cv (F : Nat → Rat) : cv pone F = F := by
 funext n
 cases n with
 | zero => rw [cv_zero]; show 1 * _ = _; grind
 | succ n => rw [cv_succ]; show 1 * _ + cv pz F n = _; rw [pz_cv]; show _ + 0 = _; grind
theorem cv_pone (F : Nat → Rat) : cv F pone = F := by rw [cv_comm, pone_cv]
theorem cs_cv (a : Rat) (F G : Nat → Rat) : cv (cs a F) G = pad (psc a G) (cs 0 (cv F G)) := by
 funext n
 cases n with
 | zero => rw [cv_zero]; show a * _ = a * _ + 0; grind
 | succ n => rw [cv_succ]; rfl
theorem shift_cv (F G : Nat → Rat) : cv (cs 0 F) G = cs 0 (cv F G) := by
 rw [cs_cv]
 funext n
 show 0 * G n + _ = _
 grind
/-! ### sums -/
def sm (n : Nat) (f : Nat → Rat) : Rat := match n with
 | 0 => 0
 | n + 1 => sm n f + f n
theorem sm_zero (f : Nat → Rat) : sm 0 f = 0 := rfl
theorem sm_succ (n : Nat) (f : Nat → Rat) : sm (n + 1) f = sm n f + f n := rfl
theorem sm_congr {n : Nat} {f g : Nat → Rat} (h : ∀ i, i < n → f i = g i) : sm n f = sm n g := by
 induction n with
 | zero => rfl
 | succ n ih => rw [sm_succ, sm_succ, ih (fun i hi => h i (by omega)), h n (by omega)]
theorem sm_front (n : Nat) (f : Nat → Rat) : sm (n + 1) f = f 0 + sm n (fun i => f (i + 1)) := by
 induction n with
 | zero => simp only [sm_succ, sm_zero]; grind
 | succ n ih => rw [sm_succ, ih, sm_succ n]; grind
theorem sm_nil (n : Nat) : sm n (fun _ => 0) = 0 := by
 induction n with
 | zero => rfl
 | succ n ih => rw [sm_succ, ih]; grind
theorem sm_add (n : Nat) (f g : Nat → Rat) : sm n (fun i => f i + g i) = sm n f + sm n g := by
 induction n with
 | zero => simp only [sm_zero]; grind
 | succ n ih => rw [sm_succ, ih, sm_succ, sm_succ]; grind
theorem sm_mul (n : Nat) (a : Rat) (f : Nat → Rat) : sm n (fun i => a * f i) = a * sm n f := by
 induction n with
 | zero => simp only [sm_zero]; grind
 | succ n ih => rw [sm_succ, ih, sm_succ]; grind
theorem cv_sm (F G : Nat → Rat) (n : Nat) : cv F G n = sm (n + 1) (fun i => F i * G (n - i)) := by
 induction n generalizing F with
 | zero => rw [cv_zero, sm_succ, sm_zero]; grind
 | succ n ih =>
  rw [cv_succ, ih, sm_front (n + 1)]
  congr 1
  apply sm_congr
  intro i hi
  show F (i + 1) * _ = F (i + 1) * G (n + 1 - (i + 1))
  rw [show n + 1 - (i + 1) = n - i from by omega]
/-! ### degrees -/
def Sup (n : Nat) (F : Nat → Rat) : Prop := ∀ i, n ≤ i → F i = 0
theorem Sup.mono {n m : Nat} {F : Nat → Rat} (h : Sup n F) (k : n ≤ m) : Sup m F := fun i hi => h i (by omega)
theorem Sup.tl {n : Nat} {F : Nat → Rat} (h : Sup (n + 1) F) : Sup n (tl F) := fun i hi => h (i + 1) (by omega)
theorem Sup.pad {n : Nat} {F G : Nat → Rat} (h : Sup n F) (k : Sup n G) : Sup n (pad F G) := fun i hi => by show F i + G i = 0; rw [h i hi, k i hi]; grind
theorem Sup.psb {n : Nat} {F G : Nat → Rat} (h : Sup n F) (k : Sup n G) : Sup n (psb F G) := fun i hi => by show F i - G i = 0; rw [h i hi, k i hi]; grind
theorem Sup.psc {n : Nat} {F : Nat → Rat} (a : Rat) (h : Sup n F) : Sup n (psc a F) := fun i hi => by show a * F i = 0; rw [h i hi]; exact Rat.mul_zero _
theorem Sup.pz (n : Nat) : Sup n pz := fun _ _ => rfl
theorem Sup.cs {n : Nat} {F : Nat → Rat} (a : Rat) (h : Sup n F) : Sup (n + 1) (cs a F) := fun i hi => by
 obtain ⟨i, rfl⟩ : ∃ j, i = j + 1 := ⟨i - 1, by omega⟩
 exact h i (by omega)
theorem Sup.zero {F : Nat → Rat} (h : Sup 0 F) : F = Hp.pz := by funext i; exact h i (Nat.zero_le _)
theorem Sup.cv {n m : Nat} {F G : Nat → Rat} (h : Sup n F) (k : Sup m G) : Sup (n + m - 1) (cv F G) := by
 induction n generalizing F with
 | zero => rw [h.zero, pz_cv]; exact fun _ _ => rfl
 | succ n ih =>
  intro i hi
  have h1 := ih h.tl
  cases i with
  | zero =>
   rw [cv_zero, k 0 (by omega)]; exact Rat.mul_zero _
  | succ i =>
   rw [cv_succ, k (i + 1) (by omega)]
   rcases Nat.eq_zero_or_pos n with h0 | h0
   ·subst h0; rw [h.tl.zero, pz_cv]; show _ * 0 + 0 = 0; grind
   ·rw [h1 i (by omega)]; grind
theorem cv_top {n m : Nat} {F G : Nat → Rat} (h : Sup (n + 1) F) (k : Sup (m + 1) G) : cv F G (n + m) = F n * G m := by
 induction n generalizing F with
 | zero =>
  cases m with
  | zero => rw [cv_zero]
  | succ m => rw [Nat.zero_add, cv_succ, h.tl.zero, pz_cv]; show _ + 0 = _; grind
 | succ n ih =>
  have := ih h.tl
  rw [show n + 1 + m = n + m + 1 from by omega, cv_succ, this, k (n + m + 1) (by omega)]
  show _ * 0 + F (n + 1) * G m = _
  grind
theorem co_sup (l : List Rat) : Sup l.length (co l) := fun i hi => by unfold co; rw [List.getD_eq_getElem?_getD, List.getElem?_eq_none hi]; rfl
theorem co_nil : co [] = pz := rfl
theorem co_cons (a : Rat) (l : List Rat) : co (a :: l) = cs a (co l) := by funext i; cases i <;> rfl
theorem co_lt {l : List Rat} {i : Nat} (h : i < l.length) : co l i = l[i] := by unfold co; rw [List.getD_eq_getElem?_getD, List.getElem?_eq_getElem h]; rfl
def Fin_ (F : Nat → Rat) : Prop := ∃ n, Sup n F
theorem least {p : Nat → Prop} (h : ∃ n, p n) : ∃ n, p n ∧ ∀ m, m < n → ¬ p m := by
 obtain ⟨n, hn⟩ := h
 induction n using Nat.strongRecOn with
 | _ n ih =>
  by_cases hm : ∃ m, m < n ∧ p m
  ·obtain ⟨m, h1, h2⟩ := hm; exact ih m h1 h2
  ·exact ⟨n, hn, fun m h1 h2 => hm ⟨m, h1, h2⟩⟩
open Classical in
/-- One more than the degree; 0 of 0. -/
noncomputable def pl (F : Nat → Rat) : Nat := if h : Fin_ F then (least h).choose else 0
theorem pl_sup {F : Nat → Rat} (h : Fin_ F) : Sup (pl F) F := by
 unfold pl; rw [dif_pos h]; exact (least h).choose_spec.1
theorem pl_le {F : Nat → Rat} {n : Nat} (h : Sup n F) : pl F ≤ n := by
 have hf : Fin_ F := ⟨n, h⟩
 rcases Nat.lt_or_ge n (pl F) with hlt | hge
 ·unfold pl at hlt; rw [dif_pos hf] at hlt
  exact absurd h ((least hf).choose_spec.2 n hlt)
 ·exact hge
theorem pl_top {F : Nat → Rat} (h : Fin_ F) (h0 : 0 < pl F) : F (pl F - 1) ≠ 0 := by
 intro e
 have := pl_le (F := F) (n := pl F - 1) fun i hi => by
  rcases Nat.eq_or_lt_of_le hi with e' | e'
  ·rw [← e']; exact e
  ·exact pl_sup h i (by omega)
 omega
theorem pl_eq {F : Nat → Rat} {n : Nat} (h : Sup n F) (h0 : 0 < n → F (n - 1) ≠ 0) : pl F = n := by
 have h1 := pl_le h
 rcases Nat.lt_or_ge (pl F) n with hlt | hge
 ·exact absurd (pl_sup ⟨n, h⟩ (n - 1) (by omega)) (h0 (by omega))
 ·omega
theorem pl_pz : pl pz = 0 := by have := pl_le (Sup.pz 0); omega
theorem pl_zero {F : Nat → Rat} (h : Fin_ F) : pl F = 0 ↔ F = pz := by
 constructor
 ·intro e; have := pl_sup h; rw [e] at this; exact this.zero
 ·rintro rfl; exact pl_pz
theorem Fin_.pad {F G : Nat → Rat} (h : Fin_ F) (k : Fin_ G) : Fin_ (pad F G) := by
 obtain ⟨n, h⟩ := h; obtain ⟨m, k⟩ := k; exact ⟨max n m, (h.mono (by omega)).pad (k.mono (by omega))⟩
theorem Fin_.psb {F G : Nat → Rat} (h : Fin_ F) (k : Fin_ G) : Fin_ (psb F G) := by
 obtain ⟨n, h⟩ := h; obtain ⟨m, k⟩ := k; exact ⟨max n m, (h.mono (by omega)).psb (k.mono (by omega))⟩
theorem Fin_.psc {F : Nat → Rat} (a : Rat) (h : Fin_ F) : Fin_ (psc a F) := by obtain ⟨n, h⟩ := h; exact ⟨n, h.psc a⟩
theorem Fin_.cv {F G : Nat → Rat} (h : Fin_ F) (k : Fin_ G) : Fin_ (cv F G) := by obtain ⟨n, h⟩ := h; obtain ⟨m, k⟩ := k; exact ⟨_, h.cv k⟩
theorem Fin_.pz : Fin_ pz := ⟨0, Sup.pz 0⟩
theorem Fin_.co (l : List Rat) : Fin_ (co l) := ⟨_, co_sup l⟩
theorem Fin_.cs {F : Nat → Rat} (a : Rat) (h : Fin_ F) : Fin_ (cs a F) := by obtain ⟨n, h⟩ := h; exact ⟨n + 1, h.cs a⟩
theorem pl_cv {F G : Nat → Rat} (h : Fin_ F) (k : Fin_ G) (hF : F ≠ pz) (hG : G ≠ pz) : pl (cv F G) = pl F + pl G - 1 := by
 have p1 : 0 < pl F := Nat.pos_of_ne_zero fun e => hF ((pl_zero h).1 e)
 have p2 : 0 < pl G := Nat.pos_of_ne_zero fun e => hG ((pl_zero k).1 e)
 refine pl_eq ((pl_sup h).cv (pl_sup k)) fun _ => ?_
 have h1 := pl_sup h
 have h2 := pl_sup k
 have e := cv_top (n := pl F - 1) (m := pl G - 1) (F := F) (G := G) (by rw [show pl F - 1 + 1 = pl F from by omega]; exact h1) (by rw [show pl G - 1 + 1 = pl G from by omega]; exact h2)
 rw [show pl F + pl G - 1 - 1 = pl F - 1 + (pl G - 1) from by omega, e]
 intro h0
 rcases Rat.mul_eq_zero.1 h0 with h0 | h0
 ·exact pl_top h p1 h0
 ·exact pl_top k p2 h0
theorem cv_eq_zero {F G : Nat → Rat} (h : Fin_ F) (k : Fin_ G) (e : cv F G = pz) : F = pz ∨ G = pz := by
 by_cases hF : F = pz
 ·exact .inl hF
 ·by_cases hG : G = pz
  ·exact .inr hG
  ·have := pl_cv h k hF hG
   rw [e, pl_pz] at this
   have p1 : 0 < pl F := Nat.pos_of_ne_zero fun e => hF ((pl_zero h).1 e)
   have p2 : 0 < pl G := Nat.pos_of_ne_zero fun e => hG ((pl_zero k).1 e)
   have := pl_eq (F := F) (n := 1) (fun i hi => ?_) (fun _ => ?_)
   ·exact absurd (by
     have hF1 : F 0 ≠ 0 := by have := pl_top h p1; rwa [show pl F - 1 = 0 from by omega] at this
     have hG1 : G 0 ≠ 0 := by have := pl_top k p2; rwa [show pl G - 1 = 0 from by omega] at this
     have h0 : cv F G 0 = 0 := by rw [e]; rfl
     rw [cv_zero] at h0
     rcases Rat.mul_eq_zero.1 h0 with h0 | h0
     ·exact hF1 h0
     ·exact hG1 h0) not_false
   ·have : pl F = 1 := by omega
    exact pl_sup h i (by omega)
   ·have := pl_top h p1
    rwa [show pl F - 1 = 0 from by omega] at this
/-! ### division -/
theorem div_unique {F G Q R Q' R' : Nat → Rat} (hG : Fin_ G) (hQ : Fin_ Q) (hQ' : Fin_ Q') (h0 : G ≠ pz) (h : F = pad (cv Q G) R) (h' : F = pad (cv Q' G) R') (hR : Sup (pl G - 1) R) (hR' : Sup (pl G - 1) R') : Q = Q' ∧ R = R' := by
 have p2 : 0 < pl G := Nat.pos_of_ne_zero fun e => h0 ((pl_zero hG).1 e)
 have e1 : cv (psb Q Q') G = psb R' R := by
  rw [psb_cv]
  funext n
  have := congrFun (h.symm.trans h') n
  simp only [pad, psb] at this ⊢
  grind
 have hs : Sup (pl G - 1) (cv (psb Q Q') G) := by rw [e1]; exact hR'.psb hR
 have hz : psb Q Q' = pz := by
  by_cases hz : psb Q Q' = pz
  ·exact hz
  ·have h1 := pl_cv (hQ.psb hQ') hG hz h0
   have h2 := pl_le hs
   have p1 : 0 < pl (psb Q Q') := Nat.pos_of_ne_zero fun e => hz ((pl_zero (hQ.psb hQ')).1 e)
   omega
 constructor
 ·funext n
  have := congrFun hz n
  simp only [psb, pz] at this
  grind
 ·rw [hz, pz_cv] at e1
  funext n
  have := congrFun e1 n
  simp only [psb, pz] at this
  grind
/-! ### derivations -/
theorem tl_pth (F : Nat → Rat) : tl (pth F) = pad (pth (tl F)) (tl F) := by
 funext n
 simp only [tl, pth, pad]
 have : ((n + 1 : Nat) : Rat) = (n : Rat) + 1 := by simp
 rw [this]; grind
theorem pth_cv (F G : Nat → Rat) : pth (cv F G) = pad (cv (pth F) G) (cv F (pth G)) := by
 funext n
 induction n generalizing F with
 | zero =>
  simp only [pth, pad, cv_zero]
  have : ((0 : Nat) : Rat) = 0 := rfl
  rw [this]; grind
 | succ n ih =>
  have h := ih (tl F)
  have h1 : ∀ A B : Nat → Rat, ∀ m, pad A B m = A m + B m := fun _ _ _ => rfl
  have h2 : ∀ (A : Nat → Rat) m, pth A m = (m : Rat) * A m := fun _ _ => rfl
  rw [h1, h2] at h
  rw [h1, h2, cv_succ, cv_succ, cv_succ, tl_pth, pad_cv, h1, h2, h2]
  have e : ((n + 1 : Nat) : Rat) = (n : Rat) + 1 := by simp
  have e0 : ((0 : Nat) : Rat) = 0 := rfl
  rw [e, e0]
  grind
theorem pd_tl (F : Nat → Rat) : pd F = tl (pth F) := rfl
theorem pd_cv (F G : Nat → Rat) : pd (cv F G) = pad (cv (pd F) G) (cv F (pd G)) := by
 funext n
 rw [pd_tl, pth_cv, tl_pad]
 show cv (pth F) G (n + 1) + cv F (pth G) (n + 1) = cv (pd F) G n + cv F (pd G) n
 have e0 : ((0 : Nat) : Rat) = 0 := rfl
 rw [cv_succ, cv_succ', ← pd_tl, ← pd_tl]
 show ((0 : Nat) : Rat) * F 0 * _ + _ + (_ + _ * (((0 : Nat) : Rat) * G 0)) = _
 rw [e0]; grind
/-! ### values -/
def evn : Nat → (Nat → Rat) → Rat → Rat
 | 0, _, _ => 0
 | n + 1, F, x => F 0 + x * evn n (tl F) x
theorem evn_pz (n : Nat) (x : Rat) : evn n pz x = 0 := by
 induction n with
 | zero => rfl
 | succ n ih => show 0 + x * evn n pz x = 0; rw [ih]; grind
theorem evn_sup {n m : Nat} {F : Nat → Rat} (h : Sup n F) (k : n ≤ m) (x : Rat) : evn m F x = evn n F x := by
 induction n generalizing F m with
 | zero => rw [h.zero, evn_pz]; rfl
 | succ n ih =>
  obtain ⟨m, rfl⟩ : ∃ j, m = j + 1 := ⟨m - 1, by omega⟩
  show F 0 + x * evn m (tl F) x = F 0 + x * evn n (tl F) x
  rw [ih h.tl (by omega)]
noncomputable def ev (F : Nat → Rat) (x : Rat) : Rat := evn (pl F) F x
theorem ev_eq {n : Nat} {F : Nat → Rat} (h : Sup n F) (x : Rat) : ev F x = evn n F x := (evn_sup (pl_sup ⟨n, h⟩) (pl_le h) x).symm
theorem evn_pad (n : Nat) (F G : Nat → Rat) (x : Rat) : evn n (pad F G) x = evn n F x + evn n G x := by
 induction n generalizing F G with
 | zero => show (0 : Rat) = 0 + 0; grind
 | succ n ih =>
  show F 0 + G 0 + x * evn n (pad (tl F) (tl G)) x = F 0 + x * evn n (tl F) x + (G 0 + x * evn n (tl G) x)
  rw [ih]; grind
theorem evn_psc (n : Nat) (a : Rat) (F : Nat → Rat) (x : Rat) : evn n (psc a F) x = a * evn n F x := by
 induction n generalizing F with
 | zero => show (0 : Rat) = a * 0; grind
 | succ n ih =>
  show a * F 0 + x * evn n (psc a (tl F)) x = a * (F 0 + x * evn n (tl F) x)
  rw [ih]; grind
theorem ev_pad {F G : Nat → Rat} (h : Fin_ F) (k : Fin_ G) (x : Rat) : ev (pad F G) x = ev F x + ev G x := by
 obtain ⟨n, h⟩ := h; obtain ⟨m, k⟩ := k
 have h1 := h.mono (Nat.le_max_left n m); have k1 := k.mono (Nat.le_max_right n m)
 rw [ev_eq (h1.pad k1), ev_eq h1, ev_eq k1, evn_pad]
theorem ev_psc {F : Nat → Rat} (a : Rat) (h : Fin_ F) (x : Rat) : ev (psc a F) x = a * ev F x := by
 obtain ⟨n, h⟩ := h
 rw [ev_eq (h.psc a), ev_eq h, evn_psc]
theorem ev_psb {F G : Nat → Rat} (h : Fin_ F) (k : Fin_ G) (x : Rat) : ev (psb F G) x = ev F x - ev G x := by
 rw [psb_eq, ev_pad h (k.psc _), ev_psc _ k]; grind
theorem ev_pz (x : Rat) : ev pz x = 0 := by unfold ev; rw [evn_pz]
theorem ev_cs {F : Nat → Rat} (a : Rat) (h : Fin_ F) (x : Rat) : ev (cs a F) x = a + x * ev F x := by
 obtain ⟨n, h⟩ := h
 rw [ev_eq (h.cs a), ev_eq h]; rfl
theorem ev_cv {F G : Nat → Rat} (h : Fin_ F) (k : Fin_ G) (x : Rat) : ev (cv F G) x = ev F x * ev G x := by
 obtain ⟨n, h⟩ := h
 induction n generalizing F with
 | zero => rw [h.zero, pz_cv, ev_pz]; grind
 | succ n ih =>
  have e := cs_cv (F 0) (tl F) G
  rw [cs_tl] at e
  have hf : Fin_ (tl F) := ⟨n, h.tl⟩
  rw [e, ev_pad (k.psc _) ((hf.cv k).cs 0), ev_psc _ k, ev_cs 0 (hf.cv k), ih h.tl]
  have e2 := ev_cs (F 0) hf x
  rw [cs_tl] at e2
  rw [e2]; grind
end Go.Hp
namespace Go.Hp
noncomputable def ld (F : Nat → Rat) : Rat := F (pl F - 1)
def mono (k : Nat) (a : Rat) (n : Nat) : Rat := if n = k then a else 0
def sh (k : Nat) (F : Nat → Rat) (n : Nat) : Rat := if n < k then 0 else F (n - k)
theorem mono_sup (k : Nat) (a : Rat) : Sup (k + 1) (mono k a) := fun i hi => by unfold mono; rw [if_neg (by omega)]
theorem mono_at (k : Nat) (a : Rat) : mono k a k = a := if_pos rfl
theorem mono_off {k i : Nat} {a : Rat} (h : i ≠ k) : mono k a i = 0 := if_neg h
theorem sh_zero (F : Nat → Rat) : sh 0 F = F := by funext n; unfold sh; rw [if_neg (by omega)]; rfl
theorem sh_succ (k : Nat) (F : Nat → Rat) : sh (k + 1) F = cs 0 (sh k F) := by
 funext n
 cases n with
 | zero => unfold sh; rw [if_pos (by omega)]; rfl
 | succ n =>
  show sh (k + 1) F (n + 1) = sh k F n
  unfold sh
  by_cases h : n < k
  ·rw [if_pos h, if_pos (by omega)]
  ·rw [if_neg h, if_neg (by omega), show n + 1 - (k + 1) = n - k from by omega]
theorem mono_succ (k : Nat) (a : Rat) : mono (k + 1) a = cs 0 (mono k a) := by
 funext n
 cases n with
 | zero => unfold mono; rw [if_neg (by omega)]; rfl
 | succ n =>
  show mono (k + 1) a (n + 1) = mono k a n
  unfold mono
  by_cases h : n = k
  ·rw [if_pos h, if_pos (by omega)]
  ·rw [if_neg h, if_neg (by omega)]
theorem mono_zero (a : Rat) : mono 0 a = cs a pz := by funext n; cases n <;> rfl
theorem mono_cv (k : Nat) (a : Rat) (F : Nat → Rat) : cv (mono k a) F = psc a (sh k F) := by
 induction k with
 | zero => rw [mono_zero, cs_cv, pz_cv, sh_zero]; funext n; cases n <;> simp only [pad, psc, cs, pz] <;> grind
 | succ k ih => rw [mono_succ, shift_cv, ih, sh_succ]; funext n; cases n <;> simp only [psc, cs] <;> grind
theorem Fin_.mono (k : Nat) (a : Rat) : Fin_ (mono k a) := ⟨_, mono_sup k a⟩
theorem ld_ne {F : Nat → Rat} (h : Fin_ F) (h0 : F ≠ pz) : ld F ≠ 0 := pl_top h (Nat.pos_of_ne_zero fun e => h0 ((pl_zero h).1 e))
theorem pl_pos {F : Nat → Rat} (h : Fin_ F) (h0 : F ≠ pz) : 0 < pl F := Nat.pos_of_ne_zero fun e => h0 ((pl_zero h).1 e)
theorem div_step {n : Nat} {R G : Nat → Rat} (hG : Fin_ G) (h0 : G ≠ pz) (hR : Sup (n + pl G) R) : Sup (n + pl G - 1) (psb R (cv (mono n (R (n + pl G - 1) / ld G)) G)) := by
 have hp := pl_pos hG h0
 have hl := ld_ne hG h0
 intro i hi
 rw [mono_cv]
 show R i - _ * sh n G i = 0
 unfold sh
 rw [if_neg (by omega)]
 rcases Nat.eq_or_lt_of_le hi with e | e
 ·rw [← e, show n + pl G - 1 - n = pl G - 1 from by omega]
  show _ - _ / ld G * ld G = 0
  grind
 ·rw [hR i (by omega), pl_sup hG (i - n) (by omega)]; grind
theorem div_exists {F G : Nat → Rat} (hF : Fin_ F) (hG : Fin_ G) (h0 : G ≠ pz) : ∃ Q R, Fin_ Q ∧ F = pad (cv Q G) R ∧ Sup (pl G - 1) R := by
 have hp := pl_pos hG h0
 suffices H : ∀ n (F : Nat → Rat), Sup (n + pl G - 1) F → ∃ Q R, Fin_ Q ∧ F = pad (cv Q G) R ∧ Sup (pl G - 1) R from by
  obtain ⟨n, hn⟩ := hF
  exact H n F (hn.mono (by omega))
 intro n
 induction n with
 | zero => intro F h; exact ⟨pz, F, Fin_.pz, by rw [pz_cv]; funext n; simp only [pad, pz]; grind, by rwa [Nat.zero_add] at h⟩
 | succ n ih =>
  intro F h
  obtain ⟨Q, R, h1, h2, h3⟩ := ih _ (div_step (n := n) hG h0 (show Sup (n + pl G) F from h.mono (by omega)))
  refine ⟨pad (mono n (F (n + pl G - 1) / ld G)) Q, R, (Fin_.mono _ _).pad h1, ?_, h3⟩
  rw [pad_cv]
  funext m
  have := congrFun h2 m
  simp only [pad, psb] at this ⊢
  grind
open Classical in
/-- Quotient and remainder. -/
noncomputable def pq (F G : Nat → Rat) : Nat → Rat := if h : Fin_ F ∧ Fin_ G ∧ G ≠ pz then (div_exists h.1 h.2.1 h.2.2).choose else pz
noncomputable def pr (F G : Nat → Rat) : Nat → Rat := psb F (cv (pq F G) G)
theorem pq_fin (F G : Nat → Rat) : Fin_ (pq F G) := by
 unfold pq
 split
 ·rename_i h; exact (div_exists h.1 h.2.1 h.2.2).choose_spec.choose_spec.1
 ·exact Fin_.pz
theorem pr_fin {F G : Nat → Rat} (hF : Fin_ F) (hG : Fin_ G) : Fin_ (pr F G) := hF.psb ((pq_fin F G).cv hG)
theorem pq_pr (F G : Nat → Rat) : F = pad (cv (pq F G) G) (pr F G) := by funext n; simp only [pad, pr, psb]; grind
theorem pr_sup {F G : Nat → Rat} (hF : Fin_ F) (hG : Fin_ G) (h0 : G ≠ pz) : Sup (pl G - 1) (pr F G) := by
 have h : Fin_ F ∧ Fin_ G ∧ G ≠ pz := ⟨hF, hG, h0⟩
 obtain ⟨R, h1, h2, h3⟩ := (div_exists hF hG h0).choose_spec
 have e : pq F G = (div_exists hF hG h0).choose := by unfold pq; rw [dif_pos h]
 have e2 : pr F G = R := by
  unfold pr; rw [e]
  funext n
  have := congrFun h2 n
  simp only [psb, pad] at this ⊢
  grind
 rw [e2]; exact h3
theorem div_eq {F G Q R : Nat → Rat} (hF : Fin_ F) (hG : Fin_ G) (h0 : G ≠ pz) (hQ : Fin_ Q) (h : F = pad (cv Q G) R) (hR : Sup (pl G - 1) R) : Q = pq F G ∧ R = pr F G :=
 div_unique hG hQ (pq_fin F G) h0 h (pq_pr F G) hR (pr_sup hF hG h0)
theorem pq_mul {F G : Nat → Rat} (hF : Fin_ F) (hG : Fin_ G) (h0 : G ≠ pz) : pq (cv F G) G = F ∧ pr (cv F G) G = pz := by
 have := div_eq (hF.cv hG) hG h0 hF (R := pz) (by funext n; simp only [pad, pz]; grind) (Sup.pz _)
 exact ⟨this.1.symm, this.2.symm⟩
/-! ### divisors -/
def Dv (D F : Nat → Rat) : Prop := ∃ Q, Fin_ Q ∧ F = cv Q D
theorem Dv.refl (F : Nat → Rat) : Dv F F := ⟨pone, ⟨1, (Sup.pz 0).cs 1⟩, (pone_cv F).symm⟩
theorem Dv.zero (D : Nat → Rat) : Dv D pz := ⟨pz, Fin_.pz, (pz_cv D).symm⟩
theorem Dv.trans {D E F : Nat → Rat} (h : Dv D E) (k : Dv E F) : Dv D F := by
 obtain ⟨Q, hQ, rfl⟩ := h; obtain ⟨S, hS, rfl⟩ := k; exact ⟨cv S Q, hS.cv hQ, (cv_assoc _ _ _).symm⟩
theorem Dv.pad {D F G : Nat → Rat} (h : Dv D F) (k : Dv D G) : Dv D (pad F G) := by
 obtain ⟨Q, hQ, rfl⟩ := h; obtain ⟨S, hS, rfl⟩ := k; exact ⟨Hp.pad Q S, hQ.pad hS, (pad_cv _ _ _).symm⟩
theorem Dv.psb {D F G : Nat → Rat} (h : Dv D F) (k : Dv D G) : Dv D (psb F G) := by
 obtain ⟨Q, hQ, rfl⟩ := h; obtain ⟨S, hS, rfl⟩ := k; exact ⟨Hp.psb Q S, hQ.psb hS, (psb_cv _ _ _).symm⟩
theorem Dv.psc {D F : Nat → Rat} (a : Rat) (h : Dv D F) : Dv D (psc a F) := by
 obtain ⟨Q, hQ, rfl⟩ := h; exact ⟨Hp.psc a Q, hQ.psc a, (psc_cv _ _ _).symm⟩
theorem Dv.mul {D F : Nat → Rat} (h : Dv D F) {G : Nat → Rat} (hG : Fin_ G) : Dv D (cv G F) := by
 obtain ⟨Q, hQ, rfl⟩ := h; exact ⟨cv G Q, hG.cv hQ, (cv_assoc _ _ _).symm⟩
theorem psc_psc (a b : Rat) (F : Nat → Rat) : psc a (psc b F) = psc (a * b) F := by funext n; simp only [psc]; grind
theorem psc_one (F : Nat → Rat) : psc 1 F = F := by funext n; simp only [psc]; grind
theorem psc_inv {a : Rat} (h : a ≠ 0) (F : Nat → Rat) : psc (1 / a) (psc a F) = F := by rw [psc_psc, show 1 / a * a = 1 from by grind, psc_one]
theorem Dv.unit {D F : Nat → Rat} {a : Rat} (h : Dv (Hp.psc a D) F) : Dv D F := by
 obtain ⟨Q, hQ, rfl⟩ := h; exact ⟨Hp.psc a Q, hQ.psc a, by rw [psc_cv, cv_psc]⟩
theorem Dv.le {D F : Nat → Rat} (hD : Fin_ D) (hF : Fin_ F) (h0 : F ≠ pz) (h : Dv D F) : pl D ≤ pl F := by
 obtain ⟨Q, hQ, rfl⟩ := h
 have hD0 : D ≠ pz := fun e => h0 (by rw [e, cv_pz])
 have hQ0 : Q ≠ pz := fun e => h0 (by rw [e, pz_cv])
 rw [pl_cv hQ hD hQ0 hD0]
 have := pl_pos hQ hQ0
 omega
theorem pl_psc {a : Rat} (ha : a ≠ 0) {F : Nat → Rat} (h : Fin_ F) : pl (psc a F) = pl F := by
 refine pl_eq ((pl_sup h).psc a) fun h0 e => ?_
 rcases Rat.mul_eq_zero.1 (show a * F (pl F - 1) = 0 from e) with e | e
 ·exact ha e
 ·exact pl_top h h0 e
theorem psc_pz (a : Rat) : psc a pz = pz := by funext n; simp only [psc, pz]; grind
noncomputable def mn (F : Nat → Rat) : Nat → Rat := psc (1 / ld F) F
theorem mn_pz : mn pz = pz := psc_pz _
theorem mn_fin {F : Nat → Rat} (h : Fin_ F) : Fin_ (mn F) := h.psc _
theorem inv_ne {a : Rat} (h : a ≠ 0) : 1 / a ≠ 0 := by intro e; have : 1 / a * a = 1 := by grind
                                                       rw [e] at this; grind
theorem mn_pl {F : Nat → Rat} (h : Fin_ F) : pl (mn F) = pl F := by
 by_cases h0 : F = pz
 ·rw [h0, mn_pz]
 ·exact pl_psc (inv_ne (ld_ne h h0)) h
theorem mn_ld {F : Nat → Rat} (h : Fin_ F) (h0 : F ≠ pz) : ld (mn F) = 1 := by
 have := ld_ne h h0
 unfold ld
 rw [mn_pl h]
 show 1 / ld F * ld F = 1
 grind
theorem mn_ne {F : Nat → Rat} (h : Fin_ F) (h0 : F ≠ pz) : mn F ≠ pz := fun e => by
 have := mn_pl h; rw [e, pl_pz] at this; have := pl_pos h h0; omega
theorem mn_dv {F : Nat → Rat} (h : Fin_ F) : Dv (mn F) F := by
 by_cases h0 : F = pz
 ·rw [h0]; exact Dv.zero _
 ·exact ⟨psc (ld F) pone, Fin_.psc _ ⟨1, (Sup.pz 0).cs 1⟩, by
   have := ld_ne h h0
   rw [psc_cv, pone_cv]; unfold mn; rw [psc_psc, show ld F * (1 / ld F) = 1 from by grind, psc_one]⟩
theorem dv_mn (F : Nat → Rat) : Dv F (mn F) := (Dv.refl F).psc _
def IsG (F G D : Nat → Rat) : Prop := Fin_ D ∧ (D ≠ pz → ld D = 1) ∧ Dv D F ∧ Dv D G ∧ ∀ E, Fin_ E → Dv E F → Dv E G → Dv E D
theorem dv_pz {F : Nat → Rat} (h : Dv pz F) : F = pz := by obtain ⟨Q, _, rfl⟩ := h; exact cv_pz Q
theorem dv_both {D E : Nat → Rat} (hD : Fin_ D) (hE : Fin_ E) (h1 : D ≠ pz → ld D = 1) (h2 : E ≠ pz → ld E = 1) (h : Dv D E) (k : Dv E D) : D = E := by
 by_cases h0 : D = pz
 ·subst h0; exact (dv_pz h).symm
 ·have hE0 : E ≠ pz := fun e => h0 (by rw [e] at k; exact dv_pz k)
  have l1 := h.le hD hE hE0
  have l2 := k.le hE hD h0
  obtain ⟨Q, hQ, e⟩ := h
  have hQ0 : Q ≠ pz := fun e' => hE0 (by rw [e, e', pz_cv])
  have hl := pl_cv hQ hD hQ0 h0
  rw [← e] at hl
  have hp := pl_pos hQ hQ0
  have hp2 := pl_pos hD h0
  have hq1 : pl Q = 1 := by omega
  have hq : Q = cs (Q 0) pz := by
   have := pl_sup hQ
   rw [hq1] at this
   funext n
   cases n with
   | zero => rfl
   | succ n => exact this (n + 1) (by omega)
  have e2 : E = psc (Q 0) D := by
   rw [e, hq, cs_cv, pz_cv]
   funext n
   cases n <;> simp only [pad, psc, cs, pz] <;> grind
  have e3 : ld E = Q 0 * ld D := by
   unfold ld
   rw [show pl E = pl D from by omega, e2]; rfl
  rw [h1 h0, h2 hE0] at e3
  rw [e2, show Q 0 = 1 from by grind, psc_one]
theorem IsG.uniq {F G D E : Nat → Rat} (h : IsG F G D) (k : IsG F G E) : D = E :=
 dv_both h.1 k.1 h.2.1 k.2.1 (k.2.2.2.2 D h.1 h.2.2.1 h.2.2.2.1) (h.2.2.2.2 E k.1 k.2.2.1 k.2.2.2.1)
theorem IsG.of {F G F' G' D : Nat → Rat} (h : ∀ E, Fin_ E → (Dv E F ∧ Dv E G ↔ Dv E F' ∧ Dv E G')) (k : IsG F G D) : IsG F' G' D := by
 obtain ⟨a, b, c, d, e⟩ := k
 have := (h D a).1 ⟨c, d⟩
 exact ⟨a, b, this.1, this.2, fun E hE h1 h2 => by have := (h E hE).2 ⟨h1, h2⟩; exact e E hE this.1 this.2⟩
theorem IsG.zero {F : Nat → Rat} (h : Fin_ F) : IsG F pz (mn F) :=
 ⟨mn_fin h, fun h0 => mn_ld h fun e => h0 (by rw [e, mn_pz]), mn_dv h, Dv.zero _, fun E _ h1 _ => h1.trans (dv_mn F)⟩
theorem dv_step {F G E : Nat → Rat} : Dv E G ∧ Dv E (pr F G) ↔ Dv E F ∧ Dv E G := by
 have e := pq_pr F G
 constructor
 ·rintro ⟨h1, h2⟩
  refine ⟨?_, h1⟩
  rw [e]; exact (h1.mul (pq_fin F G)).pad h2
 ·rintro ⟨h1, h2⟩
  exact ⟨h2, h1.psb (h2.mul (pq_fin F G))⟩
theorem dv_mn_iff {F E : Nat → Rat} (h : Fin_ F) : Dv E (mn F) ↔ Dv E F := ⟨fun (k : Dv E (mn F)) => k.trans (mn_dv h), fun (k : Dv E F) => k.trans (dv_mn F)⟩
/-! ### the cofactors -/
def IsX (F G D U V : Nat → Rat) : Prop := IsG F G D ∧ Fin_ U ∧ Fin_ V ∧ pad (cv U F) (cv V G) = D ∧ Sup (pl G - pl D) U
theorem IsX.uniq {F G D U V D' U' V' : Nat → Rat} (hG : Fin_ G) (h0 : G ≠ pz) (h : IsX F G D U V) (k : IsX F G D' U' V') : D = D' ∧ U = U' ∧ V = V' := by
 obtain ⟨h1, h2, h3, h4, h5⟩ := h
 obtain ⟨k1, k2, k3, k4, k5⟩ := k
 obtain rfl := h1.uniq k1
 have hD0 : D ≠ pz := fun e => h0 (dv_pz (by have := h1.2.2.2.1; rwa [e] at this))
 obtain ⟨A, hA, eA⟩ := h1.2.2.1
 obtain ⟨B, hB, eB⟩ := h1.2.2.2.1
 have hB0 : B ≠ pz := fun e => h0 (by rw [eB, e, pz_cv])
 -- U A + V B = 1
 have c1 : ∀ {X Y : Nat → Rat}, Fin_ X → Fin_ Y → cv X D = cv Y D → X = Y := by
  intro X Y hX hY e
  have : cv (psb X Y) D = pz := by rw [psb_cv, e]; funext n; simp only [psb, pz]; grind
  rcases cv_eq_zero (hX.psb hY) h1.1 this with e | e
  ·funext n; have := congrFun e n; simp only [psb, pz] at this; grind
  ·exact absurd e hD0
 have hp1 : Fin_ pone := ⟨1, (Sup.pz 0).cs 1⟩
 have one : pad (cv U A) (cv V B) = pone := by
  apply c1 ((h2.cv hA).pad (h3.cv hB)) hp1
  rw [pad_cv, cv_assoc, cv_assoc, ← eA, ← eB, h4, pone_cv]
 -- (U - U') F = (V' - V) G
 have e1 : cv (psb U U') A = cv (psb V' V) B := by
  apply c1 ((h2.psb k2).cv hA) ((k3.psb h3).cv hB)
  rw [cv_assoc, cv_assoc, ← eA, ← eB, psb_cv, psb_cv]
  have := h4.trans k4.symm
  funext n
  have := congrFun this n
  simp only [pad, psb] at this ⊢
  grind
 -- B divides U - U'
 have e2 : Dv B (psb U U') := by
  have : psb U U' = pad (cv (cv U (psb V' V)) B) (cv (cv V (psb U U')) B) := by
   calc psb U U' = cv (psb U U') pone := (cv_pone _).symm
    _ = pad (cv U (cv (psb U U') A)) (cv V (cv (psb U U') B)) := by
     rw [← one, cv_pad, ← cv_assoc, ← cv_assoc, cv_comm (psb U U') U, cv_comm (psb U U') V, cv_assoc, cv_assoc]
    _ = _ := by rw [e1, cv_assoc, cv_assoc]
  rw [this]
  exact ((Dv.refl B).mul (h2.cv (k3.psb h3))).pad ((Dv.refl B).mul (h3.cv (h2.psb k2)))
 have hpB : pl G = pl B + pl D - 1 := by rw [eB]; exact pl_cv hB h1.1 hB0 hD0
 have hz : psb U U' = pz := by
  by_cases hz : psb U U' = pz
  ·exact hz
  ·have l1 := e2.le hB (h2.psb k2) hz
   have l2 := pl_le (h5.psb k5)
   have l3 := pl_pos (h2.psb k2) hz
   have l4 := pl_pos h1.1 hD0
   omega
 have hU : U = U' := by funext n; have := congrFun hz n; simp only [psb, pz] at this; grind
 refine ⟨rfl, hU, ?_⟩
 subst hU
 have : cv (psb V V') G = pz := by
  rw [psb_cv]
  have := h4.trans k4.symm
  funext n
  have := congrFun this n
  simp only [pad, psb, pz] at this ⊢
  grind
 rcases cv_eq_zero (h3.psb k3) hG this with e | e
 ·funext n; have := congrFun e n; simp only [psb, pz] at this; grind
 ·exact absurd e h0
/-! ### roots -/
theorem evn_tl {n : Nat} (F : Nat → Rat) (x : Rat) : evn (n + 1) F x = F 0 + x * evn n (tl F) x := rfl
def syn (n : Nat) (F : Nat → Rat) (x : Rat) (i : Nat) : Rat := evn n (fun j => F (i + 1 + j)) x
theorem syn_sup {n : Nat} {F : Nat → Rat} (h : Sup (n + 1) F) (x : Rat) : Sup n (syn n F x) := fun i hi => by
 have : (fun j => F (i + 1 + j)) = pz := by funext j; exact h _ (by omega)
 unfold syn; rw [this, evn_pz]
theorem syn_cv {n : Nat} {F : Nat → Rat} (h : Sup (n + 1) F) (x : Rat) : F = pad (cv (cs (-x) pone) (syn n F x)) (cs (ev F x) pz) := by
 rw [cs_cv, pone_cv]
 have step : ∀ i, evn (n + 1) (fun j => F (i + j)) x = F i + x * syn n F x i := fun i => by
  rw [evn_tl]; unfold syn
  have : tl (fun j => F (i + j)) = fun j => F (i + 1 + j) := by funext j; show F (i + (j + 1)) = _; rw [show i + (j + 1) = i + 1 + j from by omega]
  rw [this]; rfl
 funext i
 cases i with
 | zero =>
  have h0 := step 0
  rw [show (fun j => F (0 + j)) = F from by funext j; rw [Nat.zero_add], ← ev_eq h] at h0
  simp only [pad, psc, cs]
  rw [h0]; grind
 | succ i =>
  have h1 := step (i + 1)
  have h2 : evn (n + 1) (fun j => F (i + 1 + j)) x = syn n F x i := by
   unfold syn
   exact evn_sup (fun j hj => h _ (by omega)) (by omega) x
  rw [h2] at h1
  simp only [pad, psc, cs, pz]
  rw [h1]; grind
theorem many_roots : ∀ {l : List Rat} {F : Nat → Rat}, Sup l.length F → l.Nodup → (∀ x ∈ l, ev F x = 0) → F = pz
 | [], _, h, _, _ => h.zero
 | x :: l, F, h, hn, hr => by
  have e := syn_cv (n := l.length) h x
  have hs := syn_sup (n := l.length) h x
  rw [hr x List.mem_cons_self] at e
  have e2 : F = cv (cs (-x) pone) (syn l.length F x) := by
   have : cs (0 : Rat) pz = pz := by funext n; cases n <;> rfl
   rw [this] at e
   funext n
   have := congrFun e n
   simp only [pad, pz] at this
   rw [this]; grind
  have hp : Fin_ (cs (-x) pone) := Fin_.cs _ ⟨1, (Sup.pz 0).cs 1⟩
  have hz : syn l.length F x = pz := by
   apply many_roots hs (List.nodup_cons.1 hn).2
   intro y hy
   have h1 := hr y (List.mem_cons_of_mem _ hy)
   have h2 : ev pone y = 1 := by unfold pone; rw [ev_cs _ Fin_.pz, ev_pz]; grind
   have h3 : ev (cs (-x) pone) y = -x + y := by rw [ev_cs (F := pone) _ ⟨1, (Sup.pz 0).cs 1⟩, h2]; grind
   rw [e2, ev_cv hp ⟨_, hs⟩, h3] at h1
   rcases Rat.mul_eq_zero.1 h1 with h | h
   ·have : x = y := by grind
    subst this
    exact absurd hy (List.nodup_cons.1 hn).1
   ·exact h
  rw [e2, hz, cv_pz]
/-! ### series -/
def rv (d : Nat) (F : Nat → Rat) (n : Nat) : Rat := if n ≤ d then F (d - n) else 0
end Go.Hp
namespace Go.Hp
def CB (D X : Nat) (F : Nat → Rat) : Prop := 0 < D ∧ ∀ i, ∃ m : Int, F i = (m : Rat) / (D : Rat) ∧ m.natAbs ≤ X
def CD (s : Nat) (F : Nat → Rat) : Prop := ∃ D X : Nat, CB D X F ∧ sz D ≤ s ∧ sz X ≤ s
theorem divInt_eq (n : Int) (d : Nat) : (n : Rat) / (d : Rat) = Rat.divInt n d := by
 rw [Rat.divInt_eq_div]; rfl
theorem natq {d : Nat} (h : 0 < d) : (d : Rat) ≠ 0 := by
 intro e; have : (d : Rat) = ((0 : Nat) : Rat) := e
 have := Rat.natCast_inj.1 this; omega
theorem CD.pos {s : Nat} {F : Nat → Rat} (h : CD s F) : 1 ≤ s := by
 obtain ⟨D, X, ⟨h0, _⟩, hD, _⟩ := h
 have := sz_pos (n := D) (by omega); omega
theorem CD.elem {s : Nat} {F : Nat → Rat} (h : CD s F) (i : Nat) : qsz (F i) ≤ s := by
 have hp := h.pos
 obtain ⟨D, X, ⟨h0, hN⟩, hD, hX⟩ := h
 obtain ⟨m, e, hm⟩ := hN i
 rw [e, divInt_eq]
 have := sz_mono hm
 exact qsz_divInt (by omega) (by simpa using hD) hp
theorem CD.mono {s t : Nat} {F : Nat → Rat} (h : CD s F) (k : s ≤ t) : CD t F := by
 obtain ⟨D, X, h0, hD, hX⟩ := h
 exact ⟨D, X, h0, by omega, by omega⟩
theorem CD.pz : CD 1 pz := ⟨1, 0, ⟨by omega, fun _ => ⟨0, by show (0 : Rat) = _; grind, by decide⟩⟩, by decide, by decide⟩
theorem rat_eq (a : Rat) : a = (a.num : Rat) / (a.den : Rat) := by rw [divInt_eq]; exact (Rat.num_divInt_den a).symm
theorem CB.psc {D X : Nat} {F : Nat → Rat} (a : Rat) (h : CB D X F) : CB (D * a.den) (a.num.natAbs * X) (psc a F) := by
 obtain ⟨h0, hN⟩ := h
 refine ⟨Nat.mul_pos h0 a.den_pos, fun i => ?_⟩
 obtain ⟨m, e, hm⟩ := hN i
 refine ⟨a.num * m, ?_, ?_⟩
 ·show a * F i = _
  have h1 := natq h0
  have h2 := natq a.den_pos
  have h3 := rat_eq a
  rw [e, Rat.intCast_mul, Rat.natCast_mul]
  generalize (a.num : Rat) = x at *
  generalize (a.den : Rat) = y at *
  rw [h3]; grind
 ·rw [Int.natAbs_mul]; exact Nat.mul_le_mul_left _ hm
theorem CD.psc {s : Nat} {F : Nat → Rat} (a : Rat) (h : CD s F) : CD (s + qsz a) (psc a F) := by
 obtain ⟨D, X, h0, hD, hX⟩ := h
 refine ⟨_, _, h0.psc a, ?_, ?_⟩
 ·have := sz_mul D a.den; unfold qsz; omega
 ·have := sz_mul a.num.natAbs X; unfold qsz; omega
theorem CB.pad {D X E Y : Nat} {F G : Nat → Rat} (h : CB D X F) (k : CB E Y G) : CB (D * E) (X * E + Y * D) (pad F G) := by
 obtain ⟨h0, hN⟩ := h
 obtain ⟨k0, hM⟩ := k
 refine ⟨Nat.mul_pos h0 k0, fun i => ?_⟩
 obtain ⟨m, e, hm⟩ := hN i
 obtain ⟨n, f, hn⟩ := hM i
 refine ⟨m * (E : Int) + n * (D : Int), ?_, ?_⟩
 ·show F i + G i = _
  have h1 := natq h0
  have h2 := natq k0
  rw [e, f, Rat.intCast_add, Rat.intCast_mul, Rat.intCast_mul, Rat.natCast_mul, Rat.intCast_natCast, Rat.intCast_natCast]
  grind
 ·refine Nat.le_trans (Int.natAbs_add_le _ _) ?_
  rw [Int.natAbs_mul, Int.natAbs_mul, Int.natAbs_natCast, Int.natAbs_natCast]
  exact Nat.add_le_add (Nat.mul_le_mul_right _ hm) (Nat.mul_le_mul_right _ hn)
theorem CD.pad {s t : Nat} {F G : Nat → Rat} (h : CD s F) (k : CD t G) : CD (s + t + 1) (pad F G) := by
 obtain ⟨D, X, h0, hD, hX⟩ := h
 obtain ⟨E, Y, k0, hE, hY⟩ := k
 refine ⟨_, _, h0.pad k0, ?_, ?_⟩
 ·have := sz_mul D E; omega
 ·have a2 := sz_add (X * E) (Y * D)
  have a3 := sz_mul X E
  have a4 := sz_mul Y D
  omega
theorem CD.neg {s : Nat} {F : Nat → Rat} (h : CD s F) : CD s (Hp.psc (-1) F) := by
 obtain ⟨D, X, h0, hD, hX⟩ := h
 have := h0.psc (-1)
 rw [show (-1 : Rat).den = 1 from rfl, show (-1 : Rat).num.natAbs = 1 from rfl, Nat.mul_one, Nat.one_mul] at this
 exact ⟨D, X, this, hD, hX⟩
theorem CD.psb {s t : Nat} {F G : Nat → Rat} (h : CD s F) (k : CD t G) : CD (s + t + 1) (psb F G) := by
 rw [psb_eq]; exact h.pad k.neg
theorem CB.cs {D X : Nat} {F : Nat → Rat} (a : Rat) (h : CB D X F) : CB (D * a.den) (X * a.den + a.num.natAbs * D) (cs a F) := by
 obtain ⟨h0, hN⟩ := h
 refine ⟨Nat.mul_pos h0 a.den_pos, fun i => ?_⟩
 have h1 := natq h0
 have h2 := natq a.den_pos
 cases i with
 | zero =>
  refine ⟨a.num * (D : Int), ?_, ?_⟩
  ·show a = _
   have h3 := rat_eq a
   rw [Rat.intCast_mul, Rat.natCast_mul, Rat.intCast_natCast]
   generalize (a.num : Rat) = x at *
   generalize (a.den : Rat) = y at *
   rw [h3]; grind
  ·rw [Int.natAbs_mul, Int.natAbs_natCast]; exact Nat.le_add_left _ _
 | succ i =>
  obtain ⟨m, e, hm⟩ := hN i
  refine ⟨m * (a.den : Int), ?_, ?_⟩
  ·show F i = _
   rw [e, Rat.intCast_mul, Rat.natCast_mul, Rat.intCast_natCast]
   generalize (a.den : Rat) = y at *
   grind
  ·rw [Int.natAbs_mul, Int.natAbs_natCast]
   exact Nat.le_trans (Nat.mul_le_mul_right _ hm) (Nat.le_add_right _ _)
theorem CD.cs {s : Nat} {F : Nat → Rat} (a : Rat) (h : CD s F) : CD (s + qsz a + 1) (cs a F) := by
 obtain ⟨D, X, h0, hD, hX⟩ := h
 refine ⟨_, _, h0.cs a, ?_, ?_⟩
 ·have := sz_mul D a.den; unfold qsz; omega
 ·have a2 := sz_add (X * a.den) (a.num.natAbs * D)
  have a3 := sz_mul X a.den
  have a4 := sz_mul a.num.natAbs D
  unfold qsz; omega
theorem CD.of {n k : Nat} {F : Nat → Rat} (h : Sup n F) (hk : ∀ i, i < n → qsz (F i) ≤ k) : CD (1 + n * (k + 1)) F := by
 induction n generalizing F with
 | zero => rw [h.zero]; exact CD.pz.mono (by omega)
 | succ n ih =>
  have := (ih h.tl fun i hi => hk (i + 1) (by omega)).cs (F 0)
  rw [cs_tl] at this
  have h0 := hk 0 (by omega)
  refine this.mono ?_
  rw [Nat.succ_mul]; omega
theorem CB.cv {n D X E Y : Nat} {F G : Nat → Rat} (hs : Sup n F) (h : CB D X F) (k : CB E Y G) : CB (D * E) (n * (X * Y)) (cv F G) := by
 have h0 := h.1
 have k0 := k.1
 have h1 := natq h0
 have h2 := natq k0
 refine ⟨Nat.mul_pos h0 k0, fun i => ?_⟩
 induction n generalizing F i with
 | zero => rw [hs.zero, pz_cv]; exact ⟨0, by show (0 : Rat) = _; grind, by simp⟩
 | succ n ih =>
  have ht : CB D X (tl F) := ⟨h0, fun i => h.2 (i + 1)⟩
  obtain ⟨a, ea, ha⟩ := h.2 0
  obtain ⟨b, eb, hb⟩ := k.2 i
  have hab : (a * b).natAbs ≤ X * Y := by rw [Int.natAbs_mul]; exact Nat.mul_le_mul ha hb
  cases i with
  | zero =>
   refine ⟨a * b, ?_, ?_⟩
   ·rw [cv_zero, ea, eb, Rat.intCast_mul, Rat.natCast_mul]; grind
   ·rw [Nat.succ_mul]; omega
  | succ i =>
   obtain ⟨m, em, hm⟩ := ih hs.tl ht i
   refine ⟨a * b + m, ?_, ?_⟩
   ·rw [cv_succ, ea, eb, em, Rat.intCast_add, Rat.intCast_mul, Rat.natCast_mul]; grind
   ·have := Int.natAbs_add_le (a * b) m
    rw [Nat.succ_mul]; omega
theorem CD.cv {n s t : Nat} {F G : Nat → Rat} (hs : Sup n F) (hn : n < 4294967296) (h : CD s F) (k : CD t G) : CD (s + t + 1) (cv F G) := by
 obtain ⟨D, X, h0, hD, hX⟩ := h
 obtain ⟨E, Y, k0, hE, hY⟩ := k
 refine ⟨_, _, h0.cv hs k0, ?_, ?_⟩
 ·have := sz_mul D E; omega
 ·have a2 := sz_mul n (X * Y)
  have a3 := sz_mul X Y
  have := sz_small hn
  omega
theorem CB.step {n D X E Y : Nat} {R G : Nat → Rat} (hG : Fin_ G) (h0 : G ≠ Hp.pz) (h : CB D X R) (k : CB E Y G) {M : Int} (hM : ld G = (M : Rat) / (E : Rat)) :
  CB (D * M.natAbs) (2 * (X * max Y M.natAbs)) (Hp.psb R (Hp.cv (Hp.mono n (R (n + pl G - 1) / ld G)) G)) := by
 have hl := ld_ne hG h0
 have h1 := natq h.1
 have h2 := natq k.1
 have hM0 : M ≠ 0 := by rintro rfl; apply hl; rw [hM]; grind
 have hMq : (M : Rat) ≠ 0 := by simpa using hM0
 refine ⟨Nat.mul_pos h.1 (by omega), fun i => ?_⟩
 obtain ⟨a, ea, ha⟩ := h.2 i
 obtain ⟨b, eb, hb⟩ := h.2 (n + pl G - 1)
 obtain ⟨g, eg, hg⟩ : ∃ g : Int, sh n G i = (g : Rat) / (E : Rat) ∧ g.natAbs ≤ Y := by
  unfold sh
  split
  ·exact ⟨0, by grind, by simp⟩
  ·exact k.2 _
 have key : Hp.psb R (Hp.cv (Hp.mono n (R (n + pl G - 1) / ld G)) G) i = ((a * M - b * g : Int) : Rat) / ((D : Rat) * (M : Rat)) := by
  rw [mono_cv]
  show R i - _ * sh n G i = _
  rw [ea, eb, eg, hM, Rat.intCast_sub, Rat.intCast_mul, Rat.intCast_mul]
  generalize (M : Rat) = m at *
  generalize (E : Rat) = e at *
  generalize (D : Rat) = d at *
  grind
 have hbd : (a * M - b * g).natAbs ≤ 2 * (X * max Y M.natAbs) := by
  have h1 := Int.natAbs_sub_le (a * M) (b * g)
  rw [Int.natAbs_mul, Int.natAbs_mul] at h1
  have h2 : a.natAbs * M.natAbs ≤ X * max Y M.natAbs := Nat.mul_le_mul ha (Nat.le_max_right _ _)
  have h3 : b.natAbs * g.natAbs ≤ X * max Y M.natAbs := Nat.mul_le_mul hb (Nat.le_trans hg (Nat.le_max_left _ _))
  omega
 rcases Int.le_total 0 M with hp | hp
 ·refine ⟨a * M - b * g, ?_, hbd⟩
  rw [key, Rat.natCast_mul]
  congr 2
  rw [← Rat.intCast_natCast]; congr 1; omega
 ·refine ⟨-(a * M - b * g), ?_, by rw [Int.natAbs_neg]; exact hbd⟩
  rw [key, Rat.natCast_mul]
  have : ((M.natAbs : Nat) : Rat) = -(M : Rat) := by rw [← Rat.intCast_natCast, ← Rat.intCast_neg]; congr 1; omega
  rw [this]
  generalize (M : Rat) = m at *
  rw [Rat.intCast_neg]; grind
theorem CB.lead {E Y : Nat} {G : Nat → Rat} (k : CB E Y G) : ∃ M : Int, ld G = (M : Rat) / (E : Rat) ∧ M.natAbs ≤ Y := k.2 _
theorem CD.step {n s t : Nat} {R G : Nat → Rat} (hG : Fin_ G) (h0 : G ≠ Hp.pz) (h : CD s R) (k : CD t G) : CD (s + t + 1) (Hp.psb R (Hp.cv (Hp.mono n (R (n + pl G - 1) / ld G)) G)) := by
 obtain ⟨D, X, h1, hD, hX⟩ := h
 obtain ⟨E, Y, k1, hE, hY⟩ := k
 obtain ⟨M, e, hM⟩ := k1.lead
 refine ⟨_, _, h1.step hG h0 k1 e, ?_, ?_⟩
 ·have := sz_mul D M.natAbs; have := sz_mono hM; omega
 ·rw [Nat.max_eq_left hM]
  have := sz_mul 2 (X * Y)
  have := sz_mul X Y
  have : sz 2 = 1 := by decide
  omega
theorem div_rec {n : Nat} {F G : Nat → Rat} (hF : Sup (n + pl G) F) (hG : Fin_ G) (h0 : G ≠ pz) :
  pr F G = pr (psb F (cv (mono n (F (n + pl G - 1) / ld G)) G)) G ∧ pq F G = pad (mono n (F (n + pl G - 1) / ld G)) (pq (psb F (cv (mono n (F (n + pl G - 1) / ld G)) G)) G) := by
 obtain ⟨F', hF'⟩ : ∃ F', F' = psb F (cv (mono n (F (n + pl G - 1) / ld G)) G) := ⟨_, rfl⟩
 rw [← hF']
 have hfin : Fin_ F' := by rw [hF']; exact Fin_.psb ⟨_, hF⟩ ((Fin_.mono _ _).cv hG)
 have := div_eq ⟨_, hF⟩ hG h0 (Q := pad (mono n (F (n + pl G - 1) / ld G)) (pq F' G)) (R := pr F' G) ((Fin_.mono _ _).pad (pq_fin _ _)) ?_ (pr_sup hfin hG h0)
 ·exact ⟨this.2.symm, this.1.symm⟩
 ·have e := pq_pr F' G
  rw [pad_cv]
  funext m
  have e := congrFun e m
  have e2 := congrFun hF' m
  simp only [pad, psb] at e e2 ⊢
  grind
theorem div_low {F G : Nat → Rat} (hF : Sup (pl G - 1) F) (hG : Fin_ G) (h0 : G ≠ pz) : pr F G = F ∧ pq F G = pz := by
 have := div_eq ⟨_, hF⟩ hG h0 (Q := pz) (R := F) Fin_.pz (by rw [pz_cv]; funext m; simp only [pad, pz]; grind) hF
 exact ⟨this.2.symm, this.1.symm⟩
theorem CD.pr {n s t : Nat} {F G : Nat → Rat} (hF : Sup (n + pl G - 1) F) (hG : Fin_ G) (h0 : G ≠ Hp.pz) (h : CD s F) (k : CD t G) : CD (s + n * (t + 1)) (pr F G) := by
 have hp := pl_pos hG h0
 induction n generalizing s F with
 | zero => rw [Nat.zero_add] at hF; rw [(div_low hF hG h0).1]; exact h.mono (by omega)
 | succ n ih =>
  have hF' : Sup (n + pl G) F := hF.mono (by omega)
  rw [(div_rec hF' hG h0).1]
  refine (ih (div_step hG h0 hF') (h.step hG h0 k)).mono ?_
  rw [Nat.succ_mul]; omega
theorem pq_sup {n : Nat} {F G : Nat → Rat} (hF : Sup (n + pl G - 1) F) (hG : Fin_ G) (h0 : G ≠ pz) : Sup n (pq F G) := by
 have hp := pl_pos hG h0
 induction n generalizing F with
 | zero => rw [Nat.zero_add] at hF; rw [(div_low hF hG h0).2]; exact Sup.pz 0
 | succ n ih =>
  have hF' : Sup (n + pl G) F := hF.mono (by omega)
  rw [(div_rec hF' hG h0).2]
  exact (mono_sup n _).pad ((ih (div_step hG h0 hF')).mono (by omega))
theorem pq_qsz {n s t : Nat} {F G : Nat → Rat} (hF : Sup (n + pl G - 1) F) (hG : Fin_ G) (h0 : G ≠ pz) (h : CD s F) (k : CD t G) (i : Nat) : qsz (pq F G i) ≤ s + n * (t + 1) + t := by
  have hp := pl_pos hG h0
  induction n generalizing s F with
  | zero => rw [Nat.zero_add] at hF; rw [(div_low hF hG h0).2]; have := h.pos; show qsz 0 ≤ _; have : qsz 0 = 1 := by decide
            omega
  | succ n ih =>
    have hF' : Sup (n + pl G) F := hF.mono (by omega)
    have h1 := ih (div_step hG h0 hF') (h.step hG h0 k)
    have h2 := pq_sup (div_step hG h0 hF') hG h0
    rw [(div_rec hF' hG h0).2]
    show qsz (mono n _ i + _) ≤ _
    by_cases hi : i = n
    · rw [hi, mono_at, h2 n (by omega)]
      have := qsz_div (F (n + pl G - 1)) (ld G)
      have := h.elem (n + pl G - 1)
      have : qsz (ld G) ≤ t := k.elem _
      have e : F (n + pl G - 1) / ld G + 0 = F (n + pl G - 1) / ld G := by grind
      rw [e, Nat.succ_mul]; omega
    · rw [mono_off hi]
      have e : ∀ a : Rat, 0 + a = a := fun a => by grind
      rw [e, Nat.succ_mul]; omega
theorem CD.pq {n s t : Nat} {F G : Nat → Rat} (hF : Sup (n + pl G - 1) F) (hG : Fin_ G) (h0 : G ≠ Hp.pz) (h : CD s F) (k : CD t G) : CD (1 + n * (s + n * (t + 1) + t + 1)) (pq F G) :=
 CD.of (pq_sup hF hG h0) fun i _ => pq_qsz hF hG h0 h k i
end Go.Hp
namespace Go.Hp
open Go.RowKit
theorem co_app_lt {l m : List Rat} {i : Nat} (h : i < l.length) : co (l ++ m) i = co l i := by
 rw [co_lt (by simp; omega), co_lt h, List.getElem_append_left h]
theorem co_ge {l : List Rat} {i : Nat} (h : l.length ≤ i) : co l i = 0 := co_sup l i h
theorem co_trimR (l : List Rat) : co (trimR l) = co l := by
 refine snoc_ind (p := fun l => co (trimR l) = co l) rfl (fun l d ih => ?_) l
 by_cases h : d = 0
 ·subst h
  rw [trimR_snoc_zero, ih]
  funext i
  rcases Nat.lt_or_ge i l.length with hi | hi
  ·rw [co_app_lt hi]
  ·rw [co_ge hi]
   rcases Nat.eq_or_lt_of_le hi with e | e
   ·subst e; rw [co_lt (by simp)]; simp
   ·rw [co_ge (by simp; omega)]
 ·rw [trimR_snoc _ _ h]
def TopR (l : List Rat) : Prop := ∀ h : 0 < l.length, l[l.length - 1] ≠ 0
theorem topR_trim (l : List Rat) : TopR (trimR l) := by
 refine snoc_ind (p := fun l => TopR (trimR l)) (fun h => absurd h (by simp [trimR])) (fun l d ih => ?_) l
 by_cases h : d = 0
 ·subst h; rw [trimR_snoc_zero]; exact ih
 ·rw [trimR_snoc _ _ h]; intro _; simpa using h
theorem TopR.pl {l : List Rat} (h : TopR l) : pl (co l) = l.length := by
 refine pl_eq (co_sup l) fun h0 => ?_
 rw [co_lt (by omega)]; exact h h0
theorem co_ext {l m : List Rat} (hl : l.length = m.length) (h : co l = co m) : l = m := by
 apply List.ext_getElem hl
 intro i h1 h2
 have := congrFun h i
 rwa [co_lt h1, co_lt h2] at this
theorem TopR.uniq {l m : List Rat} (h : TopR l) (k : TopR m) (e : co l = co m) : l = m := co_ext (by rw [← h.pl, ← k.pl, e]) e
def IsP (base : Nat) (w : World) (v : Value) (F : Nat → Rat) : Prop := ∃ l, QsV base w v l ∧ TopR l ∧ co l = F
theorem IsP.ext {base : Nat} {w w' : World} {v : Value} {F : Nat → Rat} (h : IsP base w v F) (e : Ext w w') : IsP base w' v F := by
 obtain ⟨l, h1, h2, h3⟩ := h; exact ⟨l, h1.ext e, h2, h3⟩
theorem IsP.base_le {base b : Nat} {w : World} {v : Value} {F : Nat → Rat} (h : IsP base w v F) (hb : b ≤ base) : IsP b w v F := by
 obtain ⟨l, h1, h2, h3⟩ := h; exact ⟨l, h1.base_le hb, h2, h3⟩
theorem IsP.fin {base : Nat} {w : World} {v : Value} {F : Nat → Rat} (h : IsP base w v F) : Fin_ F := by
 obtain ⟨l, _, _, rfl⟩ := h; exact Fin_.co l
theorem QsV.has {base : Nat} {w : World} {v : Value} {l : List Rat} (h : QsV base w v l) (hs : ∀ q ∈ l, qsz q ≤ 274877906944) : HsV 0 w v l := by
 obtain ⟨A, c, h1, h2, h3, h4⟩ := h
 refine ⟨A, c, h1, h2, h3, fun h0 => ?_⟩
 obtain ⟨g, o, q1, q2, q3⟩ := h4 h0
 refine ⟨g, o, q1, Nat.zero_le _, fun j hj => ?_⟩
 obtain ⟨cs, r1, r2, r3⟩ := q3 j hj
 exact ⟨cs, r1, r2, r3.has (hs _ (List.getElem_mem hj))⟩
theorem IsP.form {base : Nat} {w : World} {v : Value} {F : Nat → Rat} (h : IsP base w v F) : ∃ A c l, v = .slice A (pl F) c ∧ pl F ≤ c ∧ c ≤ 9223372036854775807 ∧ QsAt base w A l ∧ l.length = pl F ∧ TopR l ∧ co l = F := by
 obtain ⟨l, ⟨A, c, h1, h2, h3, h4⟩, h5, rfl⟩ := h
 have := h5.pl
 exact ⟨A, c, l, by rw [this]; exact h1, by omega, h3, h4, this.symm, h5, rfl⟩
theorem IsP.qs {base : Nat} {w : World} {v : Value} {F : Nat → Rat} (h : IsP base w v F) : ∃ l, QsV base w v l ∧ l.length = pl F ∧ TopR l ∧ co l = F := by
 obtain ⟨l, h1, h5, rfl⟩ := h
 exact ⟨l, h1, h5.pl.symm, h5, rfl⟩
theorem mem_co {l : List Rat} {q : Rat} (h : q ∈ l) : ∃ i, q = co l i := by
 obtain ⟨i, hi, e⟩ := List.getElem_of_mem h
 exact ⟨i, by rw [co_lt hi, e]⟩
theorem IsP.hs {base : Nat} {w : World} {v : Value} {F : Nat → Rat} (h : IsP base w v F) (hs : ∀ i, qsz (F i) ≤ 274877906944) : ∃ l, HsV 0 w v l ∧ l.length = pl F ∧ TopR l ∧ co l = F := by
 obtain ⟨l, h1, h2, h3, rfl⟩ := h.qs
 exact ⟨l, h1.has (fun q hq => by obtain ⟨i, rfl⟩ := mem_co hq; exact hs i), h2, h3, rfl⟩
theorem IsP.of_trim {base : Nat} {w : World} {v : Value} {l : List Rat} {F : Nat → Rat} (h : QsV base w v (trimR l)) (e : co l = F) : IsP base w v F :=
 ⟨_, h, topR_trim l, by rw [co_trimR, e]⟩
theorem IsP.nil (base : Nat) (w : World) (c : Nat := 0) : IsP base w (.slice none 0 0) pz := ⟨[], RowV.nil 4 IsQ base w, fun h => absurd h (by simp), co_nil⟩
theorem HsV.qsz {base : Nat} {w : World} {v : Value} {l : List Rat} (h : HsV base w v l) : ∀ q ∈ l, Hp.qsz q ≤ 274877906944 := by
 obtain ⟨A, c, h1, h2, h3, h4⟩ := h
 intro q hq
 obtain ⟨i, hi, rfl⟩ := List.getElem_of_mem hq
 obtain ⟨g, o, q1, q2, q3⟩ := h4 (by omega)
 obtain ⟨cs, r1, r2, r3⟩ := q3 i hi
 exact r3.qsz
end Go.Hp
namespace Go.Hp
open Go.RowKit
def nodig (cs : Array Value) : Bool := cs.all fun u => !isDig u
def OwnC (k : Nat) (base : Nat) (e : TypeId) (w : World) (v : Value) (n : Nat) (xs : List Value) : Prop :=
 xs.length = n * k ∧ ((v = .slice none 0 0 ∧ n = 0) ∨ ∃ g cap cur, v = .slice (some ⟨g, 0, none⟩) n cap ∧ base ≤ g ∧ Box w g e cur ∧ n ≤ cap ∧ cap ≤ maxLen ∧ cur.size = cap * k ∧ cur.toList.take (n * k) = xs)
def blk (v : Value) : List Nat := v.ownBlock.toList
theorem OwnC.owns {k base : Nat} {e : TypeId} {w : World} {v : Value} {n : Nat} {xs : List Value} (h : OwnC k base e w v n xs) : w.ownsRow base e k v n xs := by
 obtain ⟨h1, h2⟩ := h
 refine ⟨h1, ?_⟩
 rcases h2 with h2 | ⟨g, cap, cur, a, b, c, d⟩
 ·exact .inl h2
 ·exact .inr ⟨g, cap, cur, a, b, c.1, d⟩
theorem all_list {cs : Array Value} : cs.all (fun u => !isDig u) = true ↔ ∀ u ∈ cs.toList, isDig u = false := by
 rw [Array.all_eq_true_iff_forall_mem]
 constructor
 ·intro h u hu; simpa using h u (by simpa using hu)
 ·intro h u hu; simpa using h u (by simpa using hu)
theorem kd_block {w w' : World} {g : Nat} {e : TypeId} {cur : Array Value} (hb : Box w g e cur) (ho : ∀ h, h ≠ g → h < w.heap.size → w'.heap[h]? = w.heap[h]?) : KD w w' := by
 intro p n hp
 have hlt := World.block_lt_of_cell? w p hp
 by_cases e' : p.block = g
 ·exfalso
  obtain ⟨pb, po, ps⟩ := p
  simp only at e'
  subst e'
  have : ps = none := by
   unfold World.cell? at hp
   simp only [hb.1] at hp
   cases ps with
   | none => rfl
   | some _ => simp at hp
  subst this
  exact hb.nodig po n hp
 ·rw [World.cell?_of_block (ho _ e' hlt)]; exact hp
section
variable {P : Program}
theorem run_append_one (w : World) (k base : Nat) (t ty e : TypeId) (i : TypeInfo) (z : Value) (bytes : Nat) (ht : P.underlying t = some (.slice e)) (hi : P.info? e = some i) (hz : i.zero = some z)
  (hsize : i.size = k) (hby : i.bytes = bytes) (hzs : z.cells.size = k) (hzd : nodig z.cells = true) (hsz : 0 < k)
  (v : Value) (n : Nat) (xs : List Value) (hown : OwnC k base e w v n xs)
  (a : Addr) (c : Nat) (news : List Value) (hl : news.length = k) (hnews : ∀ j u, news[j]? = some u → w.cell? (a.add j) = some u) (h1 : ∀ u ∈ news, u.oneCell' = true) (hnd : ∀ u ∈ news, isDig u = false)
  (h63 : n + 1 ≤ maxLen) (hbytes : (n + 1) * bytes ≤ 140737488355328) (hbase : base ≤ w.heap.size) :
  ∃ v' w', (Builtin.append_ #[t, t] ty #[v, .slice (some a) 1 c]).run P w = .ok v' w' ∧ OwnC k base e w' v' (n + 1) (xs ++ news) ∧ Upd (blk v) w w' := by
 subst hsize
 subst hby
 have hl' : news.length = 1 * i.size := by rw [Nat.one_mul]; exact hl
 have hlen : (xs ++ news).length = (n + 1) * i.size := by rw [List.length_append, hown.1, hl, Nat.succ_mul]
 have hsmall : n + 1 ≤ 9223372036854775807 := by simp only [maxLen] at h63; omega
 have hzl := all_list.1 hzd
 have hzc : ∀ m, ∀ u ∈ (Builtin.zeroCells z.cells m).toList, isDig u = false := by
  intro m u hu
  simp only [Builtin.zeroCells, Array.toList_map, Array.toList_range, List.mem_map, List.mem_range] at hu
  obtain ⟨j, hj, rfl⟩ := hu
  have : j % z.cells.size < z.cells.size := Nat.mod_lt _ (by omega)
  rw [getElem!_pos z.cells _ this]
  exact hzl _ (by simp)
 have hxd : ∀ u ∈ xs, isDig u = false := by
  rcases hown.2 with ⟨_, h0⟩ | ⟨g, cap, cur, _, _, hb, _, _, _, htake⟩
  ·intro u hu
   have : xs = [] := List.eq_nil_of_length_eq_zero (by rw [hown.1, h0, Nat.zero_mul])
   rw [this] at hu; cases hu
  ·intro u hu
   rw [← htake] at hu
   exact all_list.1 hb.2 _ (List.mem_of_mem_take hu)
 have grown : ∀ (old : Nat), old < n + 1 →
   OwnC i.size base e (w.drew.alloc (.cells (xs.toArray ++ news.toArray ++ Builtin.zeroCells z.cells (grownCap w (n + 1) old e - (n + 1))) e)) (.slice (some ⟨w.heap.size, 0, none⟩) (n + 1) (grownCap w (n + 1) old e)) (n + 1) (xs ++ news) ∧
   ∀ G, Upd G w (w.drew.alloc (.cells (xs.toArray ++ news.toArray ++ Builtin.zeroCells z.cells (grownCap w (n + 1) old e - (n + 1))) e)) := by
  intro old ho
  have hge := grownCap_ge w (n + 1) old e
  have hcm : grownCap w (n + 1) old e ≤ maxLen := grownCap_le_maxLen w (n + 1) old e h63
  refine ⟨⟨hlen, .inr ⟨w.heap.size, _, _, rfl, hbase, ⟨heap_alloc_new w.drew _, ?_⟩, hge, hcm, ?_, ?_⟩⟩, fun G => Upd.of_ext ((Ext.refl w).drew.alloc _)⟩
  ·rw [all_list]
   intro u hu
   simp only [Array.toList_append, List.mem_append] at hu
   rcases hu with (hu | hu) | hu
   ·exact hxd u (by simpa using hu)
   ·exact hnd u (by simpa using hu)
   ·exact hzc _ u hu
  ·simp only [Array.size_append, List.size_toArray, size_zeroCells, hzs, hown.1, hl]
   rw [← Nat.succ_mul, ← Nat.add_mul]
   congr 1
   omega
  ·simp only [Array.toList_append, List.append_assoc]
   rw [← List.append_assoc, ← hlen]
   exact List.take_left
 rcases hown.2 with ⟨rfl, rfl⟩ | ⟨g, cap, cur, rfl, hbg, hb, hnc, hcm, hcs, htake⟩
 ·have hx : xs = [] := List.eq_nil_of_length_eq_zero (by simpa using hown.1)
  subst hx
  have hr := run_append_nil (P := P) w t ty e i z ht hi hz a 1 c news hl' hnews (by omega) (by omega) (by have hb := hbytes; simp only [Nat.zero_add] at hb; omega)
  have hgr := grown 0 (by omega)
  simp only [Nat.zero_add, List.nil_append, Array.empty_append] at hgr ⊢
  exact ⟨_, _, hr, hgr.1, hgr.2 _⟩
 ·have hg := hb.1
  by_cases hroom : n + 1 ≤ cap
  ·have hfit : n * i.size + news.length ≤ cur.size := by rw [hl, hcs, ← Nat.succ_mul]; exact Nat.mul_le_mul_right _ hroom
   have hr := run_append_room (P := P) w t ty e i ht hi g n cap cur hg a 1 c news hl' hnews h1 hroom hfit
   have hnew : ∀ u ∈ cur.toList.take (n * i.size) ++ news ++ cur.toList.drop (n * i.size + news.length), isDig u = false := by
    intro u hu
    simp only [List.mem_append] at hu
    rcases hu with (hu | hu) | hu
    ·exact all_list.1 hb.2 _ (List.mem_of_mem_take hu)
    ·exact hnd u hu
    ·exact all_list.1 hb.2 _ (List.mem_of_mem_drop hu)
   have hbx : Box (w.setRow g (cur.toList.take (n * i.size) ++ news ++ cur.toList.drop (n * i.size + news.length)).toArray) g e _ := ⟨setRow_heap w g cur _ e _ hg, all_list.2 (by simpa using hnew)⟩
   refine ⟨_, _, hr, ⟨hlen, .inr ⟨g, cap, _, rfl, hbg, hbx, hroom, hcm, ?_, ?_⟩⟩, ⟨fun g' o hg' ho => ?_, kd_block hb fun h hne _ => setRow_other w g h _ hne, fun a' ha hG => ?_⟩⟩
   ·simp only [List.size_toArray, List.length_append, List.length_take, List.length_drop, Array.length_toList]
    omega
   ·rw [htake, ← hlen]
    exact List.take_left
   ·rw [setRow_other w g g' _ (fun e => hg' (by simp [blk, Value.ownBlock, e]))]; exact ho
   ·have hga : a'.heap.size ≤ g := hG g (by simp [blk, Value.ownBlock])
    exact ha.grown (row := some g) ⟨rfl, rfl, rfl, by simp [World.setRow], fun k _ hk => setRow_other w g k _ (fun e => hk (by rw [e]))⟩ (fun k hk => by cases hk; exact hga)
  ·have holds : ∀ j u, xs[j]? = some u → w.cell? ((⟨g, 0, none⟩ : Addr).add j) = some u := hown.owns.cells (g := g) rfl
   have hr := run_append_grow (P := P) w t ty e i z ht hi hz ⟨g, 0, none⟩ n cap xs hown.1 holds a 1 c news hl' hnews (by omega) (by omega) (growslice_fits (by omega) hbytes)
   have hgr := grown cap (by omega)
   exact ⟨_, _, hr, hgr.1, hgr.2 _⟩
end
theorem news_new (w : World) (t : TypeId) (cs : Array Value) : ∀ j u, cs.toList[j]? = some u → (w.alloc (.cells cs t)).cell? ((⟨w.heap.size, 0, none⟩ : Addr).add j) = some u := by
 intro j u h
 have e : (⟨w.heap.size, 0, none⟩ : Addr).add j = ⟨w.heap.size, j, none⟩ := by unfold Addr.add; split <;> simp_all
 rw [e, cell_of_row _ w.heap.size j cs t (0, 0) (heap_alloc_new w _)]
 simpa using h
theorem wpList_append_run {P : Program} {ops : Array Oper} {rest : List Oper} {o : Oper} {a : Act} {w : World} {Q : Exit → Act → World → Prop} (hgd : o.guard = none) (s x : Operand) (t : TypeId)
  (ho : o.op = .call { callee := .builtin .append, args := #[s, x], argTypes := #[t, t] }) (v u : Value) (hs : a.eval s = v) (hx : a.eval x = u) {R : Value → World → Prop}
  (hrun : ∃ v' w', (Builtin.append_ #[t, t] o.type #[v, u]).run P w = .ok v' w' ∧ R v' w')
  (h : ∀ v' w', R v' w' → wpList P ops Q rest (a.put o.dst v') w') : wpList P ops Q (o :: rest) a w :=
 wpList_plain hgd fun _ hK => by
  obtain ⟨v', w', hr, hR⟩ := hrun
  unfold Oper.wp execOp
  simp only [ho, resolve, invoke, builtin, Sem.run_bind, Sem.run_pure, Result.andThen_ok, List.map_toArray, List.map_cons, List.map_nil, hs, hx, hr]
  exact hK _ _ (h v' w' hR)
/-! ### read as elements -/
section
variable {α : Type}
def OwnR (k : Nat) (rd : World → Value → α → Prop) (base : Nat) (e : TypeId) (w : World) (v : Value) (l : List α) : Prop :=
 ∃ ess : List (Array Value), ess.length = l.length ∧ (∀ c ∈ ess, c.size = k) ∧ OwnC k base e w v l.length (ess.flatMap Array.toList) ∧ ∀ j (h : j < l.length) (h' : j < ess.length), rd w (.agg ess[j]) l[j]
theorem flat_get {k : Nat} : ∀ {ess : List (Array Value)}, (∀ c ∈ ess, c.size = k) → ∀ {j i : Nat} (h : j < ess.length), i < k → (ess.flatMap Array.toList)[j * k + i]? = (ess[j])[i]?
 | [], _, j, i, h, _ => by simp at h
 | c :: ess, hs, j, i, h, hi => by
  have hc := hs c (by simp)
  rw [List.flatMap_cons]
  cases j with
  | zero =>
   rw [Nat.zero_mul, Nat.zero_add, List.getElem?_append_left (by simp [hc, hi])]
   simp
  | succ j =>
   rw [List.getElem?_append_right (by simp [hc, Nat.succ_mul]; omega)]
   have : (j + 1) * k + i - c.toList.length = j * k + i := by simp [hc, Nat.succ_mul]; omega
   rw [this]
   exact flat_get (fun d hd => hs d (by simp [hd])) (by simpa using h) hi
variable {k : Nat} {rd : World → Value → α → Prop} {base : Nat} {e : TypeId} {w w' : World} {v : Value} {l : List α}
theorem OwnR.nil (k : Nat) (rd : World → Value → α → Prop) (base : Nat) (e : TypeId) (w : World) : OwnR k rd base e w (.slice none 0 0) [] :=
 ⟨[], rfl, fun _ h => by simp at h, ⟨by simp, .inl ⟨rfl, rfl⟩⟩, fun j h => by simp at h⟩
theorem OwnR.row (h : OwnR k rd base e w v l) : RowV k rd base w v l := by
 obtain ⟨ess, h1, h2, ⟨h3, h4⟩, h5⟩ := h
 rcases h4 with ⟨rfl, h0⟩ | ⟨g, cap, cur, rfl, hbg, hb, hnc, hcm, hcs, htake⟩
 ·obtain rfl := List.eq_nil_of_length_eq_zero h0
  exact RowV.nil k rd base w
 ·refine ⟨_, cap, rfl, hnc, maxLen_le hcm, fun _ => ⟨g, 0, rfl, hbg, fun j hj => ⟨ess[j]'(by omega), h2 _ (List.getElem_mem _), fun i hi => ?_, h5 j hj _⟩⟩⟩
  rw [Nat.zero_add, cell_of_row w g (j * k + i) cur e (0, 0) hb.1]
  have hlt : j * k + i < l.length * k := by
   have : (j + 1) * k ≤ l.length * k := Nat.mul_le_mul_right _ hj
   rw [Nat.succ_mul] at this; omega
  rw [← flat_get h2 (by omega) hi, ← htake, List.getElem?_take_of_lt hlt]
  simp
theorem OwnR.ext (h : OwnR k rd base e w v l) (x : Ext w w') (hr : ∀ u y, rd w u y → rd w' u y) : OwnR k rd base e w' v l := by
 obtain ⟨ess, h1, h2, ⟨h3, h4⟩, h5⟩ := h
 refine ⟨ess, h1, h2, ⟨h3, ?_⟩, fun j a b => hr _ _ (h5 j a b)⟩
 rcases h4 with h4 | ⟨g, cap, cur, a, b, c, d⟩
 ·exact .inl h4
 ·exact .inr ⟨g, cap, cur, a, b, c.ext x, d⟩
theorem OwnR.upd {G : List Nat} (h : OwnR k rd base e w v l) (U : Upd G w w') (hg : ∀ g ∈ blk v, g ∉ G) (hr : ∀ u y, rd w u y → rd w' u y) : OwnR k rd base e w' v l := by
 obtain ⟨ess, h1, h2, ⟨h3, h4⟩, h5⟩ := h
 refine ⟨ess, h1, h2, ⟨h3, ?_⟩, fun j a b => hr _ _ (h5 j a b)⟩
 rcases h4 with h4 | ⟨g, cap, cur, rfl, b, c, d⟩
 ·exact .inl h4
 ·exact .inr ⟨g, cap, cur, rfl, b, c.upd U (hg g (by simp [blk, Value.ownBlock])), d⟩
theorem OwnR.blk_ge (h : OwnR k rd base e w v l) : ∀ g ∈ blk v, base ≤ g ∧ g < w.heap.size := by
 obtain ⟨ess, h1, h2, ⟨h3, h4⟩, h5⟩ := h
 rcases h4 with ⟨rfl, _⟩ | ⟨g, cap, cur, rfl, b, c, d⟩
 ·intro g hg; simp [blk, Value.ownBlock] at hg
 ·intro g' hg; simp [blk, Value.ownBlock] at hg; subst hg; exact ⟨b, c.lt⟩
theorem OwnR.len (h : OwnR k rd base e w v l) : ∃ A c, v = .slice A l.length c := h.row.len
theorem OwnR.append {P : Program} (h : OwnR k rd base e w v l) (t ty : TypeId) (i : TypeInfo) (z : Value) (bytes : Nat) (ht : P.underlying t = some (.slice e)) (hi : P.info? e = some i) (hz : i.zero = some z)
  (hsize : i.size = k) (hby : i.bytes = bytes) (hzs : z.cells.size = k) (hzd : nodig z.cells = true) (hsz : 0 < k) {x : α}
  (a : Addr) (c : Nat) (news : Array Value) (hl : news.size = k) (hx : rd w (.agg news) x) (hnews : ∀ j u, news.toList[j]? = some u → w.cell? (a.add j) = some u) (h1 : ∀ u ∈ news.toList, u.oneCell' = true) (hnd : nodig news = true)
  (h63 : l.length + 1 ≤ maxLen) (hbytes : (l.length + 1) * bytes ≤ 140737488355328) (hbase : base ≤ w.heap.size) (hr : ∀ w' u y, KD w w' → rd w u y → rd w' u y) :
  ∃ v' w', (Builtin.append_ #[t, t] ty #[v, .slice (some a) 1 c]).run P w = .ok v' w' ∧ OwnR k rd base e w' v' (l ++ [x]) ∧ Upd (blk v) w w' := by
 obtain ⟨ess, g1, g2, g3, g5⟩ := h
 obtain ⟨v', w', hrun, hown, hupd⟩ := run_append_one (P := P) w k base t ty e i z bytes ht hi hz hsize hby hzs hzd hsz v l.length _ g3 a c news.toList (by simpa using hl) hnews h1 (all_list.1 hnd) h63 hbytes hbase
 refine ⟨v', w', hrun, ⟨ess ++ [news], by simp [g1], ?_, ?_, ?_⟩, hupd⟩
 ·intro d hd
  rcases List.mem_append.1 hd with hd | hd
  ·exact g2 d hd
  ·simp at hd; subst hd; exact hl
 ·have e1 : (ess ++ [news]).flatMap Array.toList = ess.flatMap Array.toList ++ news.toList := by simp
  rw [e1, List.length_append]
  exact hown
 ·intro j hj hj'
  rcases Nat.lt_or_ge j l.length with hlt | hge
  ·rw [List.getElem_append_left hlt, List.getElem_append_left (by omega)]
   exact hr _ _ _ hupd.kd (g5 j hlt (by omega))
  ·have : j = l.length := by simp at hj; omega
   subst this
   rw [List.getElem_append_right (by omega), List.getElem_append_right (by omega)]
   simpa using hr _ _ _ hupd.kd hx
end
def NewEl {α : Type} (k : Nat) (rd : World → Value → α → Prop) (w : World) (v : Value) (base : Nat) (x : α) (t : TypeId) : Prop := ∃ g cs, v = .slice (some ⟨g, 0, none⟩) 1 1 ∧ base ≤ g ∧ Box w g t cs ∧ cs.size = k ∧ rd w (.agg cs) x
theorem NewEl.ext {α : Type} {k : Nat} {rd : World → Value → α → Prop} {w w' : World} {v : Value} {base : Nat} {x : α} {t : TypeId} (h : NewEl k rd w v base x t) (e : Ext w w') (hr : ∀ u y, rd w u y → rd w' u y) : NewEl k rd w' v base x t := by
 obtain ⟨g, cs, h1, h2, h3, h4, h5⟩ := h; exact ⟨g, cs, h1, h2, h3.ext e, h4, hr _ _ h5⟩
theorem Box.news {w : World} {g : Nat} {t : TypeId} {cs : Array Value} (h : Box w g t cs) : ∀ j u, cs.toList[j]? = some u → w.cell? ((⟨g, 0, none⟩ : Addr).add j) = some u := by
 intro j u hu
 have e : (⟨g, 0, none⟩ : Addr).add j = ⟨g, j, none⟩ := by unfold Addr.add; split <;> simp_all
 rw [e]
 exact h.cell (by simpa using hu)
def NewQ (w : World) (v : Value) (base : Nat) (q : Rat) (t : TypeId) : Prop := NewEl 4 IsQ w v base q t
theorem NewQ.ext {w w' : World} {v : Value} {base : Nat} {q : Rat} {t : TypeId} (h : NewQ w v base q t) (e : Ext w w') : NewQ w' v base q t := NewEl.ext h e fun _ _ h => h.ext e
theorem NewQ.mk {w : World} {b b' : Bool} {A A' : Option Addr} {n c n' c' : Nat} {q : Rat} (h : IsQ w (.agg #[.bool b, .slice A n c, .bool b', .slice A' n' c']) q) {base : Nat} (hb : base ≤ w.heap.size) (t : TypeId) :
  NewQ (w.alloc (.cells #[.bool b, .slice A n c, .bool b', .slice A' n' c'] t)) (.slice (some ⟨w.heap.size, 0, none⟩) 1 1) base q t :=
 ⟨_, _, rfl, hb, Box.new w t _ (by simp [isDig]), rfl, h.ext ((Ext.refl w).alloc _)⟩
theorem IsQ.cells_ {w : World} {v : Value} {q : Rat} (h : IsQ w v q) : ∃ b A n c b' A' n' c', v = .agg #[.bool b, .slice A n c, .bool b', .slice A' n' c'] := by
 obtain ⟨b, A, n, c, b', A', n', c', e, _⟩ := h; exact ⟨_, _, _, _, _, _, _, _, e⟩
theorem IsQ.one {w : World} {cs : Array Value} {q : Rat} (h : IsQ w (.agg cs) q) : (∀ u ∈ cs.toList, u.oneCell' = true) ∧ nodig cs = true ∧ cs.size = 4 := by
 obtain ⟨b, A, n, c, b', A', n', c', e⟩ := h.cells_
 obtain rfl := agg4 e
 refine ⟨fun u hu => ?_, by simp [nodig, isDig], rfl⟩
 simp at hu
 rcases hu with rfl | rfl | rfl | rfl <;> rfl
theorem IsQ.el {w : World} {v : Value} {q : Rat} (h : IsQ w v q) {p : Prop} (k : ∀ b A n c b' A' n' c', v = .agg #[.bool b, .slice A n c, .bool b', .slice A' n' c'] → IsQ w (.agg #[.bool b, .slice A n c, .bool b', .slice A' n' c']) q → p) : p := by
 obtain ⟨b, A, n, c, b', A', n', c', e⟩ := h.cells_
 exact k b A n c b' A' n' c' e (e ▸ h)
def OwnQ (base : Nat) (e : TypeId) (w : World) (v : Value) (l : List Rat) : Prop := OwnR 4 IsQ base e w v l
theorem OwnQ.ext {base : Nat} {e : TypeId} {w w' : World} {v : Value} {l : List Rat} (h : OwnQ base e w v l) (x : Ext w w') : OwnQ base e w' v l := OwnR.ext h x fun _ _ q => q.ext x
theorem OwnQ.upd {base : Nat} {e : TypeId} {w w' : World} {v : Value} {l : List Rat} {G : List Nat} (h : OwnQ base e w v l) (U : Upd G w w') (hg : ∀ g ∈ G, g < base) : OwnQ base e w' v l :=
 OwnR.upd h U (fun g hb hG => by have := hg g hG; have := (OwnR.blk_ge h g hb).1; omega) fun _ _ q => q.kd U.kd
theorem OwnQ.row {base : Nat} {e : TypeId} {w : World} {v : Value} {l : List Rat} (h : OwnQ base e w v l) : QsV base w v l := OwnR.row h
theorem OwnQ.from_ {base : Nat} {e : TypeId} {a w w' : World} {v : Value} {l : List Rat} (h : OwnQ base e w v l) (U : Upd (blk v) w w') (x : Ext a w) (hb : a.heap.size ≤ base) : Ext a w' :=
 U.from_ x fun g hg => Nat.le_trans hb (OwnR.blk_ge h g hg).1
theorem OwnQ.box {base : Nat} {e t : TypeId} {w w' : World} {v : Value} {l : List Rat} {g : Nat} {cs : Array Value} (h : OwnQ base e w v l) (U : Upd (blk v) w w') (b : Box w g t cs) (hb : g < base) : Box w' g t cs :=
 b.upd U fun hg => by have := (OwnR.blk_ge h g hg).1; omega
end Go.Hp
namespace Go.Hp
open Go.RowKit
theorem agg2 {cs : Array Value} {a b : Value} (e : Value.agg cs = .agg #[a, b]) : cs = #[a, b] := by injection e
def ZsV (base : Nat) (w : World) (v : Value) (l : List Int) : Prop := RowV 2 IsZ base w v l
def ZsAt (base : Nat) (w : World) (A : Option Addr) (l : List Int) : Prop := RowAt 2 IsZ base w A l
def HzV (base : Nat) (w : World) (v : Value) (l : List Int) : Prop := RowV 2 HasZ base w v l
def HzAt (base : Nat) (w : World) (A : Option Addr) (l : List Int) : Prop := RowAt 2 HasZ base w A l
theorem ZsV.ext {base : Nat} {w w' : World} {v : Value} {l : List Int} (h : ZsV base w v l) (e : Ext w w') : ZsV base w' v l := RowV.ext h e fun _ _ q => q.kd e.kd
theorem HzV.ext {base : Nat} {w w' : World} {v : Value} {l : List Int} (h : HzV base w v l) (e : Ext w w') : HzV base w' v l := RowV.ext h e fun _ _ q => q.kd e.kd
theorem ZsAt.ext {base : Nat} {w w' : World} {A : Option Addr} {l : List Int} (h : ZsAt base w A l) (e : Ext w w') : ZsAt base w' A l := RowAt.ext h e fun _ _ q => q.kd e.kd
theorem HzAt.ext {base : Nat} {w w' : World} {A : Option Addr} {l : List Int} (h : HzAt base w A l) (e : Ext w w') : HzAt base w' A l := RowAt.ext h e fun _ _ q => q.kd e.kd
theorem IsZ.ext_ {w w' : World} {v : Value} {x : Int} (h : IsZ w v x) (e : Ext w w') : IsZ w' v x := h.kd e.kd
theorem HasZ.cells {w : World} {v : Value} {x : Int} (h : HasZ w v x) : ∃ b A n c, v = .agg #[.bool b, .slice A n c] := by
 obtain ⟨b, A, n, c, N, e, _⟩ := h.form; exact ⟨b, A, n, c, e⟩
theorem HzAt.at_ {base : Nat} {w : World} {A : Option Addr} {l : List Int} (h : HzAt base w A l) {j : Nat} (hj : j < l.length) :
  ∃ g o b A1 n c, A = some ⟨g, o, none⟩ ∧ base ≤ g ∧ w.cell? ⟨g, o + j * 2, none⟩ = some (.bool b) ∧ w.cell? ⟨g, o + j * 2 + 1, none⟩ = some (.slice A1 n c) ∧ HasZ w (.agg #[.bool b, .slice A1 n c]) l[j] := by
 obtain ⟨g, o, ha, hb, hc⟩ := h (by omega)
 obtain ⟨cs, q1, q2, q3⟩ := hc j hj
 obtain ⟨b, A1, n, c, e⟩ := q3.cells
 obtain rfl := agg2 e
 exact ⟨g, o, b, A1, n, c, ha, hb, q2 0 (by omega), q2 1 (by omega), q3⟩
theorem ZsAt.at_ {base : Nat} {w : World} {A : Option Addr} {l : List Int} (h : ZsAt base w A l) {j : Nat} (hj : j < l.length) :
  ∃ g o b A1 n c, A = some ⟨g, o, none⟩ ∧ base ≤ g ∧ w.cell? ⟨g, o + j * 2, none⟩ = some (.bool b) ∧ w.cell? ⟨g, o + j * 2 + 1, none⟩ = some (.slice A1 n c) ∧ IsZ w (.agg #[.bool b, .slice A1 n c]) l[j] := by
 obtain ⟨g, o, ha, hb, hc⟩ := h (by omega)
 obtain ⟨cs, q1, q2, q3⟩ := hc j hj
 obtain ⟨b, A1, n, c, e⟩ := q3.cells
 obtain rfl := agg2 e
 exact ⟨g, o, b, A1, n, c, ha, hb, q2 0 (by omega), q2 1 (by omega), q3⟩
theorem HzV.at_ {base n c : Nat} {w : World} {A : Option Addr} {l : List Int} (h : HzV base w (.slice A n c) l) {j : Nat} (hj : j < l.length) :
  ∃ g o b A1 n1 c1, A = some ⟨g, o, none⟩ ∧ base ≤ g ∧ w.cell? ⟨g, o + j * 2, none⟩ = some (.bool b) ∧ w.cell? ⟨g, o + j * 2 + 1, none⟩ = some (.slice A1 n1 c1) ∧ HasZ w (.agg #[.bool b, .slice A1 n1 c1]) l[j] := by
 obtain ⟨A', c', e, _, _, hA⟩ := h
 have : A' = A := by injection e with h1; exact h1.symm
 subst this
 exact HzAt.at_ hA hj
theorem ZsV.at_ {base n c : Nat} {w : World} {A : Option Addr} {l : List Int} (h : ZsV base w (.slice A n c) l) {j : Nat} (hj : j < l.length) :
  ∃ g o b A1 n1 c1, A = some ⟨g, o, none⟩ ∧ base ≤ g ∧ w.cell? ⟨g, o + j * 2, none⟩ = some (.bool b) ∧ w.cell? ⟨g, o + j * 2 + 1, none⟩ = some (.slice A1 n1 c1) ∧ IsZ w (.agg #[.bool b, .slice A1 n1 c1]) l[j] := by
 obtain ⟨A', c', e, _, _, hA⟩ := h
 have : A' = A := by injection e with h1; exact h1.symm
 subst this
 exact ZsAt.at_ hA hj
theorem IsZ.two {w : World} {b : Bool} {A : Option Addr} {n c : Nat} {x : Int} (h : IsZ w (.agg #[.bool b, .slice A n c]) x) : n = sz x.natAbs ∧ b = decide (x < 0) := by
 obtain ⟨A', c', e, _⟩ := h.form
 have e := agg2 e
 simp only [Array.mk.injEq, List.cons.injEq, Value.bool.injEq, Value.slice.injEq, and_true] at e
 exact ⟨e.2.2.1, e.1⟩
theorem ZsV.has {base : Nat} {w : World} {v : Value} {l : List Int} (h : ZsV base w v l) (hs : ∀ x ∈ l, sz x.natAbs ≤ 1099511627776) : HzV 0 w v l := by
 obtain ⟨A, c, h1, h2, h3, h4⟩ := h
 refine ⟨A, c, h1, h2, h3, fun h0 => ?_⟩
 obtain ⟨g, o, q1, q2, q3⟩ := h4 h0
 refine ⟨g, o, q1, Nat.zero_le _, fun j hj => ?_⟩
 obtain ⟨cs, r1, r2, r3⟩ := q3 j hj
 exact ⟨cs, r1, r2, r3.has (hs _ (List.getElem_mem hj))⟩
theorem HzV.sz {base : Nat} {w : World} {v : Value} {l : List Int} (h : HzV base w v l) : ∀ x ∈ l, Hp.sz x.natAbs ≤ 1099511627776 := by
 obtain ⟨A, c, h1, h2, h3, h4⟩ := h
 intro q hq
 obtain ⟨i, hi, rfl⟩ := List.getElem_of_mem hq
 obtain ⟨g, o, q1, q2, q3⟩ := h4 (by omega)
 obtain ⟨cs, r1, r2, r3⟩ := q3 i hi
 exact r3.sz
theorem HzV.len {base : Nat} {w : World} {v : Value} {l : List Int} (h : HzV base w v l) : ∃ A c, v = .slice A l.length c := RowV.len h
/-! ### arrays of the call's own -/
def ZArr (w : World) (g : Nat) (t : TypeId) (l : List Int) : Prop :=
 ∃ cs, Box w g t cs ∧ l.length * 2 ≤ cs.size ∧ ∀ j (h : j < l.length), ∃ b A n c, cs[j * 2]? = some (.bool b) ∧ cs[j * 2 + 1]? = some (.slice A n c) ∧ IsZ w (.agg #[.bool b, .slice A n c]) l[j]
section
variable {w w' : World} {g : Nat} {t : TypeId} {l : List Int}
theorem ZArr.lt (h : ZArr w g t l) : g < w.heap.size := by obtain ⟨cs, h1, _⟩ := h; exact h1.lt
theorem ZArr.frozen (h : ZArr w g t l) (i : Nat) : w.frozen? ⟨g, i, none⟩ = false := by obtain ⟨cs, h1, _⟩ := h; exact h1.frozen i
theorem ZArr.ext (h : ZArr w g t l) (e : Ext w w') : ZArr w' g t l := by
 obtain ⟨cs, h1, h2, h3⟩ := h
 refine ⟨cs, h1.ext e, h2, fun j hj => ?_⟩
 obtain ⟨b, A, n, c, q0, q1, q⟩ := h3 j hj
 exact ⟨b, A, n, c, q0, q1, q.kd e.kd⟩
theorem ZArr.upd {G : List Nat} (h : ZArr w g t l) (U : Upd G w w') (hg : g ∉ G) : ZArr w' g t l := by
 obtain ⟨cs, h1, h2, h3⟩ := h
 refine ⟨cs, h1.upd U hg, h2, fun j hj => ?_⟩
 obtain ⟨b, A, n, c, q0, q1, q⟩ := h3 j hj
 exact ⟨b, A, n, c, q0, q1, q.kd U.kd⟩
theorem ZArr.at_ (h : ZArr w g t l) {j : Nat} (hj : j < l.length) :
  ∃ b A n c, w.cell? ⟨g, j * 2, none⟩ = some (.bool b) ∧ w.cell? ⟨g, j * 2 + 1, none⟩ = some (.slice A n c) ∧ IsZ w (.agg #[.bool b, .slice A n c]) l[j] := by
 obtain ⟨cs, h1, h2, h3⟩ := h
 obtain ⟨b, A, n, c, q0, q1, q⟩ := h3 j hj
 exact ⟨b, A, n, c, h1.cell q0, h1.cell q1, q⟩
theorem ZArr.put (h : ZArr w g t l) {k : Nat} (hk : k < l.length) {b : Bool} {A : Option Addr} {n c : Nat} {q : Int} (hq : IsZ w (.agg #[.bool b, .slice A n c]) q) :
  ∃ W, W = (w.setCell ⟨g, k * 2, none⟩ (.bool b)).setCell ⟨g, k * 2 + 1, none⟩ (.slice A n c) ∧ ZArr W g t (l.set k q) ∧ Upd [g] w W := by
 obtain ⟨cs, h1, h2, h3⟩ := h
 have B1 := h1.set_ (k * 2) (u := .bool b) rfl
 have B2 := B1.set_ (k * 2 + 1) (u := .slice A n c) rfl
 have U : Upd [g] w _ := (Upd.set_ h1.nodig (k * 2) (.bool b)).trans (Upd.set_ B1.nodig (k * 2 + 1) (.slice A n c))
 refine ⟨_, rfl, ⟨_, B2, by simpa using h2, fun j hj => ?_⟩, U⟩
 have hj' : j < l.length := by simpa using hj
 by_cases e : j = k
 ·subst e
  refine ⟨b, A, n, c, ?_, ?_, ?_⟩
  ·rw [Array.getElem?_setIfInBounds_ne (by omega), Array.getElem?_setIfInBounds, if_pos rfl, if_pos (by omega)]
  ·rw [Array.getElem?_setIfInBounds, if_pos rfl, if_pos (by simp; omega)]
  ·rw [List.getElem_set_self]
   exact hq.kd U.kd
 ·obtain ⟨b, A, n, c, q0, q1, q⟩ := h3 j hj'
  refine ⟨b, A, n, c, ?_, ?_, ?_⟩
  ·rw [Array.getElem?_setIfInBounds_ne (by omega), Array.getElem?_setIfInBounds_ne (by omega)]; exact q0
  ·rw [Array.getElem?_setIfInBounds_ne (by omega), Array.getElem?_setIfInBounds_ne (by omega)]; exact q1
  ·rw [List.getElem_set_ne (by omega)]; exact q.kd U.kd
theorem isZ_zero (w : World) : IsZ w (.agg #[.bool false, .slice none 0 0]) 0 :=
 ⟨false, [], ⟨_, rfl, none, 0, rfl, Nat.le_refl _, by omega, fun d hd => by simp at hd, fun h => by simp at h⟩, rfl, fun h => by simp at h, fun h => by cases h⟩
theorem ZArr.new (w : World) (t : TypeId) (n : Nat) : ZArr (w.alloc (.cells (madeCells #[.bool false, .slice none 0 0] (n * 2)) t)) w.heap.size t (List.replicate n 0) := by
 have key : ∀ j i v, j < n → i < 2 → #[Value.bool false, .slice none 0 0][i]? = some v → (madeCells #[Value.bool false, .slice none 0 0] (n * 2))[j * 2 + i]? = some v := by
  intro j i v hj hi hv
  rw [Array.getElem?_eq_getElem (by rw [size_madeCells]; omega)]
  simp only [madeCells, Array.getElem_map, Array.getElem_range]
  rw [show (j * 2 + i) % #[Value.bool false, .slice none 0 0].size = i from by show (j * 2 + i) % 2 = i; omega]
  match i, hi with
  | 0, _ => exact hv
  | 1, _ => exact hv
 refine ⟨_, Box.new w t _ ?_, by rw [size_madeCells, List.length_replicate]; exact Nat.le_refl _, fun j hj => ?_⟩
 ·rw [Array.all_eq_true]
  intro i hi
  have hi' : i < n * 2 := by rw [size_madeCells] at hi; exact hi
  have hs := Array.getElem?_eq_getElem hi
  generalize (madeCells #[Value.bool false, Value.slice none 0 0] (n * 2))[i] = u at *
  have h4 : i % 2 = 0 ∨ i % 2 = 1 := by omega
  rcases h4 with h | h
  ·have := key (i / 2) 0 _ (by omega) (by omega) rfl
   rw [show i / 2 * 2 + 0 = i from by omega, hs] at this; cases this; rfl
  ·have := key (i / 2) 1 _ (by omega) (by omega) rfl
   rw [show i / 2 * 2 + 1 = i from by omega, hs] at this; cases this; rfl
 ·have hj' : j < n := by simpa using hj
  refine ⟨false, none, 0, 0, key j 0 _ hj' (by omega) rfl, key j 1 _ hj' (by omega) rfl, ?_⟩
  rw [List.getElem_replicate]; exact isZ_zero _
theorem ZArr.row (h : ZArr w g t l) {base : Nat} (hb : base ≤ g) : ZsAt base w (some ⟨g, 0, none⟩) l := fun _ => by
 obtain ⟨cs, h1, h2, h3⟩ := h
 refine ⟨g, 0, rfl, hb, fun j hj => ?_⟩
 obtain ⟨b, A, n, c, q0, q1, q⟩ := h3 j hj
 refine ⟨_, rfl, ?_, q⟩
 intro i hi
 match i, hi with
 | 0, _ => simpa using h1.cell q0
 | 1, _ => simpa using h1.cell q1
theorem ZArr.pre (h : ZArr w g t l) (n : Nat) : ZArr w g t (l.take n) := by
 obtain ⟨cs, h1, h2, h3⟩ := h
 have hl : (l.take n).length ≤ l.length := List.length_take_le' _ _
 refine ⟨cs, h1, by omega, fun j hj => ?_⟩
 have := h3 j (by omega)
 rw [List.getElem_take]; exact this
end
/-! ### rows that are appended to -/
def NewZ (w : World) (v : Value) (base : Nat) (q : Int) (t : TypeId) : Prop := NewEl 2 IsZ w v base q t
theorem NewZ.ext {w w' : World} {v : Value} {base : Nat} {q : Int} {t : TypeId} (h : NewZ w v base q t) (e : Ext w w') : NewZ w' v base q t := NewEl.ext h e fun _ _ h => h.kd e.kd
theorem NewZ.mk {w : World} {b : Bool} {A : Option Addr} {n c : Nat} {q : Int} (h : IsZ w (.agg #[.bool b, .slice A n c]) q) {base : Nat} (hb : base ≤ w.heap.size) (t : TypeId) :
  NewZ (w.alloc (.cells #[.bool b, .slice A n c] t)) (.slice (some ⟨w.heap.size, 0, none⟩) 1 1) base q t :=
 ⟨_, _, rfl, hb, Box.new w t _ (by simp [isDig]), rfl, h.kd ((Ext.refl w).alloc _).kd⟩
theorem IsZ.one {w : World} {cs : Array Value} {q : Int} (h : IsZ w (.agg cs) q) : (∀ u ∈ cs.toList, u.oneCell' = true) ∧ nodig cs = true ∧ cs.size = 2 := by
 obtain ⟨b, A, n, c, e⟩ := h.cells
 obtain rfl := agg2 e
 refine ⟨fun u hu => ?_, by simp [nodig, isDig], rfl⟩
 simp at hu
 rcases hu with rfl | rfl <;> rfl
theorem IsZ.el {w : World} {v : Value} {q : Int} (h : IsZ w v q) {p : Prop} (k : ∀ b A n c, v = .agg #[.bool b, .slice A n c] → IsZ w (.agg #[.bool b, .slice A n c]) q → p) : p := by
 obtain ⟨b, A, n, c, e⟩ := h.cells
 exact k b A n c e (e ▸ h)
def OwnZ (base : Nat) (e : TypeId) (w : World) (v : Value) (l : List Int) : Prop := OwnR 2 IsZ base e w v l
theorem OwnZ.ext {base : Nat} {e : TypeId} {w w' : World} {v : Value} {l : List Int} (h : OwnZ base e w v l) (x : Ext w w') : OwnZ base e w' v l := OwnR.ext h x fun _ _ q => q.kd x.kd
theorem OwnZ.upd {base : Nat} {e : TypeId} {w w' : World} {v : Value} {l : List Int} {G : List Nat} (h : OwnZ base e w v l) (U : Upd G w w') (hg : ∀ g ∈ G, g < base) : OwnZ base e w' v l :=
 OwnR.upd h U (fun g hb hG => by have := hg g hG; have := (OwnR.blk_ge h g hb).1; omega) fun _ _ q => q.kd U.kd
theorem OwnZ.row {base : Nat} {e : TypeId} {w : World} {v : Value} {l : List Int} (h : OwnZ base e w v l) : ZsV base w v l := OwnR.row h
theorem OwnZ.from_ {base : Nat} {e : TypeId} {a w w' : World} {v : Value} {l : List Int} (h : OwnZ base e w v l) (U : Upd (blk v) w w') (x : Ext a w) (hb : a.heap.size ≤ base) : Ext a w' :=
 U.from_ x fun g hg => Nat.le_trans hb (OwnR.blk_ge h g hg).1
theorem OwnZ.box {base : Nat} {e t : TypeId} {w w' : World} {v : Value} {l : List Int} {g : Nat} {cs : Array Value} (h : OwnZ base e w v l) (U : Upd (blk v) w w') (b : Box w g t cs) (hb : g < base) : Box w' g t cs :=
 b.upd U fun hg => by have := (OwnR.blk_ge h g hg).1; omega
theorem NewZ.own {w : World} {v : Value} {base : Nat} {q : Int} {t : TypeId} (h : NewZ w v base q t) : OwnZ base t w v [q] := by
 obtain ⟨g, cs, rfl, h1, h2, h3, h4⟩ := h
 refine ⟨[cs], rfl, fun c hc => by simp at hc; subst hc; exact h3, ⟨by simp [h3], .inr ⟨g, 1, cs, rfl, h1, h2, Nat.le_refl _, by decide, by simp [h3], ?_⟩⟩, fun j hj hj' => ?_⟩
 ·simp [List.take_of_length_le, h3]
 ·have : j = 0 := by simpa using hj
  subst this; exact h4
/-! ### polynomials -/
def zq (l : List Int) : List Rat := l.map fun (n : Int) => (n : Rat)
theorem zq_len (l : List Int) : (zq l).length = l.length := by simp [zq]
theorem zq_get {l : List Int} {i : Nat} (h : i < l.length) : (zq l)[i]'(by rw [zq_len]; exact h) = (l[i] : Rat) := by simp [zq]
theorem zq_take (l : List Int) (n : Nat) : zq (l.take n) = (zq l).take n := by simp [zq]
theorem int_cast_inj {a b : Int} (h : (a : Rat) = (b : Rat)) : a = b := by simpa using congrArg Rat.num h
theorem zq_inj {l m : List Int} (h : zq l = zq m) : l = m := by
 apply List.ext_getElem (by rw [← zq_len, h, zq_len])
 intro i h1 h2
 apply int_cast_inj
 rw [← zq_get h1, ← zq_get h2]
 simp only [h]
def cz (l : List Int) : Nat → Rat := co (zq l)
theorem cz_lt {l : List Int} {i : Nat} (h : i < l.length) : cz l i = (l[i] : Rat) := by unfold cz; rw [co_lt (by rw [zq_len]; exact h), zq_get h]
theorem cz_ge {l : List Int} {i : Nat} (h : l.length ≤ i) : cz l i = 0 := co_ge (by rw [zq_len]; exact h)
theorem cz_sup (l : List Int) : Sup l.length (cz l) := fun _ h => cz_ge h
theorem cz_nil : cz [] = pz := co_nil
theorem Fin_.cz (l : List Int) : Fin_ (cz l) := ⟨_, cz_sup l⟩
theorem qsz_cast (n : Int) : qsz (n : Rat) = max (sz n.natAbs) 1 := by unfold qsz; simp; rfl
theorem cz_qsz {l : List Int} {s : Nat} (h : ∀ x ∈ l, sz x.natAbs ≤ s) (hs : 1 ≤ s) (i : Nat) : qsz (cz l i) ≤ s := by
 rcases Nat.lt_or_ge i l.length with hi | hi
 ·rw [cz_lt hi, qsz_cast]; have := h _ (List.getElem_mem hi); omega
 ·rw [cz_ge hi]; exact hs
def ZI (F : Nat → Rat) : Prop := ∀ i, ∃ n : Int, F i = (n : Rat)
theorem ZI.cz (l : List Int) : ZI (cz l) := fun i => by
 rcases Nat.lt_or_ge i l.length with hi | hi
 ·exact ⟨_, cz_lt hi⟩
 ·exact ⟨0, by rw [cz_ge hi]; rfl⟩
theorem ZI.num {F : Nat → Rat} (h : ZI F) (i : Nat) : F i = ((F i).num : Rat) := by obtain ⟨n, e⟩ := h i; rw [e]; rfl
def lzf (n : Nat) (F : Nat → Rat) : List Int := (List.range n).map fun i => (F i).num
theorem lzf_len (n : Nat) (F : Nat → Rat) : (lzf n F).length = n := by simp [lzf]
theorem cz_lzf {n : Nat} {F : Nat → Rat} (h : ZI F) (hs : Sup n F) : cz (lzf n F) = F := by
 funext i
 rcases Nat.lt_or_ge i n with hi | hi
 ·rw [cz_lt (by rw [lzf_len]; exact hi)]; simp only [lzf, List.getElem_map, List.getElem_range]; exact (h.num i).symm
 ·rw [cz_ge (by rw [lzf_len]; exact hi), hs i hi]
def trimZ (l : List Int) : List Int := l.take (trimR (zq l)).length
theorem zq_trimZ (l : List Int) : zq (trimZ l) = trimR (zq l) := by unfold trimZ; rw [zq_take]; exact (trimR_prefix _).symm
theorem trimZ_len (l : List Int) : (trimZ l).length = (trimR (zq l)).length := by rw [← zq_len, zq_trimZ]
theorem trimZ_le (l : List Int) : (trimR (zq l)).length ≤ l.length := by have := trimR_len (zq l); rw [zq_len] at this; exact this
def IsZP (base : Nat) (w : World) (v : Value) (F : Nat → Rat) : Prop := ∃ l, ZsV base w v l ∧ TopR (zq l) ∧ cz l = F
theorem IsZP.ext {base : Nat} {w w' : World} {v : Value} {F : Nat → Rat} (h : IsZP base w v F) (e : Ext w w') : IsZP base w' v F := by
 obtain ⟨l, h1, h2, h3⟩ := h; exact ⟨l, h1.ext e, h2, h3⟩
theorem IsZP.base_le {base b : Nat} {w : World} {v : Value} {F : Nat → Rat} (h : IsZP base w v F) (hb : b ≤ base) : IsZP b w v F := by
 obtain ⟨l, h1, h2, h3⟩ := h; exact ⟨l, RowV.base_le h1 hb, h2, h3⟩
theorem IsZP.fin {base : Nat} {w : World} {v : Value} {F : Nat → Rat} (h : IsZP base w v F) : Fin_ F := by
 obtain ⟨l, _, _, rfl⟩ := h; exact Fin_.cz l
theorem IsZP.form {base : Nat} {w : World} {v : Value} {F : Nat → Rat} (h : IsZP base w v F) : ∃ A c l, v = .slice A (pl F) c ∧ pl F ≤ c ∧ c ≤ 9223372036854775807 ∧ ZsAt base w A l ∧ l.length = pl F ∧ TopR (zq l) ∧ cz l = F := by
 obtain ⟨l, ⟨A, c, h1, h2, h3, h4⟩, h5, rfl⟩ := h
 have := h5.pl
 rw [zq_len] at this
 exact ⟨A, c, l, by unfold cz; rw [this]; exact h1, by unfold cz; omega, h3, h4, this.symm, h5, rfl⟩
theorem IsZP.shape {base : Nat} {w : World} {v : Value} {F : Nat → Rat} (h : IsZP base w v F) : ∃ A c, v = .slice A (pl F) c ∧ pl F ≤ c ∧ c ≤ 9223372036854775807 := by
 obtain ⟨A, c, l, h1, h2, h3, _⟩ := h.form; exact ⟨A, c, h1, h2, h3⟩
theorem IsZP.zs {base : Nat} {w : World} {v : Value} {F : Nat → Rat} (h : IsZP base w v F) : ∃ l, ZsV base w v l ∧ l.length = pl F ∧ TopR (zq l) ∧ cz l = F := by
 obtain ⟨l, h1, h5, rfl⟩ := h
 exact ⟨l, h1, by have := h5.pl; rw [zq_len] at this; exact this.symm, h5, rfl⟩
theorem IsZP.hz {base : Nat} {w : World} {v : Value} {F : Nat → Rat} (h : IsZP base w v F) (hs : ∀ i, qsz (F i) ≤ 1099511627776) : ∃ l, HzV 0 w v l ∧ l.length = pl F ∧ TopR (zq l) ∧ cz l = F := by
 obtain ⟨l, h1, h2, h3, rfl⟩ := h.zs
 exact ⟨l, h1.has (fun q hq => by
  obtain ⟨i, hi, rfl⟩ := List.getElem_of_mem hq
  have := hs i; rw [cz_lt hi, qsz_cast] at this; omega), h2, h3, rfl⟩
theorem IsZP.of_trim {base : Nat} {w : World} {v : Value} {l : List Int} {F : Nat → Rat} (h : ZsV base w v (trimZ l)) (e : cz l = F) : IsZP base w v F :=
 ⟨_, h, by rw [zq_trimZ]; exact topR_trim _, by unfold cz; rw [zq_trimZ, co_trimR]; exact e⟩
theorem IsZP.nil (base : Nat) (w : World) : IsZP base w (.slice none 0 0) pz := ⟨[], RowV.nil 2 IsZ base w, fun h => absurd h (by simp [zq]), co_nil⟩
theorem IsZP.empty (base : Nat) (w : World) (A : Option Addr) (c : Nat) (hc : c ≤ 9223372036854775807) : IsZP base w (.slice A 0 c) pz :=
 ⟨[], ⟨A, c, rfl, Nat.zero_le _, hc, fun h => absurd h (by simp)⟩, fun h => absurd h (by simp [zq]), co_nil⟩
theorem IsZP.single {base : Nat} {w : World} {v : Value} {a : Int} (h : ZsV base w v [a]) (h0 : a ≠ 0) : IsZP base w v (cs (a : Rat) pz) :=
 ⟨[a], h, fun _ => by simp [zq]; exact fun e => h0 (by exact_mod_cast e), by unfold cz zq; rw [List.map_cons, List.map_nil, co_cons, co_nil]⟩
theorem zs_uniq {l m : List Int} (h : TopR (zq l)) (k : TopR (zq m)) (e : cz l = cz m) : l = m := zq_inj (h.uniq k e)
end Go.Hp
namespace Go.Hp
open Go
def UponV (P : Program) (R : Value → World → Prop) : Result Next → Prop
 | .ok (.value v) w' => R v w'
 | .ok (.enter f args) w' => Calls P f args w' fun e w'' => ∃ v, e = .returned v ∧ R v w''
 | _ => False
theorem UponV.wp {P : Program} {o : Oper} {a : Act} {w : World} {K : Act → World → Prop} {Q : Exit → Act → World → Prop} {R : Value → World → Prop} {ρ : Operand → Value}
  (h : UponV P R ((execOp ρ o).run P w)) (he : execOp a.eval o = execOp ρ o) (hk : ∀ v w', R v w' → K (a.put o.dst v) w') : o.wp P a w K Q := by
 unfold Oper.wp
 rw [he]
 revert h
 generalize (execOp ρ o).run P w = r
 intro h
 match r, h with
 | .ok (.value v) w', h => exact hk v w' h
 | .ok (.enter f args) w', h =>
  refine Calls.mono (h : Calls P f args w' _) ?_
  rintro e w'' ⟨v, rfl, hr⟩
  exact hk v w'' hr
def mask (l : List Nat) (γ : Nat → Value) (i : Nat) : Value := if l.contains i then γ i else undef
def upd (γ : Nat → Value) (i : Nat) (v : Value) (j : Nat) : Value := if j = i then v else γ j
def pevD : List Nat → (Nat → Value) → Nat → Nat → Value → Value
 | [], _, _, _, d => d
 | k :: ks, v, i, t, d => if k = t then v i else pevD ks v (i + 1) t d
def pevE : List Nat → List Value → Nat → Value
 | k :: ks, v :: vs, t => if k = t then v else pevE ks vs t
 | _, _, _ => undef
def peval (EK : List Nat) (EV : List Value) (D : List Nat) (v : Nat → Value) : Operand → Value
 | .tmp t => pevD D v 0 t (pevE EK EV t)
 | .const v => v
 | .global g => .pointer (some ⟨g, 0, none⟩)
 | .func f => .func (.func f) #[] #[]
def EAll (a0 : Act) : List Nat → List Value → Prop
 | [], [] => True
 | k :: ks, v :: vs => a0.tmps[k]? = some v ∧ EAll a0 ks vs
 | _, _ => False
theorem EAll.get {a0 : Act} : ∀ {ks : List Nat} {vs : List Value}, EAll a0 ks vs → ∀ t j, ks.idxOf? t = some j → a0.tmps[t]? = some (vs.getD j undef)
 | [], [], _, t, j, h => by simp at h
 | k :: ks, v :: vs, ⟨h1, h2⟩, t, j, h => by
  rw [List.idxOf?_cons] at h
  split at h
  ·rename_i hkt
   have : k = t := by simpa using hkt
   subst this
   cases h
   exact h1
  ·cases hi : ks.idxOf? t with
   | none => rw [hi] at h; cases h
   | some m =>
    rw [hi] at h
    cases h
    exact EAll.get h2 t m hi
@[go_sem] theorem peval_tmp (EK : List Nat) (EV : List Value) (D : List Nat) (v : Nat → Value) (t : Nat) : peval EK EV D v (.tmp t) = pevD D v 0 t (pevE EK EV t) := rfl
@[go_sem] theorem peval_const (EK : List Nat) (EV : List Value) (D : List Nat) (v : Nat → Value) (u : Value) : peval EK EV D v (.const u) = u := rfl
@[go_sem] theorem peval_func (EK : List Nat) (EV : List Value) (D : List Nat) (v : Nat → Value) (f : Nat) : peval EK EV D v (.func f) = .func (.func f) #[] #[] := rfl
@[go_sem] theorem pevD_nil (v : Nat → Value) (i t : Nat) (d : Value) : pevD [] v i t d = d := rfl
@[go_sem] theorem pevD_cons (k : Nat) (ks : List Nat) (v : Nat → Value) (i t : Nat) (d : Value) : pevD (k :: ks) v i t d = if k = t then v i else pevD ks v (i + 1) t d := rfl
@[go_sem] theorem pevE_nil (t : Nat) : pevE [] [] t = undef := rfl
@[go_sem] theorem pevE_cons (k : Nat) (ks : List Nat) (v : Value) (vs : List Value) (t : Nat) : pevE (k :: ks) (v :: vs) t = if k = t then v else pevE ks vs t := rfl
attribute [go_sem] List.getD_cons_zero List.getD_cons_succ
@[go_sem] theorem UponV_value (P : Program) (R : Value → World → Prop) (v : Value) (w : World) : UponV P R (.ok (.value v) w) = R v w := rfl
@[go_sem] theorem UponV_enter (P : Program) (R : Value → World → Prop) (f : FuncId) (args : Array Value) (w : World) : UponV P R (.ok (.enter f args) w) = Calls P f args w fun e w'' => ∃ v, e = .returned v ∧ R v w'' := rfl
theorem pevD_eq (ds : List Nat) (v : Nat → Value) (i t : Nat) (d : Value) : pevD ds v i t d = match ds.idxOf? t with | some j => v (i + j) | none => d := by
 induction ds generalizing i with
 | nil => rfl
 | cons k ks ih =>
  rw [pevD_cons, List.idxOf?_cons]
  by_cases h : k = t
  ·simp [h]
  ·have h' : (k == t) = false := by simpa using h
   rw [if_neg h, ih (i + 1)]
   simp only [h', Bool.false_eq_true, if_false]
   cases ks.idxOf? t with
   | none => rfl
   | some j => show v (i + 1 + j) = v (i + (j + 1)); rw [show i + 1 + j = i + (j + 1) from by omega]
theorem pevE_eq : ∀ (ks : List Nat) (vs : List Value) (t : Nat), ks.length = vs.length → pevE ks vs t = match ks.idxOf? t with | some j => vs.getD j undef | none => undef
 | [], [], _, _ => rfl
 | k :: ks, v :: vs, t, h => by
  rw [pevE_cons, List.idxOf?_cons]
  by_cases e : k = t
  ·simp [e]
  ·have h' : (k == t) = false := by simpa using e
   rw [if_neg e, pevE_eq ks vs t (by simpa using h)]
   simp only [h', Bool.false_eq_true, if_false]
   cases ks.idxOf? t with
   | none => rfl
   | some j => rfl
 | [], _ :: _, _, h => by simp at h
 | _ :: _, [], _, h => by simp at h
theorem EAll.len {a0 : Act} : ∀ {ks : List Nat} {vs : List Value}, EAll a0 ks vs → ks.length = vs.length
 | [], [], _ => rfl
 | _ :: _, _ :: _, ⟨_, h⟩ => by simp [EAll.len h]
theorem peval_eq {a0 : Act} {EK : List Nat} {EV : List Value} (h : EAll a0 EK EV) (D : List Nat) (v : Nat → Value) (t : Nat) :
  peval EK EV D v (.tmp t) = match D.idxOf? t with | some j => v j | none => match EK.idxOf? t with | some j => EV.getD j undef | none => undef := by
 rw [peval_tmp, pevD_eq, pevE_eq EK EV t h.len]
 cases D.idxOf? t with
 | none => rfl
 | some j => show v (0 + j) = v j; rw [Nat.zero_add]
def fillAll (a0 : Act) (v : Nat → Value) : Nat → List Nat → Act
 | _, [] => a0
 | i, d :: ds => fillAll (a0.put (some d) (v i)) v (i + 1) ds
def looks (o : Oper) : List Nat := o.op.operands.toList.filterMap fun | .tmp t => some t | _ => none
def parOk (ops : Array Oper) (k : Nat) (D : List Nat) (T : List (List Nat)) (EK : List Nat) (ℓ : Nat) : Bool :=
 Nat.ble k ops.size && D.length == k && Region.noSelect ops &&
 (List.range k).all (fun i => (List.range k).all fun j => i == j || D.getD i 0 != D.getD j 0) &&
 (List.range ops.size).all fun i =>
  match ops[i]? with
  | none => false
  | some o =>
   (o.after.all fun e => !Region.binds .any e || Nat.blt e.on i) &&
   ((T.getD i []).all fun j => o.after.any fun e => Region.binds .any e && (e.on == j || (T.getD e.on []).contains j)) &&
   (if Nat.blt i k then
    o.dst == some (D.getD i 0) &&
    ((looks o).all fun t => match D.idxOf? t with | some j => (T.getD i []).contains j | none => EK.contains t) &&
    (match o.guard with | none => true | some (g, _) => (T.getD i []).contains g && Nat.blt g k)
   else (List.range i).all fun j => j == ℓ || (T.getD i []).contains j)
def Each : Nat → (Nat → Prop) → Prop
 | 0, _ => True
 | n + 1, p => Each n p ∧ p n
theorem Each.get {n : Nat} {p : Nat → Prop} (h : Each n p) : ∀ i, i < n → p i := by
 induction n with
 | zero => intro i hi; omega
 | succ n ih =>
  intro i hi
  by_cases e : i = n
  ·subst e; exact h.2
  ·exact ih h.1 i (by omega)
theorem each_of : ∀ {n : Nat} {p : Nat → Prop}, (∀ i, i < n → p i) → Each n p
 | 0, _, _ => trivial
 | n + 1, _, h => ⟨each_of fun i hi => h i (by omega), h n (by omega)⟩
section
variable {P : Program} {ops : Array Oper} {Q : Exit → Act → World → Prop} {a0 : Act} {W0 : World}
 {k ℓ : Nat} {D : List Nat} {T : List (List Nat)} {EK : List Nat} {EV : List Value} {V : (Nat → Value) → Nat → Value} {F : Nat → (Nat → Value) → World → Prop}
def pvals (T : List (List Nat)) (V : (Nat → Value) → Nat → Value) (γ : Nat → Value) (i : Nat) : Value := V (mask (i :: T.getD i []) γ) i
def StepOk (P : Program) (ops : Array Oper) (EK : List Nat) (EV : List Value) (W0 : World) (D : List Nat) (T : List (List Nat)) (V : (Nat → Value) → Nat → Value) (F : Nat → (Nat → Value) → World → Prop) (i : Nat) : Prop :=
 ∀ γ w, Ext W0 w → (∀ j, j ∈ T.getD i [] → F j (mask (j :: T.getD j []) γ) w) →
  match ops[i]? with
  | none => False
  | some o => (match o.guard with | none => True | some (g, b) => pvals T V γ g = .bool b) ∧
   UponV P (fun v w' => Ext w w' ∧ V (mask (i :: T.getD i []) (upd γ i v)) i = v ∧ F i (mask (i :: T.getD i []) (upd γ i v)) w') ((execOp (peval EK EV D (pvals T V γ)) o).run P w)
def isNew (ops : Array Oper) (i : Nat) : Prop := ∃ o t, ops[i]? = some o ∧ o.op = .alloc t
theorem upon_new {P : Program} {o : Oper} {ρ : Operand → Value} {w : World} {R : Value → World → Prop} (h : UponV P R ((execOp ρ o).run P w)) :
  UponV P (fun v w' => R v w' ∧ ((∃ t, o.op = .alloc t) → v = .pointer (some ⟨w.heap.size, 0, none⟩) ∧ w.heap.size < w'.heap.size)) ((execOp ρ o).run P w) := by
 by_cases hn : ∃ t, o.op = .alloc t
 ·obtain ⟨t, ht⟩ := hn
  have key : (∃ c, (execOp ρ o).run P w = .ok (.value (.pointer (some ⟨w.heap.size, 0, none⟩))) (w.alloc c)) ∨ ∀ R, ¬ UponV P R ((execOp ρ o).run P w) := by
   unfold execOp
   simp only [ht]
   unfold Instr.alloc
   go_simp
   cases hz : (zeroValue t).run P w with
   | ok z w' =>
    have hw : w' = w := by
     simp only [zeroValue, typeInfo, Sem.run_bind] at hz
     revert hz
     go_simp
     cases P.info? t with
     | none => intro h; cases h
     | some i =>
      show _ = _ → _
      intro h
      simp only [Option.elim_some, Sem.run_pure, Result.andThen_ok] at h
      split at h <;> cases h
      rfl
    subst hw
    exact .inl ⟨_, rfl⟩
   | _ => exact .inr fun _ h => h
  rcases key with ⟨c, hc⟩ | hc
  ·rw [hc] at h ⊢
   exact ⟨h, fun _ => ⟨rfl, by show w.heap.size < (w.alloc c).heap.size; simp⟩⟩
  ·exact absurd h (hc _)
 ·revert h
  generalize (execOp ρ o).run P w = r
  intro h
  match r, h with
  | .ok (.value v) w', h => exact ⟨h, fun h' => absurd h' hn⟩
  | .ok (.enter f args) w', h =>
   refine Calls.mono (h : Calls P f args w' _) ?_
   rintro e w'' ⟨v, rfl, hr⟩
   exact ⟨v, rfl, hr, fun h' => absurd h' hn⟩
structure PInv (ops : Array Oper) (a0 : Act) (W0 : World) (k : Nat) (D : List Nat) (T : List (List Nat)) (V : (Nat → Value) → Nat → Value) (F : Nat → (Nat → Value) → World → Prop) (γ : Nat → Value) (L : Array Bool) (a : Act) (w : World) : Prop where
 size : L.size = ops.size
 closed : ∀ i o, L.getD i false = true → ops[i]? = some o → ∀ e ∈ o.after, Region.binds .any e = true → L.getD e.on false = true
 low : ∀ i, k ≤ i → L.getD i false = false
 defers : a.defers = a0.defers
 tsize : a.tmps.size = a0.tmps.size
 mine : ∀ i, i < k → L.getD i false = true → a.tmps[D.getD i 0]? = some (pvals T V γ i)
 other : ∀ t, (∀ i, i < k → L.getD i false = true → D.getD i 0 ≠ t) → a.tmps[t]? = a0.tmps[t]?
 ext : Ext W0 w
 facts : ∀ i, i < k → L.getD i false = true → F i (mask (i :: T.getD i []) γ) w
 fresh : ∀ i, i < k → L.getD i false = true → isNew ops i → ∃ g, pvals T V γ i = .pointer (some ⟨g, 0, none⟩) ∧ g < w.heap.size
 apart : ∀ i j, i < k → j < k → i ≠ j → L.getD i false = true → L.getD j false = true → isNew ops i → isNew ops j → pvals T V γ i ≠ pvals T V γ j
structure Cert (ops : Array Oper) (k : Nat) (D : List Nat) (T : List (List Nat)) (EK : List Nat) (ℓ : Nat) : Prop where
 hk : k ≤ ops.size
 hlen : D.length = k
 sel : Region.noSelect ops = true
 dist : ∀ i j, i < k → j < k → i ≠ j → D.getD i 0 ≠ D.getD j 0
 edges : ∀ i o, ops[i]? = some o → ∀ e ∈ o.after, Region.binds .any e = true → e.on < i
 anc : ∀ i o, ops[i]? = some o → ∀ j ∈ T.getD i [], ∃ e ∈ o.after, Region.binds .any e = true ∧ (e.on = j ∨ j ∈ T.getD e.on [])
 dst : ∀ i o, ops[i]? = some o → i < k → o.dst = some (D.getD i 0)
 lks : ∀ i o, ops[i]? = some o → i < k → ∀ t ∈ looks o, ∀ j, D.idxOf? t = some j → j ∈ T.getD i []
 keys : ∀ i o, ops[i]? = some o → i < k → ∀ t ∈ looks o, D.idxOf? t = none → t ∈ EK
 guard : ∀ i o g b, ops[i]? = some o → i < k → o.guard = some (g, b) → g ∈ T.getD i [] ∧ g < k
 tail : ∀ i, k ≤ i → i < ops.size → ∀ j, j < i → j ≠ ℓ → j ∈ T.getD i []
theorem parOk_cert {ops : Array Oper} {k : Nat} {D : List Nat} {T : List (List Nat)} {EK : List Nat} {ℓ : Nat} (h : parOk ops k D T EK ℓ = true) : Cert ops k D T EK ℓ := by
 unfold parOk at h
 simp only [Bool.and_eq_true, List.all_eq_true, List.mem_range, Nat.ble_eq, beq_iff_eq, Bool.or_eq_true, bne_iff_ne, ne_eq] at h
 obtain ⟨⟨⟨⟨h1, h2⟩, h3⟩, h4⟩, h5⟩ := h
 have key : ∀ i o, ops[i]? = some o → _ := fun i o ho => by
  have hi : i < ops.size := (Array.getElem?_eq_some_iff.1 ho).1
  have := h5 i hi
  rw [ho] at this
  simp only [Bool.and_eq_true, List.all_eq_true, Array.all_eq_true_iff_forall_mem, Bool.or_eq_true, Bool.not_eq_true', Array.any_eq_true] at this
  exact this
 refine ⟨h1, h2, h3, fun i j hi hj hne => ?_, fun i o ho e he hb => ?_, fun i o ho j hj => ?_, fun i o ho hi => ?_, fun i o ho hi t ht j hj => ?_, fun i o ho hi t ht hn => ?_, fun i o g b ho hi hg => ?_, fun i hk hi j hj hne => ?_⟩
 ·exact (h4 i hi j hj).resolve_left hne
 ·rcases (key i o ho).1.1 e he with h | h
  ·rw [h] at hb; cases hb
  ·simpa [Nat.blt_eq] using h
 ·obtain ⟨m, hm, hb⟩ := (key i o ho).1.2 j hj
  refine ⟨_, Array.getElem_mem hm, ?_⟩
  simpa using hb
 ·have h := (key i o ho).2
  rw [if_pos (by simpa [Nat.blt_eq] using hi)] at h
  simp only [Bool.and_eq_true, beq_iff_eq] at h
  exact h.1.1
 ·have h := (key i o ho).2
  rw [if_pos (by simpa [Nat.blt_eq] using hi)] at h
  simp only [Bool.and_eq_true, beq_iff_eq, List.all_eq_true] at h
  have := h.1.2 t ht
  rw [hj] at this
  simpa using this
 ·have h := (key i o ho).2
  rw [if_pos (by simpa [Nat.blt_eq] using hi)] at h
  simp only [Bool.and_eq_true, beq_iff_eq, List.all_eq_true] at h
  have := h.1.2 t ht
  rw [hn] at this
  simpa using this
 ·have h := (key i o ho).2
  rw [if_pos (by simpa [Nat.blt_eq] using hi)] at h
  simp only [Bool.and_eq_true] at h
  have := h.2
  rw [hg] at this
  simpa [Nat.blt_eq] using this
 ·have ho : ops[i]? = some ops[i] := Array.getElem?_eq_getElem hi
  have h := (key i _ ho).2
  rw [if_neg (by simp [Nat.blt_eq]; omega)] at h
  simp only [List.all_eq_true, List.mem_range, Bool.or_eq_true, beq_iff_eq] at h
  simpa using (h j hj).resolve_left hne
theorem Cert.up {ops : Array Oper} {k : Nat} {D : List Nat} {T : List (List Nat)} {EK : List Nat} {ℓ : Nat} (c : Cert ops k D T EK ℓ) {L : Array Bool}
  (closed : ∀ i o, L.getD i false = true → ops[i]? = some o → ∀ e ∈ o.after, Region.binds .any e = true → L.getD e.on false = true) :
  ∀ i o, ops[i]? = some o → (∀ e ∈ o.after, Region.binds .any e = true → L.getD e.on false = true) → ∀ j ∈ T.getD i [], L.getD j false = true := by
 intro i
 induction i using Nat.strongRecOn with
 | _ i ih =>
  intro o ho hl j hj
  obtain ⟨e, he, hb, h⟩ := c.anc i o ho j hj
  have hon := hl e he hb
  rcases h with rfl | h
  ·exact hon
  ·have hlt := c.edges i o ho e he hb
   have hi : i < ops.size := (Array.getElem?_eq_some_iff.1 ho).1
   have he' : ops[e.on]? = some (ops[e.on]'(by omega)) := Array.getElem?_eq_getElem (by omega)
   exact ih e.on hlt _ he' (closed _ _ hon he') j h
theorem mem_ready {ops : Array Oper} {L : Array Bool} {i : Nat} : i ∈ Region.ready .any ops L ↔ i < ops.size ∧ L.getD i true = false ∧ ∃ o, ops[i]? = some o ∧ ∀ e ∈ o.after, Region.binds .any e = true → L.getD e.on false = true := by
 unfold Region.ready
 simp only [List.mem_filter, List.mem_range, Bool.and_eq_true, Bool.not_eq_true']
 constructor
 ·rintro ⟨h1, h2, h3⟩
  refine ⟨h1, h2, ops[i], Array.getElem?_eq_getElem h1, ?_⟩
  rw [Array.getElem?_eq_getElem h1] at h3
  simp only [Option.map_some, Option.getD_some, Array.all_eq_true_iff_forall_mem, Bool.or_eq_true, Bool.not_eq_true'] at h3
  intro e he hb
  rcases h3 e he with h | h
  ·rw [h] at hb; cases hb
  ·exact h
 ·rintro ⟨h1, h2, o, h3, h4⟩
  refine ⟨h1, h2, ?_⟩
  rw [h3]
  simp only [Option.map_some, Option.getD_some, Array.all_eq_true_iff_forall_mem, Bool.or_eq_true, Bool.not_eq_true']
  intro e he
  by_cases hb : Region.binds .any e = true
  ·exact .inr (h4 e he hb)
  ·exact .inl (by simpa using hb)
theorem getD_set {L : Array Bool} {i j : Nat} {d : Bool} (hi : i < L.size) : (L.setIfInBounds i true).getD j d = if i = j then true else L.getD j d := by
 simp only [Array.getD_eq_getD_getElem?, Array.getElem?_setIfInBounds]
 split
 ·rename_i h; subst h; simp
 ·rfl
theorem eval_of_inv (c : Cert ops k D T EK ℓ) (hE : EAll a0 EK EV) {γ : Nat → Value} {L : Array Bool} {a : Act} {w : World} (h : PInv ops a0 W0 k D T V F γ L a w)
  {i : Nat} {o : Oper} (hi : i < k) (ho : ops[i]? = some o) (hT : ∀ j ∈ T.getD i [], L.getD j false = true) :
  execOp a.eval o = execOp (peval EK EV D (pvals T V γ)) o := by
 refine execOp_congr o (fun cs b => Region.noSelect_spec c.sel i o cs b ho) fun x hx => ?_
 cases x with
 | tmp t =>
  have hl : t ∈ looks o := by
   unfold looks
   exact List.mem_filterMap.2 ⟨.tmp t, by simpa using hx, rfl⟩
  show a.tmps.getD t undef = _
  have hpe : peval EK EV D (pvals T V γ) (.tmp t) = match D.idxOf? t with | some j => pvals T V γ j | none => match EK.idxOf? t with | some j => EV.getD j undef | none => undef := peval_eq hE D _ t
  rw [hpe]
  cases hd : D.idxOf? t with
  | none =>
   have hn : t ∉ D := by
    intro hm
    have := List.idxOf?_eq_none_iff.1 hd
    exact this hm
   have hk := c.keys i o ho hi t hl hd
   have ho : a.tmps[t]? = a0.tmps[t]? := by
    apply h.other t
    intro j hj _ e
    apply hn
    rw [← e]
    have hlt : j < D.length := by rw [c.hlen]; exact hj
    rw [List.getD_eq_getElem?_getD, List.getElem?_eq_getElem hlt]
    exact List.getElem_mem hlt
   cases he : EK.idxOf? t with
   | none => exact absurd hk (List.idxOf?_eq_none_iff.1 he)
   | some j =>
    show a.tmps.getD t undef = EV.getD j undef
    rw [Array.getD_eq_getD_getElem?, ho, hE.get t j he]
    rfl
  | some j =>
   have hj := c.lks i o ho hi t hl j hd
   have hjl := hT j hj
   obtain ⟨hlt, he, _⟩ := List.findIdx?_eq_some_iff_getElem.1 (show D.findIdx? (· == t) = some j from hd)
   have he' : D[j] = t := by simpa using he
   have hjk : j < k := by rw [← c.hlen]; exact hlt
   have hm := h.mine j hjk hjl
   have : D.getD j 0 = t := by rw [List.getD_eq_getElem?_getD, List.getElem?_eq_getElem hlt]; exact he'
   rw [this] at hm
   show a.tmps.getD t undef = pvals T V γ j
   rw [Array.getD_eq_getD_getElem?, hm]
   rfl
 | const v => rfl
 | global g => rfl
 | func f => rfl
theorem wanted_of_inv (c : Cert ops k D T EK ℓ) {γ : Nat → Value} {L : Array Bool} {a : Act} {w : World} (h : PInv ops a0 W0 k D T V F γ L a w)
  {i : Nat} {o : Oper} (hi : i < k) (ho : ops[i]? = some o) (hT : ∀ j ∈ T.getD i [], L.getD j false = true)
  (hg : match o.guard with | none => True | some (g, b) => pvals T V γ g = .bool b) : Region.wanted o (yielded ops a.tmps) = true := by
 unfold Region.wanted
 cases hgu : o.guard with
 | none => rfl
 | some p =>
  obtain ⟨g, b⟩ := p
  rw [hgu] at hg
  obtain ⟨hgT, hgk⟩ := c.guard i o g b ho hi hgu
  have hgo : ops[g]? = some (ops[g]'(Nat.lt_of_lt_of_le hgk c.hk)) := Array.getElem?_eq_getElem (Nat.lt_of_lt_of_le hgk c.hk)
  have hd := c.dst g _ hgo hgk
  have hm := h.mine g hgk (hT g hgT)
  show (yielded ops a.tmps g == some b) = true
  unfold yielded
  rw [hgo]
  simp only [Option.bind_some, hd, hm]
  have hg' : pvals T V γ g = .bool b := hg
  rw [hg']
  simp
theorem inv_step (c : Cert ops k D T EK ℓ) (hD : ∀ d ∈ D, d < a0.tmps.size) (hmono : ∀ i γ w w', i < k → Ext w w' → F i γ w → F i γ w')
  {γ : Nat → Value} {L : Array Bool} {a : Act} {w : World} (h : PInv ops a0 W0 k D T V F γ L a w)
  {i : Nat} {o : Oper} (hi : i < k) (ho : ops[i]? = some o) (hun : L.getD i false = false) (hed : ∀ e ∈ o.after, Region.binds .any e = true → L.getD e.on false = true)
  {v : Value} {w' : World} (hw : Ext w w') (hv : V (mask (i :: T.getD i []) (upd γ i v)) i = v) (hF : F i (mask (i :: T.getD i []) (upd γ i v)) w')
  (hnew : (∃ t, o.op = .alloc t) → v = .pointer (some ⟨w.heap.size, 0, none⟩) ∧ w.heap.size < w'.heap.size) :
  PInv ops a0 W0 k D T V F (upd γ i v) (L.setIfInBounds i true) (a.put o.dst v) w' := by
 have hiL : i < L.size := by rw [h.size]; exact Nat.lt_of_lt_of_le hi c.hk
 have hdst := c.dst i o ho hi
 have hlt : i < D.length := by rw [c.hlen]; exact hi
 have hDi : D.getD i 0 < a0.tmps.size := hD _ (by rw [List.getD_eq_getElem?_getD, List.getElem?_eq_getElem hlt]; exact List.getElem_mem hlt)
 have same : ∀ j, j < k → j ≠ i → L.getD j false = true → mask (j :: T.getD j []) (upd γ i v) = mask (j :: T.getD j []) γ := by
  intro j hj hne hjl
  funext m
  unfold mask
  split
  ·rename_i hm
   unfold upd
   split
   ·rename_i hmi
    subst hmi
    exfalso
    have hm' : m = j ∨ m ∈ T.getD j [] := by simpa using hm
    rcases hm' with rfl | hm'
    ·exact hne rfl
    ·have hjo : ops[j]? = some (ops[j]'(Nat.lt_of_lt_of_le hj c.hk)) := Array.getElem?_eq_getElem (Nat.lt_of_lt_of_le hj c.hk)
     have := c.up h.closed j _ hjo (h.closed j _ hjl hjo) m hm'
     rw [this] at hun
     cases hun
   ·rfl
  ·rfl
 have pvi : pvals T V (upd γ i v) i = v := hv
 have pvj : ∀ j, j < k → j ≠ i → L.getD j false = true → pvals T V (upd γ i v) j = pvals T V γ j := fun j hj hne hjl => by unfold pvals; rw [same j hj hne hjl]
 have nw : isNew ops i → v = .pointer (some ⟨w.heap.size, 0, none⟩) ∧ w.heap.size < w'.heap.size := fun ⟨o', t, h1, h2⟩ => by
  rw [ho] at h1; cases h1; exact hnew ⟨t, h2⟩
 have lst : ∀ j, j ≠ i → (L.setIfInBounds i true).getD j false = true → L.getD j false = true := fun j hne h => by
  rwa [getD_set hiL, if_neg (fun e => hne e.symm)] at h
 refine ⟨by simpa using h.size, fun j oj hj hoj e he hb => ?_, fun j hj => ?_, ?_, ?_, fun j hj hjl => ?_, fun t ht => ?_, h.ext.trans hw, fun j hj hjl => ?_, fun j hj hjl hn => ?_, fun j m hj hm hne hjl hml hn hn' => ?_⟩
 ·rw [getD_set hiL] at hj ⊢
  split
  ·rfl
  ·split at hj
   ·rename_i hij
    subst hij
    rw [ho] at hoj
    cases hoj
    exact hed e he hb
   ·exact h.closed j oj hj hoj e he hb
 ·rw [getD_set hiL, if_neg (by omega)]
  exact h.low j hj
 ·rw [hdst]; exact h.defers
 ·rw [hdst]; simpa [Act.put] using h.tsize
 ·rw [getD_set hiL] at hjl
  rw [hdst]
  show (a.tmps.setIfInBounds (D.getD i 0) v)[D.getD j 0]? = _
  by_cases e : i = j
  ·subst e
   rw [Array.getElem?_setIfInBounds, if_pos rfl, if_pos (by rw [h.tsize]; exact hDi)]
   unfold pvals
   rw [hv]
  ·rw [if_neg e] at hjl
   rw [Array.getElem?_setIfInBounds_ne (c.dist i j hi hj e), h.mine j hj hjl]
   unfold pvals
   rw [same j hj (fun e' => e e'.symm) hjl]
 ·rw [hdst]
  show (a.tmps.setIfInBounds (D.getD i 0) v)[t]? = _
  have hne : D.getD i 0 ≠ t := ht i hi (by rw [getD_set hiL, if_pos rfl])
  rw [Array.getElem?_setIfInBounds_ne hne]
  exact h.other t fun j hj hjl => ht j hj (by rw [getD_set hiL]; split <;> first | rfl | exact hjl)
 ·rw [getD_set hiL] at hjl
  by_cases e : i = j
  ·subst e; exact hF
  ·rw [if_neg e] at hjl
   rw [same j hj (fun e' => e e'.symm) hjl]
   exact hmono j _ _ _ hj hw (h.facts j hj hjl)
 ·by_cases e : j = i
  ·subst e
   rw [pvi]
   exact ⟨_, (nw hn).1, (nw hn).2⟩
  ·rw [pvj j hj e (lst j e hjl)]
   obtain ⟨g, h1, h2⟩ := h.fresh j hj (lst j e hjl) hn
   exact ⟨g, h1, Nat.lt_of_lt_of_le h2 hw.size⟩
 ·by_cases e : j = i
  ·subst e
   rw [pvi, pvj m hm (fun e => hne e.symm) (lst m (fun e => hne e.symm) hml), (nw hn).1]
   obtain ⟨g, h1, h2⟩ := h.fresh m hm (lst m (fun e => hne e.symm) hml) hn'
   rw [h1]
   intro e; cases e; omega
  ·by_cases e' : m = i
   ·subst e'
    rw [pvi, pvj j hj e (lst j e hjl), (nw hn').1]
    obtain ⟨g, h1, h2⟩ := h.fresh j hj (lst j e hjl) hn
    rw [h1]
    intro e; cases e; omega
   ·rw [pvj j hj e (lst j e hjl), pvj m hm e' (lst m e' hml)]
    exact h.apart j m hj hm hne (lst j e hjl) (lst m e' hml) hn hn'
theorem wpAny_tail (c : Cert ops k D T EK ℓ) (hℓ : ℓ < k ∨ ops.size ≤ ℓ) : ∀ (r m fuel : Nat) (L : Array Bool) (a : Act) (w : World), ops.size = m + r → r ≤ fuel → k ≤ m → L.size = ops.size →
  (∀ j, j < m → L.getD j false = true) → (∀ j, m ≤ j → L.getD j false = false) → wpList P ops Q (ops.toList.drop m) a w → wpAny P .any ops Q fuel L a w := by
 intro r
 induction r with
 | zero =>
  intro m fuel L a w hs _ _ hL hlo hhi h
  have hr : Region.ready .any ops L = [] := by
   rw [List.eq_nil_iff_forall_not_mem]
   intro i hi
   obtain ⟨h1, h2, _⟩ := mem_ready.1 hi
   have h3 := hlo i (by omega)
   rw [Array.getD_eq_getD_getElem?, Array.getElem?_eq_getElem (by omega)] at h2 h3
   simp at h2 h3
   rw [h2] at h3; cases h3
  have hd : ops.toList.drop m = [] := List.drop_eq_nil_of_le (by simp; omega)
  rw [hd] at h
  cases fuel with
  | zero => exact ⟨hr, h⟩
  | succ fuel => exact ⟨fun _ => h, fun i hi => by rw [hr] at hi; cases hi⟩
 | succ r ih =>
  intro m fuel L a w hs hf hk hL hlo hhi h
  obtain ⟨fuel, rfl⟩ : ∃ f, fuel = f + 1 := ⟨fuel - 1, by omega⟩
  have hm : m < ops.size := by omega
  have hmo : ops[m]? = some ops[m] := Array.getElem?_eq_getElem hm
  have hun : ∀ j, j < ops.size → L.getD j true = L.getD j false := fun j hj => by
   rw [Array.getD_eq_getD_getElem?, Array.getD_eq_getD_getElem?, Array.getElem?_eq_getElem (by omega)]; rfl
  have hmr : m ∈ Region.ready .any ops L := mem_ready.2 ⟨hm, by rw [hun m hm]; exact hhi m (Nat.le_refl _), _, hmo, fun e he hb => hlo _ (c.edges m _ hmo e he hb)⟩
  refine ⟨fun h0 => (by rw [h0] at hmr; cases hmr), fun i hi => ?_⟩
  obtain ⟨h1, h2, o, ho, he⟩ := mem_ready.1 hi
  have him : i = m := by
   rcases Nat.lt_trichotomy i m with h | h | h
   ·rw [hun i h1, hlo i h] at h2; cases h2
   ·exact h
   ·have hT := c.tail i (by omega) h1 m h (by omega)
    obtain ⟨e, hem, hb, hh⟩ := c.anc i o ho m hT
    have hon := he e hem hb
    have hlt : e.on < m := by
     rcases Nat.lt_or_ge e.on m with h | h
     ·exact h
     ·rw [hhi _ h] at hon; cases hon
    rcases hh with hh | hh
    ·omega
    ·exfalso
     have heo : ops[e.on]? = some (ops[e.on]'(by omega)) := Array.getElem?_eq_getElem (by omega)
     -- m comes before an operation below m: impossible, by the edges
     have key : ∀ x, x < ops.size → ∀ j ∈ T.getD x [], j < x := by
      intro x
      induction x using Nat.strongRecOn with
      | _ x ihx =>
       intro hx j hj
       have hxo : ops[x]? = some ops[x] := Array.getElem?_eq_getElem hx
       obtain ⟨e', he', hb', h'⟩ := c.anc x _ hxo j hj
       have := c.edges x _ hxo e' he' hb'
       rcases h' with rfl | h'
       ·exact this
       ·exact Nat.lt_trans (ihx e'.on this (by omega) j h') this
     have := key e.on (by omega) m hh
     omega
  subst him
  have hdrop : ops.toList.drop i = ops[i] :: ops.toList.drop (i + 1) := by
   rw [List.drop_eq_getElem_cons (by simpa using hm)]
   simp
  rw [hdrop] at h
  have hop : wpOp P ops Q i (wpList P ops Q (ops.toList.drop (i + 1))) a w := by
   unfold wpOp
   rw [hmo]
   exact h
  refine wpOp_mono (fun a w hw => ?_) hop
  refine ih (i + 1) fuel _ a w (by omega) (by omega) (by omega) (by simpa using hL) (fun j hj => ?_) (fun j hj => ?_) hw
  ·rw [getD_set (by omega)]
   split
   ·rfl
   ·exact hlo j (by omega)
  ·rw [getD_set (by omega), if_neg (by omega)]
   exact hhi j (by omega)
def lateP (P : Program) (ops : Array Oper) (Q : Exit → Act → World → Prop) (e : Oper) : Nat → List Oper → Act → World → Prop
 | 0, _, _, _ => True
 | _, [], _, _ => True
 | n + 1, o :: rest, a, w => wpList P ops (Exit.then (fun a' w' => wpList P ops Q (e :: rest) a' w' ∧ lateP P ops Q e n rest a' w') Q) [o] a w
theorem upon_then {P : Program} {o : Oper} {a : Act} {K K' : Act → World → Prop} {Q : Exit → Act → World → Prop} (r : Result Next) : o.upon P a K (Exit.then K' Q) r = o.upon P a K Q r := by
 cases r with
 | ok n w => cases n <;> rfl
 | _ => rfl
theorem wpList_then {P : Program} {ops : Array Oper} {Q : Exit → Act → World → Prop} {K : Act → World → Prop} {o : Oper} {a : Act} {w : World} (h : wpList P ops (Exit.then K Q) [o] a w) :
  if Region.wanted o (yielded ops a.tmps) then o.wp P a w K Q ∨ (o.asks P a w ∧ LetsOut Q) else K (a.put o.dst undef) w := by
 have h' : if Region.wanted o (yielded ops a.tmps) then o.wp P a w (wpList P ops (Exit.then K Q) []) (Exit.then K Q) ∨ (o.asks P a w ∧ LetsOut (Exit.then K Q)) else wpList P ops (Exit.then K Q) [] (a.put o.dst undef) w := h
 split at h'
 ·rename_i hw
  rw [if_pos hw]
  rcases h' with h' | h'
  ·left
   unfold Oper.wp at h' ⊢
   rw [upon_then] at h'
   exact h'
  ·exact .inr h'
 ·rename_i hw
  rw [if_neg hw]
  exact h'
theorem wpAny_late (c : Cert ops k D T EK ℓ) (hℓ : ℓ < k) (hg : ∀ i o, k ≤ i → ops[i]? = some o → o.guard = none) {e : Oper} (he : ops[ℓ]? = some e) : ∀ (r m fuel n : Nat) (L : Array Bool) (a : Act) (w : World), ops.size = m + r → r + 1 ≤ fuel → k ≤ m → L.size = ops.size →
  (∀ j, j < m → j ≠ ℓ → L.getD j false = true) → L.getD ℓ false = false → (∀ j, m ≤ j → L.getD j false = false) → (∀ i, m + n ≤ i → i < ops.size → ℓ ∈ T.getD i []) → (∀ i o, L.getD i false = true → ops[i]? = some o → ∀ e ∈ o.after, Region.binds .any e = true → L.getD e.on false = true) → wpList P ops Q (e :: ops.toList.drop m) a w ∧ lateP P ops Q e n (ops.toList.drop m) a w → wpAny P .any ops Q fuel L a w := by
 intro r
 induction r with
 | zero =>
  intro m fuel n L a w hs hf hk hL hlo hl hhi hn hcl h
  obtain ⟨fuel, rfl⟩ : ∃ f, fuel = f + 1 := ⟨fuel - 1, by omega⟩
  have hun : ∀ j, j < ops.size → L.getD j true = L.getD j false := fun j hj => by
   rw [Array.getD_eq_getD_getElem?, Array.getD_eq_getD_getElem?, Array.getElem?_eq_getElem (by omega)]; rfl
  have hlr : ℓ ∈ Region.ready .any ops L := mem_ready.2 ⟨by omega, by rw [hun ℓ (by omega)]; exact hl, _, he, fun e' he' hb => hlo _ (by have := c.edges ℓ _ he e' he' hb; omega) (by have := c.edges ℓ _ he e' he' hb; omega)⟩
  refine ⟨fun h0 => (by rw [h0] at hlr; cases hlr), fun i hi => ?_⟩
  obtain ⟨h1, h2, o, ho, hed⟩ := mem_ready.1 hi
  have hil : i = ℓ := by
   by_cases hil : i = ℓ
   ·exact hil
   ·rw [hun i h1, hlo i (by omega) hil] at h2; cases h2
  subst hil
  have hop : wpOp P ops Q i (wpList P ops Q (ops.toList.drop m)) a w := by unfold wpOp; rw [he]; exact h.1
  refine wpOp_mono (fun a w hw => ?_) hop
  refine wpAny_tail c (.inl hℓ) 0 m fuel _ a w (by omega) (by omega) hk (by simpa using hL) (fun j hj => ?_) (fun j hj => ?_) hw
  ·rw [getD_set (by omega)]
   split
   ·rfl
   ·rename_i hne; exact hlo j hj (fun e => hne e.symm)
  ·rw [getD_set (by omega), if_neg (by omega)]
   exact hhi j hj
 | succ r ih =>
  intro m fuel n L a w hs hf hk hL hlo hl hhi hn hcl h
  obtain ⟨fuel, rfl⟩ : ∃ f, fuel = f + 1 := ⟨fuel - 1, by omega⟩
  have hun : ∀ j, j < ops.size → L.getD j true = L.getD j false := fun j hj => by
   rw [Array.getD_eq_getD_getElem?, Array.getD_eq_getD_getElem?, Array.getElem?_eq_getElem (by omega)]; rfl
  have hlr : ℓ ∈ Region.ready .any ops L := mem_ready.2 ⟨by omega, by rw [hun ℓ (by omega)]; exact hl, _, he, fun e' he' hb => hlo _ (by have := c.edges ℓ _ he e' he' hb; omega) (by have := c.edges ℓ _ he e' he' hb; omega)⟩
  refine ⟨fun h0 => (by rw [h0] at hlr; cases hlr), fun i hi => ?_⟩
  obtain ⟨h1, h2, o, ho, hed⟩ := mem_ready.1 hi
  by_cases hil : i = ℓ
  ·subst hil
   have hop : wpOp P ops Q i (wpList P ops Q (ops.toList.drop m)) a w := by unfold wpOp; rw [he]; exact h.1
   refine wpOp_mono (fun a w hw => ?_) hop
   refine wpAny_tail c (.inl hℓ) (r + 1) m fuel _ a w (by omega) (by omega) hk (by simpa using hL) (fun j hj => ?_) (fun j hj => ?_) hw
   ·rw [getD_set (by omega)]
    split
    ·rfl
    ·rename_i hne; exact hlo j hj (fun e => hne e.symm)
   ·rw [getD_set (by omega), if_neg (by omega)]
    exact hhi j hj
  ·have hm : m < ops.size := by omega
   have him : i = m := by
    rcases Nat.lt_trichotomy i m with h' | h' | h'
    ·rw [hun i h1, hlo i h' hil] at h2; cases h2
    ·exact h'
    ·exfalso
     have hT := c.tail i (by omega) h1 m h' (by omega)
     obtain ⟨e', hem, hb, hh⟩ := c.anc i o ho m hT
     have hon := hed e' hem hb
     have hlt : e'.on < m := by
      rcases Nat.lt_or_ge e'.on m with h | h
      ·exact h
      ·rw [hhi _ h] at hon; cases hon
     rcases hh with hh | hh
     ·omega
     ·have key : ∀ x, x < ops.size → ∀ j ∈ T.getD x [], j < x := by
       intro x
       induction x using Nat.strongRecOn with
       | _ x ihx =>
        intro hx j hj
        have hxo : ops[x]? = some ops[x] := Array.getElem?_eq_getElem hx
        obtain ⟨e', he', hb', h'⟩ := c.anc x _ hxo j hj
        have := c.edges x _ hxo e' he' hb'
        rcases h' with rfl | h'
        ·exact this
        ·exact Nat.lt_trans (ihx e'.on this (by omega) j h') this
      have := key e'.on (by omega) m hh
      omega
   subst him
   obtain ⟨n, rfl⟩ : ∃ n', n = n' + 1 := by
    cases n with
    | zero =>
     exfalso
     have := c.up hcl i o ho hed ℓ (hn i (by omega) hm)
     rw [hl] at this; cases this
    | succ n => exact ⟨n, rfl⟩
   have hdrop : ops.toList.drop i = ops[i] :: ops.toList.drop (i + 1) := by
    rw [List.drop_eq_getElem_cons (by simpa using hm)]
    simp
   have hio : ops[i]? = some ops[i] := Array.getElem?_eq_getElem hm
   rw [hdrop] at h
   have hop : wpOp P ops Q i (fun a' w' => wpList P ops Q (e :: ops.toList.drop (i + 1)) a' w' ∧ lateP P ops Q e n (ops.toList.drop (i + 1)) a' w') a w := by
    unfold wpOp
    rw [hio]
    exact wpList_then h.2
   refine wpOp_mono (fun a w hw => ?_) hop
   refine ih (i + 1) fuel n _ a w (by omega) (by omega) (by omega) (by simpa using hL) (fun j hj hne => ?_) ?_ (fun j hj => ?_) (fun j hj hjs => hn j (by omega) hjs) (fun j oj hj hoj e he hb => ?_) hw
   ·rw [getD_set (by omega)]
    split
    ·rfl
    ·exact hlo j (by omega) hne
   ·rw [getD_set (by omega), if_neg (by omega)]
    exact hl
   ·rw [getD_set (by omega), if_neg (by omega)]
    exact hhi j (by omega)
   ·rw [getD_set (by omega)] at hj ⊢
    split
    ·rfl
    ·split at hj
     ·rename_i hij
      subst hij
      rw [ho] at hoj
      cases hoj
      exact hed e he hb
     ·exact hcl j oj hj hoj e he hb
theorem range_split (n i : Nat) (h : i ≤ n) : List.range n = List.range i ++ List.range' i (n - i) := by
 have e := List.range'_append_1 (s := 0) (m := i) (n := n - i)
 rw [show i + (n - i) = n from by omega, Nat.zero_add] at e
 rw [List.range_eq_range', List.range_eq_range', e]
theorem fillAll_frame (v : Nat → Value) : ∀ (ds : List Nat) (i : Nat) (a : Act), (fillAll a v i ds).defers = a.defers ∧ (fillAll a v i ds).tmps.size = a.tmps.size ∧
  (∀ t, t ∉ ds → (fillAll a v i ds).tmps[t]? = a.tmps[t]?) ∧
  (∀ j, (hj : j < ds.length) → (∀ m, (hm : m < ds.length) → j < m → ds[m] ≠ ds[j]) → ds[j] < a.tmps.size → (fillAll a v i ds).tmps[ds[j]]? = some (v (i + j))) := by
 intro ds
 induction ds with
 | nil => intro i a; exact ⟨rfl, rfl, fun _ _ => rfl, fun j hj => by simp at hj⟩
 | cons d ds ih =>
  intro i a
  obtain ⟨h1, h2, h3, h4⟩ := ih (i + 1) (a.put (some d) (v i))
  refine ⟨h1, ?_, fun t ht => ?_, fun j hj hd hlt => ?_⟩
  ·show (fillAll (a.put (some d) (v i)) v (i + 1) ds).tmps.size = _
   rw [h2]; simp [Act.put]
  ·show (fillAll (a.put (some d) (v i)) v (i + 1) ds).tmps[t]? = _
   rw [h3 t (fun h => ht (List.mem_cons_of_mem _ h))]
   have : d ≠ t := fun e => ht (by rw [e]; exact List.mem_cons_self)
   show (a.tmps.setIfInBounds d (v i))[t]? = _
   rw [Array.getElem?_setIfInBounds_ne this]
  ·show (fillAll (a.put (some d) (v i)) v (i + 1) ds).tmps[(d :: ds)[j]]? = _
   cases j with
   | zero =>
    show (fillAll (a.put (some d) (v i)) v (i + 1) ds).tmps[d]? = _
    have hn : d ∉ ds := by
     intro hm
     obtain ⟨m, hm, he⟩ := List.getElem_of_mem hm
     exact hd (m + 1) (by simpa using hm) (by omega) (by simpa using he)
    rw [h3 d hn]
    show (a.tmps.setIfInBounds d (v i))[d]? = _
    rw [Array.getElem?_setIfInBounds, if_pos rfl, if_pos (show d < a.tmps.size from hlt)]
    rfl
   | succ j =>
    have := h4 j (by simpa using hj) (fun m hm hjm => hd (m + 1) (Nat.succ_lt_succ hm) (by omega)) (by simpa [Act.put] using hlt)
    rw [show i + (j + 1) = i + 1 + j from by omega]
    simpa using this
theorem frame_eq (c : Cert ops k D T EK ℓ) (hD : ∀ d ∈ D, d < a0.tmps.size) {γ : Nat → Value} {L : Array Bool} {a : Act} {w : World} (h : PInv ops a0 W0 k D T V F γ L a w)
  (hall : ∀ i, i < k → L.getD i false = true) : a = fillAll a0 (pvals T V γ) 0 D := by
 obtain ⟨f1, f2, f3, f4⟩ := fillAll_frame (pvals T V γ) D 0 a0
 have ht : a.tmps = (fillAll a0 (pvals T V γ) 0 D).tmps := by
  apply Array.ext_getElem?
  intro t
  by_cases hm : t ∈ D
  ·obtain ⟨j, hj, e⟩ := List.getElem_of_mem hm
   have hjk : j < k := by rw [← c.hlen]; exact hj
   have hg : ∀ m, (hm : m < D.length) → D.getD m 0 = D[m] := fun m hm => by rw [List.getD_eq_getElem?_getD, List.getElem?_eq_getElem hm]; rfl
   have h1 := h.mine j hjk (hall j hjk)
   rw [hg j hj] at h1
   have h2 := f4 j hj (fun m hm hjm => by
    have := c.dist m j (by rw [← c.hlen]; exact hm) hjk (by omega)
    rwa [hg m hm, hg j hj] at this) (hD _ (List.getElem_mem hj))
   rw [← e, h1, h2, Nat.zero_add]
  ·rw [f3 t hm]
   refine h.other t fun i hi _ e => hm ?_
   have hlt : i < D.length := by rw [c.hlen]; exact hi
   rw [← e, List.getD_eq_getElem?_getD, List.getElem?_eq_getElem hlt]
   exact List.getElem_mem hlt
 have hd : a.defers = (fillAll a0 (pvals T V γ) 0 D).defers := h.defers.trans f1.symm
 cases a
 generalize fillAll a0 (pvals T V γ) 0 D = b at *
 cases b
 simp only at ht hd
 rw [ht, hd]
theorem frame_late (c : Cert ops k D T EK ℓ) (hD : ∀ d ∈ D, d < a0.tmps.size) (hk : ℓ < k) {γ : Nat → Value} {L : Array Bool} {a : Act} {w : World} (h : PInv ops a0 W0 k D T V F γ L a w)
  (hall : ∀ i, i < k → i ≠ ℓ → L.getD i false = true) (hl : L.getD ℓ false = false) : a = (fillAll a0 (pvals T V γ) 0 D).put (some (D.getD ℓ 0)) (a0.tmps.getD (D.getD ℓ 0) undef) := by
 obtain ⟨f1, f2, f3, f4⟩ := fillAll_frame (pvals T V γ) D 0 a0
 have hg : ∀ m, (hm : m < D.length) → D.getD m 0 = D[m] := fun m hm => by rw [List.getD_eq_getElem?_getD, List.getElem?_eq_getElem hm]; rfl
 have hℓD : ℓ < D.length := by rw [c.hlen]; exact hk
 have hdl : D.getD ℓ 0 < a0.tmps.size := hD _ (by rw [hg ℓ hℓD]; exact List.getElem_mem hℓD)
 have ht : a.tmps = ((fillAll a0 (pvals T V γ) 0 D).put (some (D.getD ℓ 0)) (a0.tmps.getD (D.getD ℓ 0) undef)).tmps := by
  apply Array.ext_getElem?
  intro t
  show _ = ((fillAll a0 (pvals T V γ) 0 D).tmps.setIfInBounds (D.getD ℓ 0) (a0.tmps.getD (D.getD ℓ 0) undef))[t]?
  by_cases hm : t ∈ D
  ·obtain ⟨j, hj, e⟩ := List.getElem_of_mem hm
   have hjk : j < k := by rw [← c.hlen]; exact hj
   by_cases hjl : j = ℓ
   ·subst hjl
    have e' : D.getD j 0 = t := by rw [hg j hj]; exact e
    rw [e', Array.getElem?_setIfInBounds, if_pos rfl, if_pos (by rw [f2, ← e']; exact hdl)]
    rw [h.other t fun i hi hil e2 => by
     by_cases hij : i = j
     ·rw [hij, hl] at hil; cases hil
     ·exact c.dist i j hi hjk hij (by rw [e2, e'])]
    rw [Array.getD_eq_getD_getElem?, Array.getElem?_eq_getElem (by rw [← e']; exact hdl)]
    rfl
   ·have h1 := h.mine j hjk (hall j hjk hjl)
    rw [hg j hj] at h1
    have h2 := f4 j hj (fun m hm hjm => by
     have := c.dist m j (by rw [← c.hlen]; exact hm) hjk (by omega)
     rwa [hg m hm, hg j hj] at this) (hD _ (List.getElem_mem hj))
    have hne : D.getD ℓ 0 ≠ t := fun e2 => c.dist ℓ j hk hjk (fun e3 => hjl e3.symm) (by rw [e2, hg j hj, e])
    rw [Array.getElem?_setIfInBounds_ne hne, ← e, h1, h2, Nat.zero_add]
  ·have hne : D.getD ℓ 0 ≠ t := fun e2 => hm (by rw [← e2, hg ℓ hℓD]; exact List.getElem_mem hℓD)
   rw [Array.getElem?_setIfInBounds_ne hne, f3 t hm]
   refine h.other t fun i hi _ e => hm ?_
   have hlt : i < D.length := by rw [c.hlen]; exact hi
   rw [← e, hg i hlt]
   exact List.getElem_mem hlt
 have hd : a.defers = ((fillAll a0 (pvals T V γ) 0 D).put (some (D.getD ℓ 0)) (a0.tmps.getD (D.getD ℓ 0) undef)).defers := h.defers.trans f1.symm
 cases a
 generalize (fillAll a0 (pvals T V γ) 0 D).put (some (D.getD ℓ 0)) (a0.tmps.getD (D.getD ℓ 0) undef) = b at *
 cases b
 simp only at ht hd
 rw [ht, hd]
theorem wpAny_par (nl : Nat) (c : Cert ops k D T EK ℓ) (hℓ : ℓ < k ∨ ops.size ≤ ℓ) (hgt : ∀ i o, k ≤ i → ops[i]? = some o → ℓ < k → o.guard = none) (hnl : ℓ < k → ∀ i, k + nl ≤ i → i < ops.size → ℓ ∈ T.getD i []) (hE : EAll a0 EK EV) (hD : ∀ d ∈ D, d < a0.tmps.size) (hmono : ∀ i γ w w', i < k → Ext w w' → F i γ w → F i γ w')
  (hstep : ∀ i, i < k → StepOk P ops EK EV W0 D T V F i)
  (htail : ∀ γ w, Ext W0 w → (∀ i, i < k → F i (mask (i :: T.getD i []) γ) w) → (∀ i j, i < k → j < k → i ≠ j → isNew ops i → isNew ops j → pvals T V γ i ≠ pvals T V γ j) → wpList P ops Q (ops.toList.drop k) (fillAll a0 (pvals T V γ) 0 D) w)
  (hlate : ∀ e, ops[ℓ]? = some e → ∀ γ w, Ext W0 w → (∀ i, i < k → i ≠ ℓ → F i (mask (i :: T.getD i []) γ) w) → lateP P ops Q e nl (ops.toList.drop k) ((fillAll a0 (pvals T V γ) 0 D).put (some (D.getD ℓ 0)) (a0.tmps.getD (D.getD ℓ 0) undef)) w) :
  ∀ (fuel : Nat) (γ : Nat → Value) (L : Array Bool) (a : Act) (w : World), (List.range ops.size).countP (fun i => !L.getD i false) ≤ fuel → PInv ops a0 W0 k D T V F γ L a w → wpAny P .any ops Q fuel L a w := by
 intro fuel
 induction fuel with
 | zero =>
  intro γ L a w hf h
  have hall : ∀ i, i < ops.size → L.getD i false = true := by
   intro i hi
   have := List.countP_eq_zero.1 (Nat.le_zero.1 hf) i (List.mem_range.2 hi)
   simpa using this
  have hks : k = ops.size := by
   rcases Nat.lt_or_ge k ops.size with hlt | hge
   ·have h1 := hall k hlt
    rw [h.low k (Nat.le_refl _)] at h1; cases h1
   ·exact Nat.le_antisymm c.hk hge
  have ha : a = fillAll a0 (pvals T V γ) 0 D := frame_eq c hD h (fun i hi => hall i (Nat.lt_of_lt_of_le hi c.hk))
  rw [ha]
  exact wpAny_tail c (by omega) 0 k 0 L _ w (by omega) (Nat.le_refl _) (Nat.le_refl _) h.size (fun j hj => hall j (by omega)) (fun j hj => h.low j hj) (htail γ w h.ext (fun i hi => h.facts i hi (hall i (by omega))) fun i j hi hj hne => h.apart i j hi hj hne (hall i (by omega)) (hall j (by omega)))
 | succ fuel ih =>
  intro γ L a w hf h
  by_cases hall : ∀ i, i < k → L.getD i false = true
  ·have ha : a = fillAll a0 (pvals T V γ) 0 D := frame_eq c hD h hall
   have hcount : ops.size - k ≤ fuel + 1 := by
    refine Nat.le_trans ?_ hf
    have : (List.range' k (ops.size - k)).countP (fun i => !L.getD i false) = ops.size - k := by
     have h1 : (List.range' k (ops.size - k)).countP (fun i => !L.getD i false) = (List.range' k (ops.size - k)).length := by
      rw [List.countP_eq_length]
      intro i hi
      rw [List.mem_range'_1] at hi
      simp [h.low i hi.1]
     rw [h1, List.length_range']
    rw [← this]
    have hsub : (List.range' k (ops.size - k)).Sublist (List.range ops.size) := by
     rw [range_split ops.size k c.hk]
     exact List.sublist_append_right _ _
    exact hsub.countP_le
   rw [ha]
   exact wpAny_tail c (by have := c.hk; omega) (ops.size - k) k (fuel + 1) L _ w (by have := c.hk; omega) hcount (Nat.le_refl _) h.size hall (fun j hj => h.low j hj) (htail γ w h.ext (fun i hi => h.facts i hi (hall i hi)) fun i j hi hj hne => h.apart i j hi hj hne (hall i hi) (hall j hj))
  ·have hun : ∀ j, j < ops.size → L.getD j true = L.getD j false := fun j hj => by
    rw [Array.getD_eq_getD_getElem?, Array.getD_eq_getD_getElem?, Array.getElem?_eq_getElem (by rw [h.size]; exact hj)]; rfl
   by_cases hlc : ℓ < k ∧ ∀ i, i < k → i ≠ ℓ → L.getD i false = true
   ·obtain ⟨hlk, hll⟩ := hlc
    have hll0 : L.getD ℓ false = false := by
     cases hx : L.getD ℓ false with
     | false => rfl
     | true => exact absurd (fun i hi => by
       by_cases e : i = ℓ
       ·rw [e]; exact hx
       ·exact hll i hi e) hall
    have ha := frame_late c hD hlk h hll hll0
    have hls : ℓ < ops.size := by have := c.hk; omega
    have hlo : ops[ℓ]? = some ops[ℓ] := Array.getElem?_eq_getElem hls
    have hcount : ops.size - k + 1 ≤ fuel + 1 := by
     refine Nat.le_trans ?_ hf
     have h1 : (List.range' k (ops.size - k)).countP (fun i => !L.getD i false) = ops.size - k := by
      have h1 : (List.range' k (ops.size - k)).countP (fun i => !L.getD i false) = (List.range' k (ops.size - k)).length := by
       rw [List.countP_eq_length]
       intro i hi
       rw [List.mem_range'_1] at hi
       simp [h.low i hi.1]
      rw [h1, List.length_range']
     have h2 : 0 < (List.range k).countP (fun i => !L.getD i false) := List.countP_pos_iff.2 ⟨ℓ, List.mem_range.2 hlk, by rw [hll0]; rfl⟩
     rw [range_split ops.size k c.hk, List.countP_append, h1]
     omega
    have hed : ∀ e ∈ (ops[ℓ]).after, Region.binds .any e = true → L.getD e.on false = true := fun e he hb => hll _ (by have := c.edges ℓ _ hlo e he hb; omega) (by have := c.edges ℓ _ hlo e he hb; omega)
    have hT := c.up h.closed ℓ _ hlo hed
    have hs := hstep ℓ hlk γ w h.ext (fun j hj => h.facts j (by
     have hjl := hT j hj
     rcases Nat.lt_or_ge j k with hlt | hge
     ·exact hlt
     ·rw [h.low j hge] at hjl; cases hjl) (hT j hj))
    rw [hlo] at hs
    obtain ⟨hg, hu⟩ := hs
    have hfirst : wpList P ops Q (ops[ℓ] :: ops.toList.drop k) a w := by
     show if _ then _ else _
     rw [if_pos (wanted_of_inv c h hlk hlo hT hg)]
     refine .inl (UponV.wp (upon_new hu) (eval_of_inv c hE h hlk hlo hT) fun v w' hvw => ?_)
     obtain ⟨⟨q1, q2, q3⟩, q4⟩ := hvw
     have h' := inv_step c hD hmono h hlk hlo hll0 hed q1 q2 q3 q4
     have hsz : ℓ < L.size := by rw [h.size]; exact hls
     have hall' : ∀ i, i < k → (L.setIfInBounds ℓ true).getD i false = true := fun i hi => by
      rw [getD_set hsz]
      split
      ·rfl
      ·rename_i e; exact hll i hi (fun e' => e e'.symm)
     rw [frame_eq c hD h' hall']
     exact htail _ _ h'.ext (fun i hi => h'.facts i hi (hall' i hi)) fun i j hi hj hne => h'.apart i j hi hj hne (hall' i hi) (hall' j hj)
    refine wpAny_late c hlk (fun i o hki hio => hgt i o hki hio hlk) hlo (ops.size - k) k (fuel + 1) nl L a w (by have := c.hk; omega) hcount (Nat.le_refl _) h.size (fun j hj hne => hll j hj hne) hll0 (fun j hj => h.low j hj) (hnl hlk) h.closed ⟨hfirst, ?_⟩
    rw [ha]
    exact hlate _ hlo γ w h.ext fun i hi hne => h.facts i hi (hll i hi hne)
   -- the least that is not listed may come up
   have hex : ∃ i, i < k ∧ L.getD i false = false ∧ ∀ j, j < i → L.getD j false = true := by
    have : ∃ i, i < k ∧ L.getD i false = false := by
     obtain ⟨i, hi⟩ := Classical.not_forall.1 hall
     obtain ⟨hi, hl⟩ := Classical.not_imp.1 hi
     exact ⟨i, hi, by simpa using hl⟩
    obtain ⟨i, hi, hl⟩ := this
    induction i using Nat.strongRecOn with
    | _ i ihi =>
     by_cases hj : ∃ j, j < i ∧ L.getD j false = false
     ·obtain ⟨j, hji, hjl⟩ := hj
      exact ihi j hji (by omega) hjl
     ·refine ⟨i, hi, hl, fun j hji => ?_⟩
      cases hjl : L.getD j false with
      | true => rfl
      | false => exact absurd ⟨j, hji, hjl⟩ hj
   obtain ⟨i0, hi0, hl0, hlow0⟩ := hex
   have hi0s : i0 < ops.size := Nat.lt_of_lt_of_le hi0 c.hk
   have hi0o : ops[i0]? = some ops[i0] := Array.getElem?_eq_getElem hi0s
   have hr0 : i0 ∈ Region.ready .any ops L := mem_ready.2 ⟨hi0s, by rw [hun i0 hi0s]; exact hl0, _, hi0o, fun e he hb => hlow0 _ (c.edges i0 _ hi0o e he hb)⟩
   refine ⟨fun h0 => (by rw [h0] at hr0; cases hr0), fun i hi => ?_⟩
   obtain ⟨h1, h2, o, ho, he⟩ := mem_ready.1 hi
   rw [hun i h1] at h2
   have hT := c.up h.closed i o ho he
   have hik : i < k := by
    rcases Nat.lt_or_ge i k with hlt | hge
    ·exact hlt
    ·have := hT i0 (c.tail i hge h1 i0 (by omega) (by
      rintro rfl
      refine hlc ⟨hi0, fun j hj hne => ?_⟩
      have hjT := c.tail i hge h1 j (by omega) hne
      exact hT j hjT))
     rw [hl0] at this; cases this
   have hs := hstep i hik γ w h.ext (fun j hj => h.facts j (by
    have hjl := hT j hj
    rcases Nat.lt_or_ge j k with hlt | hge
    ·exact hlt
    ·rw [h.low j hge] at hjl; cases hjl) (hT j hj))
   rw [ho] at hs
   obtain ⟨hg, hu⟩ := hs
   unfold wpOp
   rw [ho]
   show if _ then _ else _
   rw [if_pos (wanted_of_inv c h hik ho hT hg)]
   refine .inl (UponV.wp (upon_new hu) (eval_of_inv c hE h hik ho hT) fun v w' hvw => ?_)
   obtain ⟨⟨q1, q2, q3⟩, q4⟩ := hvw
   refine ih (upd γ i v) _ _ w' ?_ (inv_step c hD hmono h hik ho h2 he q1 q2 q3 q4)
   have hiL : i < L.size := by rw [h.size]; exact h1
   have hlt : (List.range ops.size).countP (fun j => !(L.setIfInBounds i true).getD j false) < (List.range ops.size).countP (fun j => !L.getD j false) := by
    have hle : ∀ (l : List Nat), l.countP (fun j => !(L.setIfInBounds i true).getD j false) ≤ l.countP (fun j => !L.getD j false) := fun l =>
     List.countP_mono_left fun j _ hj => by
      rw [getD_set hiL] at hj
      split at hj
      ·simp at hj
      ·exact hj
    have hspl : List.range ops.size = List.range i ++ i :: List.range' (i + 1) (ops.size - i - 1) := by
     rw [range_split ops.size i (by omega), show ops.size - i = (ops.size - i - 1) + 1 from by omega, List.range'_succ]
     simp
    rw [hspl, List.countP_append, List.countP_append, List.countP_cons, List.countP_cons]
    have a1 := hle (List.range i)
    have a2 := hle (List.range' (i + 1) (ops.size - i - 1))
    rw [getD_set hiL, if_pos rfl, h2]
    simp only [Bool.not_true, Bool.not_false, if_true, Bool.false_eq_true, if_false]
    omega
   omega
def kv (v : Value) (_ : Nat → Value) : Value := v
@[go_sem] theorem kv_eq (v : Value) (γ : Nat → Value) : kv v γ = v := rfl
def gV (VL : List ((Nat → Value) → Value)) (γ : Nat → Value) (i : Nat) : Value := VL.getD i (fun _ => undef) γ
def gF (FL : (Nat → Value) → World → List Prop) (γ : Nat → Value) (w : World) (i : Nat) : Prop := (FL γ w).getD i True
def Back (p : Prop) : Prop := p
@[go_sem] theorem gV_eq (VL : List ((Nat → Value) → Value)) (γ : Nat → Value) (i : Nat) : gV VL γ i = VL.getD i (fun _ => undef) γ := rfl
def StepTo (P : Program) (ops : Array Oper) (EK : List Nat) (EV : List Value) (W0 : World) (D : List Nat) (T : List (List Nat)) (VL : List ((Nat → Value) → Value)) (FL : (Nat → Value) → World → List Prop) (i : Nat) : Prop :=
 ∀ γ w, Ext W0 w → (∀ j, j ∈ T.getD i [] → gF FL γ w j) →
  match ops[i]? with
  | none => False
  | some o => (match o.guard with | none => True | some (g, b) => gV VL γ g = .bool b) ∧
   ∀ R : Value → World → Prop, Back (∀ v w', Ext w w' → gV VL (upd γ i v) i = v → gF FL (upd γ i v) w' i → R v w') → UponV P R ((execOp (peval EK EV D (gV VL γ)) o).run P w)
def Local (T : List (List Nat)) (VL : List ((Nat → Value) → Value)) (FL : (Nat → Value) → World → List Prop) (i : Nat) : Prop :=
 ∀ γ γ', (∀ j, (i :: T.getD i []).contains j = true → γ j = γ' j) → gV VL γ i = gV VL γ' i ∧ ∀ w, gF FL γ w i = gF FL γ' w i
theorem wp_region_gen {id : Nat} (k ℓ nl : Nat) (D : List Nat) (T : List (List Nat)) (EK : List Nat) (EV : List Value) (VL : List ((Nat → Value) → Value)) (FL : (Nat → Value) → World → List Prop)
  (hE : EAll a0 EK EV) (hm : P.follows .mixedOrders = true) (hc : parOk ops k D T EK ℓ = true) (hℓ : ℓ < k ∨ ops.size ≤ ℓ) (hgt : ℓ < k → (ops.toList.drop k).all (fun o => o.guard.isNone) = true) (hnl : ℓ < k → ∀ i, k + nl ≤ i → i < ops.size → ℓ ∈ T.getD i []) (hD : D.all (fun d => Nat.blt d a0.tmps.size) = true)
  (hT : (List.range k).all (fun i => (T.getD i []).all fun j => Nat.blt j i && (T.getD j []).all fun m => (T.getD i []).contains m) = true)
  (hloc : Each k (Local T VL FL))
  (hmono : Each k fun i => ∀ γ w w', Ext w w' → gF FL γ w i → gF FL γ w' i)
  (hstep : Each k (StepTo P ops EK EV W0 D T VL FL))
  (htail : ∀ γ w, Ext W0 w → Each k (fun i => gF FL γ w i) → (∀ i j, i < k → j < k → i ≠ j → isNew ops i → isNew ops j → gV VL γ i ≠ gV VL γ j) → wpList P ops Q (ops.toList.drop k) (fillAll a0 (gV VL γ) 0 D) w)
  (hlate : ∀ e, ops[ℓ]? = some e → ∀ γ w, Ext W0 w → Each k (fun i => i = ℓ ∨ gF FL γ w i) → lateP P ops Q e nl (ops.toList.drop k) ((fillAll a0 (gV VL γ) 0 D).put (some (D.getD ℓ 0)) (a0.tmps.getD (D.getD ℓ 0) undef)) w) :
  (Code.region id ops true).wp P Q a0 W0 := by
 have c := parOk_cert hc
 have hT' : ∀ i, i < k → ∀ j ∈ T.getD i [], j < i ∧ ∀ m ∈ T.getD j [], m ∈ T.getD i [] := fun i hi j hj => by
  have := List.all_eq_true.1 (List.all_eq_true.1 hT i (List.mem_range.2 hi)) j hj
  simp only [Bool.and_eq_true, Nat.blt_eq, List.all_eq_true] at this
  exact ⟨this.1, fun m hm => by simpa using this.2 m hm⟩
 have hF : ∀ i, (Array.replicate ops.size false).getD i false = false := fun i => by
  rw [Array.getD_eq_getD_getElem?, Array.getElem?_replicate]; split <;> rfl
 have msk : ∀ (l : List Nat) (γ : Nat → Value) j, l.contains j = true → mask l γ j = γ j := fun l γ j h => by unfold mask; rw [if_pos h]
 have lV : ∀ i, i < k → ∀ γ, gV VL (mask (i :: T.getD i []) γ) i = gV VL γ i := fun i hi γ => (hloc.get i hi _ _ fun j hj => msk _ γ j hj).1
 have lF : ∀ i, i < k → ∀ γ w, gF FL (mask (i :: T.getD i []) γ) w i = gF FL γ w i := fun i hi γ w => (hloc.get i hi _ _ fun j hj => msk _ γ j hj).2 w
 have pv : ∀ γ i, i < k → pvals T (fun γ i => gV VL γ i) γ i = gV VL γ i := fun γ i hi => lV i hi γ
 have pe : ∀ γ, peval EK EV D (pvals T (fun γ i => gV VL γ i) γ) = peval EK EV D (gV VL γ) := fun γ => by
  funext x
  cases x with
  | tmp t =>
   rw [peval_eq hE, peval_eq hE]
   cases hd : D.idxOf? t with
   | none => rfl
   | some j =>
    obtain ⟨hlt, _⟩ := List.findIdx?_eq_some_iff_getElem.1 (show D.findIdx? (· == t) = some j from hd)
    exact pv γ j (by rw [← c.hlen]; exact hlt)
  | const v => rfl
  | global g => rfl
  | func f => rfl
 refine wp_region_any hm ?_
 refine wpAny_par nl (W0 := W0) (V := fun γ i => gV VL γ i) (F := fun i γ w => gF FL γ w i) c hℓ (fun i o hki hio hlk => ?_) hnl hE (fun d hd => by simpa [Nat.blt_eq] using List.all_eq_true.1 hD d hd) (fun i γ w w' hi => hmono.get i hi γ w w') (fun i hi γ w he hf => ?_)
  (fun γ w he hf hap => ?_) (fun e heo γ w he hf => ?_) ops.size (fun _ => undef) _ _ _ ?_ ?_
 ·have hmem : o ∈ ops.toList.drop k := by
   refine List.mem_of_getElem? (i := i - k) ?_
   rw [List.getElem?_drop, show k + (i - k) = i from by omega]
   simpa using hio
  have := List.all_eq_true.1 (hgt hlk) o hmem
  simpa using this
 ·have hs := hstep.get i hi γ w he (fun j hj => by
   have h1 := hT' i hi j hj
   rw [← lF j (by omega) γ w]; exact hf j hj)
  cases ho : ops[i]? with
  | none => rw [ho] at hs; exact hs
  | some o =>
   rw [ho] at hs
   obtain ⟨h1, h2⟩ := hs
   refine ⟨?_, ?_⟩
   ·cases hg : o.guard with
    | none => trivial
    | some p =>
     obtain ⟨g, b⟩ := p
     rw [hg] at h1
     have := c.guard i o g b ho hi hg
     exact (pv γ g this.2).trans h1
   ·rw [pe]
    have e : (fun v w' => Ext w w' ∧ gV VL (mask (i :: T.getD i []) (upd γ i v)) i = v ∧ gF FL (mask (i :: T.getD i []) (upd γ i v)) w' i) = (fun v w' => Ext w w' ∧ gV VL (upd γ i v) i = v ∧ gF FL (upd γ i v) w' i) := by
     funext v w'
     rw [lV i hi, lF i hi]
    rw [e]
    exact h2 _ (fun v w' a b c => ⟨a, b, c⟩)
 ·have h1 := htail γ w he (each_of fun i hi => by rw [← lF i hi γ w]; exact hf i hi) fun i j hi hj hne a b => by
   have := hap i j hi hj hne a b
   rwa [pv γ i hi, pv γ j hj] at this
  have e : fillAll a0 (pvals T (fun γ i => gV VL γ i) γ) 0 D = fillAll a0 (gV VL γ) 0 D := by
   have key : ∀ (ds : List Nat) (i : Nat) (a : Act), i + ds.length ≤ k → fillAll a (pvals T (fun γ i => gV VL γ i) γ) i ds = fillAll a (gV VL γ) i ds := by
    intro ds
    induction ds with
    | nil => intro i a _; rfl
    | cons d ds ih =>
     intro i a hk
     simp only [List.length_cons] at hk
     show fillAll (a.put (some d) (pvals T (fun γ i => gV VL γ i) γ i)) _ (i + 1) ds = fillAll (a.put (some d) (gV VL γ i)) _ (i + 1) ds
     rw [pv γ i (by omega)]
     exact ih _ _ (by omega)
   exact key D 0 a0 (by rw [c.hlen]; omega)
  rw [e]
  exact h1
 ·have hℓs : ℓ < ops.size := (Array.getElem?_eq_some_iff.1 heo).1
  have hlk : ℓ < k := by omega
  have h1 := hlate e heo γ w he (each_of fun i hi => by
   by_cases e : i = ℓ
   ·exact .inl e
   ·right; rw [← lF i hi γ w]; exact hf i hi e)
  have e : fillAll a0 (pvals T (fun γ i => gV VL γ i) γ) 0 D = fillAll a0 (gV VL γ) 0 D := by
   have key : ∀ (ds : List Nat) (i : Nat) (a : Act), i + ds.length ≤ k → fillAll a (pvals T (fun γ i => gV VL γ i) γ) i ds = fillAll a (gV VL γ) i ds := by
    intro ds
    induction ds with
    | nil => intro i a _; rfl
    | cons d ds ih =>
     intro i a hk
     simp only [List.length_cons] at hk
     show fillAll (a.put (some d) (pvals T (fun γ i => gV VL γ i) γ i)) _ (i + 1) ds = fillAll (a.put (some d) (gV VL γ i)) _ (i + 1) ds
     rw [pv γ i (by omega)]
     exact ih _ _ (by omega)
   exact key _ 0 a0 (by rw [c.hlen]; omega)
  rw [e]
  exact h1
 ·exact Nat.le_trans List.countP_le_length (by simp)
 ·have hN : ∀ {p : Prop} i, (Array.replicate ops.size false).getD i false = true → p := fun i h => absurd ((hF i).symm.trans h) (by decide)
  exact ⟨by simp, fun i o h => hN i h, fun i _ => hF i, rfl, rfl, fun i _ h => hN i h, fun t _ => rfl, (Ext.refl W0).drew, fun i _ h => hN i h, fun i _ h => hN i h, fun i _ _ _ _ h => hN i h⟩
theorem wp_region_par {id : Nat} (k : Nat) (D : List Nat) (T : List (List Nat)) (EK : List Nat) (EV : List Value) (VL : List ((Nat → Value) → Value)) (FL : (Nat → Value) → World → List Prop)
  (hE : EAll a0 EK EV) (hm : P.follows .mixedOrders = true) (hc : parOk ops k D T EK ops.size = true) (hD : D.all (fun d => Nat.blt d a0.tmps.size) = true)
  (hT : (List.range k).all (fun i => (T.getD i []).all fun j => Nat.blt j i && (T.getD j []).all fun m => (T.getD i []).contains m) = true)
  (hloc : Each k (Local T VL FL))
  (hmono : Each k fun i => ∀ γ w w', Ext w w' → gF FL γ w i → gF FL γ w' i)
  (hstep : Each k (StepTo P ops EK EV W0 D T VL FL))
  (htail : ∀ γ w, Ext W0 w → Each k (fun i => gF FL γ w i) → wpList P ops Q (ops.toList.drop k) (fillAll a0 (gV VL γ) 0 D) w) :
  (Code.region id ops true).wp P Q a0 W0 :=
 wp_region_gen k ops.size 0 D T EK EV VL FL hE hm hc (.inr (Nat.le_refl _)) (fun h => by have := (parOk_cert hc).hk; omega) (fun h => by have := (parOk_cert hc).hk; omega) hD hT hloc hmono hstep (fun γ w h hF _ => htail γ w h hF) fun e he => by simp at he
theorem wp_region_apart {id : Nat} (k : Nat) (D : List Nat) (T : List (List Nat)) (EK : List Nat) (EV : List Value) (VL : List ((Nat → Value) → Value)) (FL : (Nat → Value) → World → List Prop)
  (hE : EAll a0 EK EV) (hm : P.follows .mixedOrders = true) (hc : parOk ops k D T EK ops.size = true) (hD : D.all (fun d => Nat.blt d a0.tmps.size) = true)
  (hT : (List.range k).all (fun i => (T.getD i []).all fun j => Nat.blt j i && (T.getD j []).all fun m => (T.getD i []).contains m) = true)
  (hloc : Each k (Local T VL FL))
  (hmono : Each k fun i => ∀ γ w w', Ext w w' → gF FL γ w i → gF FL γ w' i)
  (hstep : Each k (StepTo P ops EK EV W0 D T VL FL))
  (htail : ∀ γ w, Ext W0 w → Each k (fun i => gF FL γ w i) → (∀ i j, i < k → j < k → i ≠ j → isNew ops i → isNew ops j → gV VL γ i ≠ gV VL γ j) → wpList P ops Q (ops.toList.drop k) (fillAll a0 (gV VL γ) 0 D) w) :
  (Code.region id ops true).wp P Q a0 W0 :=
 wp_region_gen k ops.size 0 D T EK EV VL FL hE hm hc (.inr (Nat.le_refl _)) (fun h => by have := (parOk_cert hc).hk; omega) (fun h => by have := (parOk_cert hc).hk; omega) hD hT hloc hmono hstep htail fun e he => by simp at he
theorem wp_region_late {id : Nat} (k ℓ nl : Nat) (D : List Nat) (T : List (List Nat)) (EK : List Nat) (EV : List Value) (VL : List ((Nat → Value) → Value)) (FL : (Nat → Value) → World → List Prop) (e : Oper) (heo : ops[ℓ]? = some e)
  (hE : EAll a0 EK EV) (hm : P.follows .mixedOrders = true) (hc : parOk ops k D T EK ℓ = true) (hlk : Nat.blt ℓ k = true) (hg : (ops.toList.drop k).all (fun o => o.guard.isNone) = true)
  (hnl : (List.range ops.size).all (fun i => Nat.blt i (k + nl) || (T.getD i []).contains ℓ) = true) (hD : D.all (fun d => Nat.blt d a0.tmps.size) = true)
  (hT : (List.range k).all (fun i => (T.getD i []).all fun j => Nat.blt j i && (T.getD j []).all fun m => (T.getD i []).contains m) = true)
  (hloc : Each k (Local T VL FL))
  (hmono : Each k fun i => ∀ γ w w', Ext w w' → gF FL γ w i → gF FL γ w' i)
  (hstep : Each k (StepTo P ops EK EV W0 D T VL FL))
  (htail : ∀ γ w, Ext W0 w → Each k (fun i => gF FL γ w i) → wpList P ops Q (ops.toList.drop k) (fillAll a0 (gV VL γ) 0 D) w)
  (hlate : ∀ γ w, Ext W0 w → Each k (fun i => i = ℓ ∨ gF FL γ w i) → lateP P ops Q e nl (ops.toList.drop k) ((fillAll a0 (gV VL γ) 0 D).put (some (D.getD ℓ 0)) (a0.tmps.getD (D.getD ℓ 0) undef)) w) :
  (Code.region id ops true).wp P Q a0 W0 :=
 wp_region_gen k ℓ nl D T EK EV VL FL hE hm hc (.inl (by simpa [Nat.blt_eq] using hlk)) (fun _ => hg) (fun _ i hi his => by
  have := List.all_eq_true.1 hnl i (List.mem_range.2 his)
  simp only [Bool.or_eq_true, Nat.blt_eq] at this
  rcases this with h | h
  ·omega
  ·simpa using h) hD hT hloc hmono hstep (fun γ w h hF _ => htail γ w h hF) fun e' he' => by rw [heo] at he'; cases he'; exact hlate
end
end Go.Hp
namespace Go.Proofs.YtfacbpnegkjcgaaDoor
open Go.RowKit Go.Hp
theorem ret_pair {k j : IntKind} {a b c d : Int} (h : a = c) (h' : b = d) : Ending.returned (.tuple #[.int k a, .int j b]) = .returned (.tuple #[.int k c, .int j d]) := by rw [h, h']
theorem ret_int {k : IntKind} {a b : Int} (h : a = b) : Ending.returned (.int k a) = .returned (.int k b) := by rw [h]
set_option maxHeartbeats 400000 in
theorem add32_any (x y c : Int) (w : World) (hx : 0 ≤ x) (hx' : x < 4294967296) (hy : 0 ≤ y) (hy' : y < 4294967296) (hc : 0 ≤ c) (hc' : c ≤ 1) :
  Calls Tryd.prog 82 #[.int .u32 x, .int .u32 y, .int .u32 c] w fun e w' => e = .returned (.tuple #[.int .u32 ((x + y + c) % 4294967296), .int .u32 ((x + y + c) / 4294967296)]) ∧ w = w' := by
 go_enter Tryd.func82, Tryd.ntmps82
 go_wp2
 go_ret2
 exact ⟨rfl, rfl⟩
def bor (x y c : Int) : Int := if x < y + c then 1 else 0
theorem bor_pos {x y c : Int} (h : x < y + c) : bor x y c = 1 := if_pos h
theorem bor_neg {x y c : Int} (h : y + c ≤ x) : bor x y c = 0 := if_neg (by omega)
theorem bor_mem (x y c : Int) : 0 ≤ bor x y c ∧ bor x y c ≤ 1 := by unfold bor; split <;> omega
theorem top_bit (n : Nat) (h : n < 4294967296) : n / 2147483648 = (n.testBit 31).toNat := by
 rw [Nat.testBit_eq_decide_div_mod_eq]
 by_cases hc : n / 2 ^ 31 % 2 = 1
 ·rw [decide_eq_true hc]; show _ = 1; omega
 ·rw [decide_eq_false hc]; show _ = 0; omega
theorem test_top (n : Nat) (h : n < 4294967296) : n.testBit 31 = decide (2147483648 ≤ n) := by
 rw [Nat.testBit_eq_decide_div_mod_eq]
 by_cases hc : 2147483648 ≤ n
 ·rw [decide_eq_true hc, decide_eq_true (by omega)]
 ·rw [decide_eq_false hc, decide_eq_false (by omega)]
theorem borrow_bits (X Y D : Nat) (c : Int) (hX : X < 4294967296) (hY : Y < 4294967296) (hc : 0 ≤ c) (hc' : c ≤ 1) (hD : (D : Int) = ((X : Int) - Y - c) % 4294967296) :
  (((4294967295 ^^^ X) &&& Y ||| (4294967295 ^^^ (X ^^^ Y)) &&& D : Nat) : Int) / 2147483648 = bor X Y c := by
 have hD' : D < 4294967296 := by omega
 have hlt : ((4294967295 ^^^ X) &&& Y ||| (4294967295 ^^^ (X ^^^ Y)) &&& D) < 2 ^ 32 := by
  apply Nat.or_lt_two_pow
  ·exact Nat.lt_of_le_of_lt Nat.and_le_right hY
  ·exact Nat.lt_of_le_of_lt Nat.and_le_right hD'
 have h1 := top_bit _ hlt
 simp only [Nat.testBit_or, Nat.testBit_and, Nat.testBit_xor] at h1
 rw [test_top X hX, test_top Y hY, test_top D hD', show Nat.testBit 4294967295 31 = true from by decide] at h1
 have h2 : (((4294967295 ^^^ X) &&& Y ||| (4294967295 ^^^ (X ^^^ Y)) &&& D : Nat) : Int) / 2147483648 = ((((4294967295 ^^^ X) &&& Y ||| (4294967295 ^^^ (X ^^^ Y)) &&& D) / 2147483648 : Nat) : Int) := by omega
 rw [h2, h1]
 unfold bor
 by_cases a : 2147483648 ≤ X <;> by_cases b : 2147483648 ≤ Y <;> by_cases d : 2147483648 ≤ D <;> simp only [decide_eq_true_eq, a, b, d, decide_true, decide_false, Bool.xor_true, Bool.xor_false, Bool.not_true, Bool.not_false, Bool.true_and, Bool.false_and, Bool.and_true, Bool.and_false, Bool.or_true, Bool.or_false, Bool.true_or, Bool.false_or, Bool.toNat_true, Bool.toNat_false] <;> split <;> omega
theorem sub_bits (x y c : Int) (hx : 0 ≤ x) (hx' : x < 4294967296) (hy : 0 ≤ y) (hy' : y < 4294967296) (hc : 0 ≤ c) (hc' : c ≤ 1) :
  bits .or .u32 (bits .and .u32 (bits .xor .u32 IntKind.u32.max x) y) (bits .and .u32 (bits .xor .u32 IntKind.u32.max (bits .xor .u32 x y)) ((x - y - c) % 4294967296)) / 2147483648 = bor x y c := by
 obtain ⟨X, rfl⟩ := Int.eq_ofNat_of_zero_le hx
 obtain ⟨Y, rfl⟩ := Int.eq_ofNat_of_zero_le hy
 obtain ⟨D, hD⟩ := Int.eq_ofNat_of_zero_le (show 0 ≤ ((X : Int) - Y - c) % 4294967296 by omega)
 have hb := borrow_bits X Y D c (by omega) (by omega) hc hc' hD.symm
 have e1 : bits .xor .u32 IntKind.u32.max (X : Int) = ((4294967295 ^^^ X : Nat) : Int) := u32_xor_nat 4294967295 X (by decide) (by omega)
 have l1 : (4294967295 ^^^ X : Nat) < 2 ^ 32 := Nat.xor_lt_two_pow (by decide) (by omega)
 have e2 : bits .and .u32 ((4294967295 ^^^ X : Nat) : Int) (Y : Int) = (((4294967295 ^^^ X) &&& Y : Nat) : Int) := u32_and_nat _ Y l1 (by omega)
 have e3 : bits .xor .u32 (X : Int) (Y : Int) = ((X ^^^ Y : Nat) : Int) := u32_xor_nat X Y (by omega) (by omega)
 have l3 : (X ^^^ Y : Nat) < 2 ^ 32 := Nat.xor_lt_two_pow (by omega) (by omega)
 have e4 : bits .xor .u32 IntKind.u32.max ((X ^^^ Y : Nat) : Int) = ((4294967295 ^^^ (X ^^^ Y) : Nat) : Int) := u32_xor_nat 4294967295 _ (by decide) l3
 have l4 : (4294967295 ^^^ (X ^^^ Y) : Nat) < 2 ^ 32 := Nat.xor_lt_two_pow (by decide) l3
 have e5 : bits .and .u32 ((4294967295 ^^^ (X ^^^ Y) : Nat) : Int) (D : Int) = (((4294967295 ^^^ (X ^^^ Y)) &&& D : Nat) : Int) := u32_and_nat _ D l4 (by omega)
 have e6 : bits .or .u32 (((4294967295 ^^^ X) &&& Y : Nat) : Int) (((4294967295 ^^^ (X ^^^ Y)) &&& D : Nat) : Int) = (((4294967295 ^^^ X) &&& Y ||| (4294967295 ^^^ (X ^^^ Y)) &&& D : Nat) : Int) :=
  u32_or_nat _ _ (Nat.lt_of_le_of_lt Nat.and_le_right (by omega)) (Nat.lt_of_le_of_lt Nat.and_le_right (by omega))
 rw [e1, e2, e3, e4, hD, e5, e6, hb]
set_option maxHeartbeats 400000 in
theorem sub32_any (x y c : Int) (w : World) (hx : 0 ≤ x) (hx' : x < 4294967296) (hy : 0 ≤ y) (hy' : y < 4294967296) (hc : 0 ≤ c) (hc' : c ≤ 1) :
  Calls Tryd.prog 83 #[.int .u32 x, .int .u32 y, .int .u32 c] w fun e w' => e = .returned (.tuple #[.int .u32 ((x - y - c) % 4294967296), .int .u32 (bor x y c)]) ∧ w = w' := by
 have H := Lib.hid (sub_bits x y c hx hx' hy hy' hc hc')
 go_enter Tryd.func83, Tryd.ntmps83
 go_wp2
 go_ret2
 exact ⟨ret_pair rfl H.out, rfl⟩
theorem sign_any (x : Int) (w : World) (hx : -9223372036854775808 ≤ x) (hx' : x < 9223372036854775808) :
  Calls Tryd.prog 84 #[.int .i64 x] w fun e w' => e = .returned (.int .i64 x.sign) ∧ w = w' := by
 rcases Int.lt_trichotomy x 0 with h | h | h
 ·go_enter Tryd.func84, Tryd.ntmps84
  go_wp2
  go_ret
  exact ⟨ret_int (Int.sign_eq_neg_one_of_neg h).symm, rfl⟩
 ·subst h
  go_enter Tryd.func84, Tryd.ntmps84
  go_wp2
  go_ret
  exact ⟨rfl, rfl⟩
 ·go_enter Tryd.func84, Tryd.ntmps84
  go_wp2
  go_ret
  exact ⟨ret_int (Int.sign_eq_one_of_pos h).symm, rfl⟩
theorem info_u32 : (Tryd.prog.info? 57).map (fun i => (i.zero, i.size, i.bytes)) = some (some (.int .u32 0), 1, 4) := by kernel_rfl
theorem make_u32 (n : Nat) (x : Int) (hx : x = n) (hn : n ≤ 70368744177664) (w : World) :
  (Instr.makeSlice 26 (.int .i64 x) (.int .i64 x)).run Tryd.prog w = .ok (.slice (some ⟨w.heap.size, 0, none⟩) n n) (w.alloc (.cells (zcells n) 57)) := by
 subst hx
 obtain ⟨i0, hi, hz0, hz1, hz2⟩ := info_parts info_u32
 have h := run_make (P := Tryd.prog) w 26 57 i0 (.int .u32 0) Tryd.underlying26 hi hz0 .i64 .i64 (n : Int) (n : Int) (by omega) (by omega) (by rw [hz2]; omega) (by omega)
 rw [h, hz1, Nat.mul_one, Int.toNat_natCast]
 rw [show Value.cells (.int .u32 0) = #[Value.int .u32 0] from rfl, madeCells_zero]
set_option maxHeartbeats 400000 in
theorem clone_any (v : Value) (ds : List Nat) (w : World) (h : DigV w v ds) (hn : ds.length ≤ 8796093022208) : Calls Tryd.prog 52 #[v] w (Gives w fun r w' => DigV w' r ds) := by
 obtain ⟨A, c, rfl, hl, hc, hd, hA⟩ := h
 cases A with
 | none =>
  have h0 : ds = [] := by
   rcases Nat.eq_zero_or_pos ds.length with h | h
   ·exact List.eq_nil_of_length_eq_zero h
   ·obtain ⟨a, ha, _⟩ := hA h; cases ha
  subst h0
  have hq := fun w n c => Lib.run_eql_slice_nil (P := Tryd.prog) w 26 57 none n c 0 0 Tryd.underlying26
  go_enter Tryd.func52, Tryd.ntmps52
  go_wp2
  go_ret
  exact Gives.mk ⟨none, 0, rfl, by simp, by omega, hd, fun h => by simp at h⟩ (Ext.refl _)
 | some a =>
  have hcell : ∀ (j : Nat) (u : Value), (ds.map fun d => Value.int .u32 (d : Nat))[j]? = some u → w.cell? (a.add j) = some u := by
   intro j u hu
   rw [List.getElem?_map] at hu
   rcases Nat.lt_or_ge j ds.length with h | h
   ·rw [List.getElem?_eq_getElem h] at hu
    obtain ⟨a', ha, hc⟩ := hA (by omega)
    cases ha
    rw [hc j h]; simpa using hu
   ·rw [List.getElem?_eq_none h] at hu; cases hu
  obtain ⟨i0, hi, hz0, hz1, hz2⟩ := info_parts info_u32
  have hq := fun w n c => Lib.run_eql_slice_nil (P := Tryd.prog) w 26 57 (some a) n c 0 0 Tryd.underlying26
  clear hA
  have hcell' := Lib.hid hcell
  clear hcell
  go_enter Tryd.func52, Tryd.ntmps52
  go_wp2_with (at_builtin; refine wpList_append_own _ rfl _ _ 26 rfl w.heap.size 57 i0 (.int .u32 0) 1 4 Tryd.underlying26 hi hz0 hz1 hz2 rfl (by decide) _ _ _ rfl (World.ownsRow_made w #[] 0 (Nat.le_refl _) (by simp [maxLen]) rfl) a ds.length c (ds.map fun d => Value.int .u32 (d : Nat)) rfl (by simp) ?c1 ?c2 ?c3 ?c4 ?c5 ?_)
  case c1 => intro j u hu; exact ((Ext.refl w).alloc _).cell (hcell'.out j u hu)
  case c2 => intro u hu; simp at hu; obtain ⟨d, _, rfl⟩ := hu; rfl
  case c3 => simp only [maxLen]; omega
  case c4 => omega
  case c5 => simp
  intro v' w1 hown hg _
  go_wp2
  go_ret
  refine Gives.mk (DigV.of_own (by simpa using hown) hd) (((Ext.refl w).alloc _).grown hg ?_)
  intro k hk
  simp [Value.ownBlock] at hk
  omega
theorem or_shift (h l : Int) (hh : 0 ≤ h) (hh' : h < 4294967296) (hl : 0 ≤ l) (hl' : l < 4294967296) : bits .or .u64 (h * 4294967296) l = h * 4294967296 + l := by
 obtain ⟨H, rfl⟩ := Int.eq_ofNat_of_zero_le hh
 obtain ⟨L, rfl⟩ := Int.eq_ofNat_of_zero_le hl
 have e := u64_or_nat (H * 4294967296) L (by omega) (by omega)
 have e2 : H * 4294967296 ||| L = H * 4294967296 + L := by
  rw [show H * 4294967296 = 2 ^ 32 * H from by omega]
  exact (Nat.two_pow_add_eq_or_of_lt (by omega) H).symm
 rw [e2] at e
 simpa using e
set_option maxHeartbeats 400000 in
theorem div32_any (h l d : Int) (w : World) (hh : 0 ≤ h) (hl : 0 ≤ l) (hl' : l < 4294967296) (hd : h < d) (hd' : d < 4294967296) :
  Calls Tryd.prog 85 #[.int .u32 h, .int .u32 l, .int .u32 d] w (Gives w fun r _ => r = .tuple #[.int .u32 ((h * 4294967296 + l) / d), .int .u32 ((h * 4294967296 + l) % d)]) := by
 have b1 : (d != 0) = true := by simp; omega
 have b2 : decide (d ≤ h) = false := by simp; omega
 have q0 : 0 ≤ (h * 4294967296 + l) / d := Int.ediv_nonneg (by omega) (by omega)
 have q1 : (h * 4294967296 + l) / d < 4294967296 := Int.ediv_lt_of_lt_mul (by omega) (by
  have : (h + 1) * 4294967296 ≤ d * 4294967296 := by omega
  omega)
 have r0 : 0 ≤ (h * 4294967296 + l) % d := Int.emod_nonneg _ (by omega)
 have r1 : (h * 4294967296 + l) % d < d := Int.emod_lt_of_pos _ (by omega)
 have d1 : 1 ≤ d := by omega
 have ho := or_shift h l hh (by omega) hl hl'
 go_enter Tryd.func85, Tryd.ntmps85
 go_wp2
 refine wp_region_par (k := 11) (D := [23, 24, 25, 26, 27, 28, 29, 30, 31, 32, 6]) (T := [[], [], [1], [0, 1, 2], [0, 1, 2, 3], [], [], [6], [5, 6, 7], [5, 6, 7, 8], [0, 1, 2, 3, 4], [0, 1, 2, 3, 4, 5, 6, 7, 8, 9, 10]]) (EK := [8, 2]) (EV := [?e1x0, ?e1x1]) (VL := [(kv ?v1x0), (kv ?v1x1), (kv ?v1x2), (kv ?v1x3), (kv ?v1x4), (kv ?v1x5), (kv ?v1x6), (kv ?v1x7), (kv ?v1x8), (kv ?v1x9), (kv ?v1x10)]) (FL := fun γ w' => [True, True, True, True, True, True, True, True, True, True, True]) ?hE1 (by kernel_rfl) (by kernel_rfl) (by rfl) (by kernel_rfl) ?hloc1 ?hmono1 ?hstep1 ?htail1
 case hE1 => refine ⟨?_, ?_, trivial⟩ <;> (simp only [List.getElem?_toArray, List.getElem?_cons_succ, List.getElem?_cons_zero]; rfl)
 case hstep1 =>
  refine ⟨⟨⟨⟨⟨⟨⟨⟨⟨⟨⟨trivial, ?_⟩, ?_⟩, ?_⟩, ?_⟩, ?_⟩, ?_⟩, ?_⟩, ?_⟩, ?_⟩, ?_⟩, ?_⟩
  iterate 11 focus
   intro γ w' he hf; clear hf; refine ⟨by trivial, ?_⟩; intro R hR; have hc := he.cells
   go_simp; (try go_ints); (try (rw [if_neg (by omega)])); (try (rw [if_pos (by omega)])); (try go_simp); (try go_ints)
   refine hR _ _ (Ext.refl _) ?_ trivial; rfl
 case hloc1 =>
  exact ⟨⟨⟨⟨⟨⟨⟨⟨⟨⟨⟨trivial, (fun γ γ' h => ⟨rfl, fun _ => rfl⟩)⟩, (fun γ γ' h => ⟨rfl, fun _ => rfl⟩)⟩, (fun γ γ' h => ⟨rfl, fun _ => rfl⟩)⟩, (fun γ γ' h => ⟨rfl, fun _ => rfl⟩)⟩, (fun γ γ' h => ⟨rfl, fun _ => rfl⟩)⟩, (fun γ γ' h => ⟨rfl, fun _ => rfl⟩)⟩, (fun γ γ' h => ⟨rfl, fun _ => rfl⟩)⟩, (fun γ γ' h => ⟨rfl, fun _ => rfl⟩)⟩, (fun γ γ' h => ⟨rfl, fun _ => rfl⟩)⟩, (fun γ γ' h => ⟨rfl, fun _ => rfl⟩)⟩, (fun γ γ' h => ⟨rfl, fun _ => rfl⟩)⟩
 case hmono1 =>
  exact ⟨⟨⟨⟨⟨⟨⟨⟨⟨⟨⟨trivial, (fun γ wA w' e h => h)⟩, (fun γ wA w' e h => h)⟩, (fun γ wA w' e h => h)⟩, (fun γ wA w' e h => h)⟩, (fun γ wA w' e h => h)⟩, (fun γ wA w' e h => h)⟩, (fun γ wA w' e h => h)⟩, (fun γ wA w' e h => h)⟩, (fun γ wA w' e h => h)⟩, (fun γ wA w' e h => h)⟩, (fun γ wA w' e h => h)⟩
 intro γ w1 hx1 hF
 clear hF
 simp only [fillAll, gV, kv, List.getD_cons_zero, List.getD_cons_succ, Act.put, List.setIfInBounds_toArray, List.set_cons_zero, List.set_cons_succ, List.toList_toArray, List.drop_succ_cons, List.drop_zero, List.drop_nil, Nat.zero_add, Nat.reduceAdd]
 clear γ
 go_wp2
 go_ret2
 exact Gives.mk rfl hx1
theorem bitLen_bounds (n : Nat) : ∀ x, x ≤ n → x < 2 ^ 64 → x < 2 ^ Lib.bitLen x ∧ (x ≠ 0 → 2 ^ Lib.bitLen x ≤ 2 * x) := by
  induction n with
  | zero => intro x hx _; obtain rfl : x = 0 := by omega
            exact ⟨by decide, fun h => absurd rfl h⟩
  | succ n ih =>
    intro x hx h64
    by_cases h0 : x = 0
    · subst h0; exact ⟨by decide, fun h => absurd rfl h⟩
    · obtain ⟨i1, i2⟩ := ih (x / 2) (by omega) (by omega)
      rw [Lib.bitLen_half x h0 h64, Nat.add_comm, Nat.pow_succ]
      refine ⟨by omega, fun _ => ?_⟩
      by_cases h1 : x / 2 = 0
      · rw [h1]
        have : 2 ^ Lib.bitLen 0 = 1 := by decide
        omega
      · have := i2 h1
        omega
theorem wrap64_len8 (b : Int) (h0 : 0 ≤ b) (h1 : b ≤ 255) : wrap64 (Lib.len8 b) = (Lib.bitLen b.toNat : Int) := by
 rw [Lib.len8_of b h0 h1]
 have := Lib.bitLen_le8' b h0 h1
 exact IntWalk.wrap64_in _ ⟨by omega, by omega⟩
set_option maxRecDepth 100000 in
theorem len32_any (x : Int) (w : World) (h0 : 0 ≤ x) (h1 : x ≤ 4294967295) :
  Calls Tryd.prog 87 #[.int .u32 x] w fun e w' => e = .returned (.int .i64 (Lib.bitLen x.toNat)) ∧ w' = w := by
 have ts := Tryd.underlying9
 by_cases c1 : x < 65536
 ·by_cases c2 : x < 256
  ·have c3 : x ≤ 255 := by omega
   go_enter Tryd.func87, Tryd.ntmps87
   go_wp2
   go_ret
   refine ⟨ret_int ?_, rfl⟩
   have e := wrap64_len8 x h0 c3
   show wrap64 (wrap64 (Lib.len8 x)) = _
   rw [e]
   have := Lib.bitLen_le8' x h0 c3
   exact IntWalk.wrap64_in _ ⟨by omega, by omega⟩
  ·have c3 : x / 256 ≤ 255 := by omega
   have c4 : 0 ≤ x / 256 := by omega
   go_enter Tryd.func87, Tryd.ntmps87
   go_wp2
   go_ret
   refine ⟨ret_int ?_, rfl⟩
   show wrap64 (8 + wrap64 (Lib.len8 (x / 256))) = _
   have l := Lib.bitLen_le8' (x / 256) c4 c3
   have s := Lib.bitLen_shift8 x.toNat (by omega) (by omega)
   rw [wrap64_len8 _ c4 c3, IntWalk.wrap64_in _ ⟨by omega, by omega⟩, s, show (x / 256).toNat = x.toNat / 256 from by omega]
   omega
 ·by_cases c2 : x / 65536 < 256
  ·have c3 : x / 65536 ≤ 255 := by omega
   have c4 : 0 ≤ x / 65536 := by omega
   go_enter Tryd.func87, Tryd.ntmps87
   go_wp2
   go_ret
   refine ⟨ret_int ?_, rfl⟩
   show wrap64 (16 + wrap64 (Lib.len8 (x / 65536))) = _
   have l := Lib.bitLen_le8' (x / 65536) c4 c3
   have s := Lib.bitLen_shift16 x.toNat (by omega) (by omega)
   rw [wrap64_len8 _ c4 c3, IntWalk.wrap64_in _ ⟨by omega, by omega⟩, s, show (x / 65536).toNat = x.toNat / 65536 from by omega]
   omega
  ·have c3 : x / 65536 / 256 ≤ 255 := by omega
   have c4 : 0 ≤ x / 65536 / 256 := by omega
   go_enter Tryd.func87, Tryd.ntmps87
   go_wp2
   go_ret
   refine ⟨ret_int ?_, rfl⟩
   show wrap64 (24 + wrap64 (Lib.len8 (x / 65536 / 256))) = _
   have l := Lib.bitLen_le8' (x / 65536 / 256) c4 c3
   have s := Lib.bitLen_shift24 x.toNat (by omega) (by omega)
   rw [wrap64_len8 _ c4 c3, IntWalk.wrap64_in _ ⟨by omega, by omega⟩, s, show (x / 65536 / 256).toNat = x.toNat / 16777216 from by omega]
   rw [show (x / 65536 / 256).toNat = x.toNat / 16777216 from by omega] at l
   omega
theorem lz32_any (x : Int) (w : World) (h0 : 0 ≤ x) (h1 : x ≤ 4294967295) :
  Calls Tryd.prog 78 #[.int .u32 x] w fun e w' => e = .returned (.int .i64 (32 - (Lib.bitLen x.toNat : Int))) ∧ w = w' := by
 have hb : (Lib.bitLen x.toNat : Int) ≤ 32 := by
  have := Lib.bitLen_le x.toNat 32 (by decide) (by omega)
  omega
 go_enter Tryd.func78, Tryd.ntmps78
 go_wp2_with (go_at_call 87; refine (len32_any _ _ (by omega) (by omega)).mono ?_; rintro e w' ⟨rfl, rfl⟩)
 go_ret
 exact ⟨rfl, rfl⟩
def lz (x : Nat) : Nat := 32 - Lib.bitLen x
theorem lz_spec {x : Nat} (h0 : 0 < x) (h1 : x < 4294967296) : lz x < 32 ∧ (x + 1) * 2 ^ lz x ≤ 4294967296 ∧ 2147483648 ≤ x * 2 ^ lz x := by
 have hl := Lib.bitLen_le x 32 (by decide) (by omega)
 obtain ⟨b1, b2⟩ := bitLen_bounds x x (Nat.le_refl _) (by omega)
 have b2 := b2 (by omega)
 have hp : 0 < Lib.bitLen x := by
  rcases Nat.eq_zero_or_pos (Lib.bitLen x) with h | h
  ·rw [h] at b1; omega
  ·exact h
 unfold lz
 generalize Lib.bitLen x = b at *
 have e : 2 ^ b * 2 ^ (32 - b) = 4294967296 := by rw [← Nat.pow_add, show b + (32 - b) = 32 from by omega]
 refine ⟨by omega, ?_, ?_⟩
 ·rw [← e]; exact Nat.mul_le_mul_right _ b1
 ·have := Nat.mul_le_mul_right (2 ^ (32 - b)) b2
  rw [e, Nat.mul_assoc] at this
  omega
theorem lz_any (x : Nat) (w : World) (h1 : x < 4294967296) :
  Calls Tryd.prog 78 #[.int .u32 (x : Nat)] w fun e w' => e = .returned (.int .i64 (lz x : Nat)) ∧ w = w' := by
 refine (lz32_any (x : Nat) w (by omega) (by omega)).mono ?_
 rintro e w' ⟨rfl, rfl⟩
 have hl := Lib.bitLen_le x 32 (by decide) (by omega)
 refine ⟨ret_int ?_, rfl⟩
 unfold lz
 rw [Int.toNat_natCast]
 omega
end Go.Proofs.YtfacbpnegkjcgaaDoor
