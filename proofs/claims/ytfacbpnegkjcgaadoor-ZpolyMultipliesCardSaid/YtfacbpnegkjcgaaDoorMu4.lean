/- The statement ZpolyMultiplies holds: for every three polynomials over the integers the law returns true, and the arguments read afterwards as before. Package-level tables as the program's text lays them (the card ties them); no other condition. -/
import Derived.Test.YtfacbpnegkjcgaaDoorMu1
import Derived.Test.YtfacbpnegkjcgaaDoorMu2
import Derived.Test.YtfacbpnegkjcgaaDoorMu3
import Derived.Deep.RegionWith
import Derived.ProofKit
import Derived.ChangeSlices
import Derived.Deep.Slices
import Derived.Test.YtfacbpnegkjcgaaDoorRows
import Derived.Test.YtfacbpnegkjcgaaDoorCards
import Derived.Test.YtfacbpnegkjcgaaDoorTie
import Derived.WalkKit
import Derived.LaidMore
import Derived.OpenShut
import Derived.ShutString
import Derived.ChangeOld
import Derived.Below
import Derived.SevenTiedAt
import Derived.Stop.Joined
set_option linter.unusedVariables false
set_option linter.unusedSimpArgs false
namespace Go.Hp
open Go.RowKit
theorem topR_of {l : List Rat} (h : co l (l.length - 1) ≠ 0) : TopR l := fun h0 => by rw [← co_lt]; exact h
/-- A term is written behind what there is. -/
def stp (s : List UInt8) (x : Int) (t : List UInt8) : List UInt8 := s ++ (if s = [] then (if x < 0 then [45] else []) else if x < 0 then [32, 45, 32] else [32, 43, 32]) ++ t
def cf3 (j : Fin 3) : Int := if j.1 = 0 then 5 else if j.1 = 1 then -1 else 3
def tf3 (j : Fin 3) : List UInt8 := if j.1 = 0 then [53] else if j.1 = 1 then [120] else [51, 42, 120, 94, 50]
def acc3 (pre : List (Fin 3)) : List UInt8 := pre.foldl (fun s j => stp s (cf3 j) (tf3 j)) []
theorem acc3_snoc (pre : List (Fin 3)) (j : Fin 3) : acc3 (pre ++ [j]) = stp (acc3 pre) (cf3 j) (tf3 j) := by simp [acc3]
theorem stp_len (s : List UInt8) (x : Int) (t : List UInt8) : (stp s x t).length ≤ s.length + 3 + t.length := by
  unfold stp
  rw [List.length_append, List.length_append]
  split <;> split <;> simp <;> omega
theorem tf3_len (j : Fin 3) : (tf3 j).length ≤ 5 := by unfold tf3; split <;> (try split) <;> simp
theorem acc3_len (pre : List (Fin 3)) : (acc3 pre).length ≤ 8 * pre.length := by
  have key : ∀ (pre : List (Fin 3)) (s : List UInt8), (pre.foldl (fun s j => stp s (cf3 j) (tf3 j)) s).length ≤ s.length + 8 * pre.length := by
    intro pre
    induction pre with
    | nil => intro s; simp
    | cons p pre ih =>
      intro s
      have h1 := ih (stp s (cf3 p) (tf3 p))
      have h2 := stp_len s (cf3 p) (tf3 p)
      have h3 := tf3_len p
      rw [List.foldl_cons, List.length_cons]
      omega
  have := key pre []
  simpa [acc3] using this
theorem acc3_all : acc3 (dz 3 3 (Nat.le_refl _)) = [51, 42, 120, 94, 50, 32, 45, 32, 120, 32, 43, 32, 53] := by decide
end Go.Hp
namespace Go.Proofs.YtfacbpnegkjcgaaDoor
open Go.RowKit Go.Hp
theorem term_c (v : Value) (w : World) (hv : HasZ w v (5)) : Calls Tryd.prog 47 #[v, .int .i64 0] w (Gives w fun r _ => r = .string ⟨#[53]⟩) := by
  have HV := Lib.hid hv
  obtain ⟨b0, A0, n0, c0, rfl⟩ := hv.cells
  clear hv
  go_enter Tryd.func47, Tryd.ntmps47
  go_wp2_with fail
  refine Calls.mono (abs_z _ (5) _ (HV.out.ext ((Ext.refl w).alloc _))) ?_
  rintro e w1 ⟨r1, rfl, hr, hx1⟩
  obtain ⟨b5, A5, n5, c5, rfl⟩ := hr.cells
  go_wp2_with fail
  refine Calls.mono (format_one _ 5 _ hr (by omega) (by omega)) ?_
  rintro e w2 ⟨r2, rfl, rfl, hx2⟩
  rw [show UInt8.ofNat (48 + 5) = 53 from rfl]
  have hx := hx1.a1.trans hx2
  go_wp2
  go_ret
  exact Gives.mk rfl hx
theorem term_b (v : Value) (w : World) (hv : HasZ w v (-1)) : Calls Tryd.prog 47 #[v, .int .i64 1] w (Gives w fun r _ => r = .string ⟨#[120]⟩) := by
  have HV := Lib.hid hv
  obtain ⟨b0, A0, n0, c0, rfl⟩ := hv.cells
  clear hv
  go_enter Tryd.func47, Tryd.ntmps47
  go_wp2_with fail
  refine Calls.mono (abs_z _ (-1) _ (HV.out.ext ((Ext.refl w).alloc _))) ?_
  rintro e w1 ⟨r1, rfl, hr, hx1⟩
  obtain ⟨b5, A5, n5, c5, rfl⟩ := hr.cells
  go_wp2_with fail
  refine Calls.mono (format_one _ 1 _ hr (by omega) (by omega)) ?_
  rintro e w2 ⟨r2, rfl, rfl, hx2⟩
  rw [show UInt8.ofNat (48 + 1) = 49 from rfl]
  have hx := hx1.a1.trans hx2
  go_wp2
  go_ret
  exact Gives.mk rfl hx
theorem term_a (v : Value) (w : World) (hv : HasZ w v (3)) : Calls Tryd.prog 47 #[v, .int .i64 2] w (Gives w fun r _ => r = .string ⟨#[51, 42, 120, 94, 50]⟩) := by
  have HV := Lib.hid hv
  obtain ⟨b0, A0, n0, c0, rfl⟩ := hv.cells
  clear hv
  go_enter Tryd.func47, Tryd.ntmps47
  go_wp2_with fail
  refine Calls.mono (abs_z _ (3) _ (HV.out.ext ((Ext.refl w).alloc _))) ?_
  rintro e w1 ⟨r1, rfl, hr, hx1⟩
  obtain ⟨b5, A5, n5, c5, rfl⟩ := hr.cells
  go_wp2_with fail
  refine Calls.mono (format_one _ 3 _ hr (by omega) (by omega)) ?_
  rintro e w2 ⟨r2, rfl, rfl, hx2⟩
  rw [show UInt8.ofNat (48 + 3) = 51 from rfl]
  have hx := hx1.a1.trans hx2
  go_wp2_with fail
  refine Calls.mono (itoa_s 2 (by omega) _) ?_
  rintro e w3 ⟨rfl, rfl⟩
  rw [show Lib.decDigits 2 = [50] from by unfold Lib.decDigits; rfl]
  go_wp2
  go_ret
  exact Gives.mk rfl hx
theorem IsBd.own {B b : Nat} {l : List UInt8} {A W : World} {row : Option Nat} (h : IsBd B b l A) (hg : A.grownBy W row) (hr : ∀ r, row = some r → ∃ o : Obj, A.heap[r]? = some o ∧ o.isCells = false) : IsBd B b l W := by
  have key : ∀ p, Lib.BuilderAtF 70 5 B b p (Lib.byteCells l) A → Lib.BuilderAtF 70 5 B b p (Lib.byteCells l) W := by
    rintro p ⟨hB, v, hb, hown, hne⟩
    have hlt : b < A.heap.size := by
      rcases Nat.lt_or_ge b A.heap.size with h' | h'
      · exact h'
      · rw [Array.getElem?_eq_none h'] at hb; cases hb
    refine ⟨hB, v, (hg.block b hlt (fun e => ?_)).trans hb, hown.kept hg ?_, hne⟩
    · obtain ⟨o, h1, h2⟩ := hr b e.symm
      rw [hb] at h1; cases h1; cases h2
    · rcases hv : v.ownBlock with _ | g
      · exact .inl rfl
      · refine .inr fun e => ?_
        obtain ⟨c, fz, h3⟩ := Lib.ownsRowF_kind hown g hv
        obtain ⟨o, h1, h2⟩ := hr g e.symm
        rw [h3] at h1; cases h1; cases h2
  rcases h with h | h
  · exact .inl (key _ h)
  · exact .inr (key _ h)
theorem heap_own {A W : World} {row : Option Nat} {k : Nat} {cs : Array Value} {t : TypeId} (h : A.heap[k]? = some (.cells cs t (0, 0))) (hg : A.grownBy W row) (hr : ∀ r, row = some r → ∃ o : Obj, A.heap[r]? = some o ∧ o.isCells = false) : W.heap[k]? = some (.cells cs t (0, 0)) := by
  have hlt : k < A.heap.size := by
    rcases Nat.lt_or_ge k A.heap.size with h' | h'
    · exact h'
    · rw [Array.getElem?_eq_none h'] at h; cases h
  refine (hg.block k hlt (fun e => ?_)).trans h
  obtain ⟨o, h1, h2⟩ := hr k e.symm
  rw [h] at h1; cases h1; cases h2
theorem IsBd.ext {B b : Nat} {l : List UInt8} {A W : World} (h : IsBd B b l A) (e : Ext A W) : IsBd B b l W := by
  have key : ∀ p, Lib.BuilderAtF 70 5 B b p (Lib.byteCells l) A → Lib.BuilderAtF 70 5 B b p (Lib.byteCells l) W := by
    rintro p ⟨hB, v, hb, hown, hne⟩
    refine ⟨hB, v, e.blk hb, ⟨hown.1, ?_⟩, hne⟩
    rcases hown.2 with h1 | ⟨g, cap, cur, fz, hv, h1, h2, h3⟩
    · exact .inl h1
    · exact .inr ⟨g, cap, cur, fz, hv, h1, e.blk h2, h3⟩
  rcases h with h | h
  · exact .inl (key _ h)
  · exact .inr (key _ h)
/-- What a step beside a builder keeps. -/
def Kb (B b : Nat) (A W : World) : Prop := Below B A W ∧ Lib.OthersKept 5 (some b) A W
theorem Kb.trans {B b : Nat} {X Y Z : World} (h : Kb B b X Y) (k : Kb B b Y Z) : Kb B b X Z := ⟨h.1.trans k.1, h.2.trans k.2⟩
theorem Kb.of_ext {B b : Nat} {A W : World} (e : Ext A W) (h : B ≤ A.heap.size) : Kb B b A W := ⟨Below.mono e h, fun _ _ h0 _ _ => e.blk h0⟩
theorem bwrite_l (B b : Nat) (s t : List UInt8) (w : World) (h : IsBd B b s w) (hlen : s.length + t.length ≤ 140737488355328) (hBw : B ≤ w.heap.size) :
    Calls Tryd.prog 46 #[.pointer (some ⟨b, 0, none⟩), .string ⟨t.toArray⟩] w fun e w' => (∃ n, e = .returned (.tuple #[.int .i64 n, .nilIface])) ∧ IsBd B b (s ++ t) w' ∧ Kb B b w w' := by
  refine (bwrite B b _ ⟨t.toArray⟩ w h (by rw [Lib.byteCells_length]; exact hlen) hBw).mono ?_
  rintro e w' ⟨rfl, h1, h2, h3⟩
  refine ⟨⟨_, rfl⟩, ?_, h2, h3⟩
  have e1 : Lib.byteCells s ++ Lib.strCells ⟨t.toArray⟩ = Lib.byteCells (s ++ t) := by simp [Lib.byteCells, Lib.strCells]
  rw [e1] at h1
  exact .inr h1
theorem kept_box {b k : Nat} {t : TypeId} {cs : Array Value} {A W : World} (h : Lib.OthersKept 5 (some b) A W) (hb : A.heap[k]? = some (.cells cs t (0, 0))) (hk : k ≠ b) (ht : t ≠ 5) : W.heap[k]? = some (.cells cs t (0, 0)) :=
  h k _ hb (by simpa using hk) (fun c fz e => ht (by injection e))
theorem IsBd.lt {B b : Nat} {s : List UInt8} {W : World} (h : IsBd B b s W) : ∃ cs, W.heap[b]? = some (.cells cs 70 (0, 0)) := by
  rcases h with ⟨-, v, hb, -⟩ | ⟨-, v, hb, -⟩
  · exact ⟨_, hb⟩
  · exact ⟨_, hb⟩
theorem Kb.fin {B N : Nat} {s : List UInt8} {cs : Array Value} {t : TypeId} {W W' : World} (hK : Kb B B W W') (hi : IsBd B B s W) (hbk : W.heap[B + 1]? = some (.cells cs t (0, 0))) (ht : t ≠ 5) : KeepsFrom N W W' ∧ KpZ B (B + 1) W W' ∧ W'.heap[B + 1]? = some (.cells cs t (0, 0)) := by
  obtain ⟨ds, hb⟩ := hi.lt
  have hbk' := kept_box hK.2 hbk (by omega) ht
  refine ⟨⟨hK.1.size, fun k o _ h0 hc => hK.2 k o h0 (fun e => ?_) (fun c fz e => by subst e; cases hc)⟩, ⟨hK.1, fun v hv => ?_⟩, hbk'⟩
  · injection e with e; subst e
    rw [hb] at h0; cases h0; cases hc
  · exact (World.cell?_of_block (hbk'.trans hbk.symm)).trans hv
theorem cellsB {W : World} {b : Nat} {u v : Value} {t : TypeId} (h : W.heap[b]? = some (.cells #[u, v] t (0, 0))) : W.cell? ⟨b, 0, none⟩ = some u ∧ W.cell? ⟨b, 1, none⟩ = some v := by
  constructor <;> (rw [Lib.cell_of_heap h]; rfl)
attribute [local go_sem] Oper.semAt_some
set_option maxRecDepth 100000 in
set_option maxHeartbeats 4000000 in
theorem format_aw (v : Value) (base : Nat) (w : World) (hv : ZsV base w v [5, -1, 3]) : Calls Tryd.prog 21 #[v] w (Gives w fun r _ => r = .string ⟨#[51, 42, 120, 94, 50, 32, 45, 32, 120, 32, 43, 32, 53]⟩) := by
  have hN : Calls Tryd.prog 22 #[v] w (Gives w fun r w' => ∃ A c, r = .slice A 3 c ∧ ZsAt w.heap.size w' A [5, -1, 3]) := by
    refine Gives.imp (normal_zp v [5, -1, 3] w (hv.has (by decide)) (by decide)) fun r w' h => ?_
    obtain ⟨A, c, l, rfl, k1, k2, hA, k3, k4, k5⟩ := h.form
    have ht : TopR (zq [5, -1, 3]) := topR_of (by decide +kernel)
    have e := zs_uniq k4 ht k5
    subst e
    exact ⟨A, c, by rw [← k3]; rfl, hA⟩
  obtain ⟨A0, c0, rfl, -⟩ := hv
  refine (callsIn_wide (n := 5)).1 ?_
  refine callsIn_of_wp_marks Tryd.func21 rfl trivial ?_ rfl
  simp only [Tryd.ntmps21, List.size_toArray, List.length_cons, List.length_nil, Nat.reduceAdd, Nat.reduceSub, Array.replicate_succ, Array.replicate_zero, List.push_toArray, List.append_toArray, List.nil_append, List.cons_append]
  gi_wp2_with (refine ⟨trivial, ?_⟩; gi_at_call 22; refine (callsIn_wide.2 hN).mono ?_; rintro e w1 ⟨r1, rfl, ⟨A, c, rfl, hA⟩, hx1⟩)
  refine ⟨trivial, ?_⟩
  gi_at_call 43
  refine (zback_in _ _ trivial rfl _ _ _ _).mono ?_
  rintro e w2 ⟨rfl, rfl⟩
  gi_wp2
  obtain ⟨W2, hW2⟩ : ∃ W2, (w1.alloc (.cells #[.pointer none, .slice none 0 0] 70)).alloc (.cells #[.slice A 3 c] 23) = W2 := ⟨_, rfl⟩
  have h2sz : W2.heap.size = w1.heap.size + 2 := by rw [← hW2]; simp
  have hbx : W2.heap[w1.heap.size + 1]? = some (.cells #[.slice A 3 c] 23 (0, 0)) := by
    rw [← hW2]; have := World.alloc_heap_new (w1.alloc (.cells #[.pointer none, .slice none 0 0] 70)) (.cells #[.slice A 3 c] 23); rwa [World.size_alloc] at this
  have hb2 : W2.cell? ⟨w1.heap.size + 1, 0, none⟩ = some (.slice A 3 c) := by rw [Lib.cell_of_heap hbx]; rfl
  have hbd : IsBd w1.heap.size w1.heap.size [] W2 := by rw [← hW2]; exact (Lib.IsBuilderF.of (Lib.fresh_isBuilder _ _ w1)).alloc _
  have hx2 : Ext w1 W2 := by rw [← hW2]; exact ((Ext.refl w1).alloc _).alloc _
  rw [hW2]
  clear hW2
  obtain ⟨g, o, b0, B0, n0, d0, rfl, -, q00, q01, h0⟩ := hA.at_ (j := 0) (by decide)
  obtain ⟨g1, o1, b1, B1, n1, d1, e1, -, q10, q11, h1⟩ := hA.at_ (j := 1) (by decide)
  cases e1
  obtain ⟨g2, o2, b2, B2, n2, d2, e2, -, q20, q21, h2⟩ := hA.at_ (j := 2) (by decide)
  cases e2
  obtain ⟨enc, hE, hI⟩ : ∃ enc : Fin 3 → Value, (∀ j, IsZ w1 (enc j) (cf3 j)) ∧ (∀ j (hj : j < 3), IntCells W2 g (o + j * 2) (enc ⟨j, hj⟩)) := by
    refine ⟨fun j => if j.1 = 0 then .agg #[.bool b0, .slice B0 n0 d0] else if j.1 = 1 then .agg #[.bool b1, .slice B1 n1 d1] else .agg #[.bool b2, .slice B2 n2 d2], fun j => ?_, fun j hj => ?_⟩
    · obtain ⟨j, hj⟩ := j
      rcases (show j = 0 ∨ j = 1 ∨ j = 2 by omega) with rfl | rfl | rfl
      · exact h0
      · exact h1
      · exact h2
    · rcases (show j = 0 ∨ j = 1 ∨ j = 2 by omega) with rfl | rfl | rfl
      · exact ⟨_, _, _, _, rfl, hx2.cell q00, hx2.cell q01⟩
      · exact ⟨_, _, _, _, rfl, hx2.cell q10, hx2.cell q11⟩
      · exact ⟨_, _, _, _, rfl, hx2.cell q20, hx2.cell q21⟩
  have hglt := World.block_lt_of_cell? w1 _ q00
  have HE := Lib.hid hE
  clear h0 h1 h2 q00 q01 q10 q11 q20 q21 hE hA hN
  refine wpIn_rangeFunc_ownH rfl (by omega) (gf := 64) (lb := #[.pointer (some ⟨w1.heap.size + 1, 0, none⟩)]) rfl trivial (enters_of Tryd.func64 (by kernel_rfl) rfl)
    (zback_stops _ _ trivial rfl (by omega) (w1.heap.size + 1) w1.heap.size 3 c (some ⟨g, o, none⟩) enc (by omega) W2 (by omega) hx2.size hb2 (fun _ => ⟨g, o, rfl, hglt, hI⟩)) KpZ.trans (kpZ_b hx2.size) (Below.refl _ _) (fun _ => rfl)
    (fun pre W => IsBd w1.heap.size w1.heap.size (acc3 pre) W ∧ Below w1.heap.size w1 W ∧ W.heap[w1.heap.size + 1]? = some (.cells #[.slice (some ⟨g, o, none⟩) 3 c] 23 (0, 0)))
    (fun _ _ _ => False)
    (fun pre X Y row hs hg hr => ⟨hs.1.own hg (fun r e => (hr r e).2), ownFrom_below (β := Unit) (Nat.le_refl _) hx2.size () X Y row hs.2.1 hg hr, heap_own hs.2.2 hg (fun r e => (hr r e).2)⟩)
    (fun _ _ _ _ _ hs _ _ => hs)
    ⟨hbd, hx2, hbx⟩
    (fun x a' W => ∃ Bx b A2 n2 c2, enc x = .agg #[.bool b, .slice A2 n2 c2] ∧ W.heap[Bx]? = some (.cells #[.bool b, .slice A2 n2 c2] 28 (0, 0)) ∧ w1.heap.size + 1 < Bx ∧ a' = { tmps := #[.slice (some ⟨g, o, none⟩) 3 c, undef, .string ⟨#[]⟩, .pointer (some ⟨w1.heap.size, 0, none⟩), .int .i64 (x.1 : Nat), .pointer (some ⟨Bx, 0, none⟩), undef, .slice A0 3 c0, .slice (some ⟨g, o, none⟩) 3 c, .slice (some ⟨g, o, none⟩) 3 c, .int .i64 3, .bool false, .slice (some ⟨g, o, none⟩) 3 c, .func (.func 64) #[] #[.pointer (some ⟨w1.heap.size + 1, 0, none⟩)], .int .i64 (x.1 : Nat), .agg #[.bool b, .slice A2 n2 c2], undef, undef, undef, undef, undef, undef, undef, undef, undef, undef, undef, undef, undef, undef, undef, undef, undef, undef, undef, undef, undef, undef, undef, undef, undef, undef, undef, undef, undef], defers := [] })
    (fun x a' _ X Y row hs hg hr => by obtain ⟨Bx, b, A2, n2, c2, k2, k3, k4, k5⟩ := hs; exact ⟨Bx, b, A2, n2, c2, k2, heap_own k3 hg (fun r e => (hr r e).2), k4, k5⟩)
    ?assign ?body ?done ?stop
  case assign =>
    rintro lp pre x W K ⟨hi, hB, hbk⟩ hK
    obtain ⟨b, A2, n2, c2, hpv⟩ := (HE.out x).cells
    have HK := Lib.hid hK; clear hK
    have HI := Lib.hid (And.intro hi (And.intro hB hbk)); clear hi hbk
    gi_wp2
    obtain ⟨W9, eW9, e9, x9⟩ := Box.made W 28 #[.bool b, .slice A2 n2 c2] (by simp [isDig])
    rw [← eW9]
    have hW := HI.out.2.1.size
    have hltb : w1.heap.size + 1 < W.heap.size := by
      rcases Nat.lt_or_ge (w1.heap.size + 1) W.heap.size with h' | h'
      · exact h'
      · have := HI.out.2.2; rw [Array.getElem?_eq_none h'] at this; cases this
    refine HK.out _ _ ⟨x9.size, fun k o _ h0 _ => x9.blk h0⟩ ⟨x9.mono hB.size, fun v h => x9.cell h⟩ ⟨HI.out.1.ext x9, hB.trans (x9.mono hB.size), x9.blk HI.out.2.2⟩ ⟨W.heap.size, b, A2, n2, c2, hpv, e9.1, hltb, rfl⟩
  case body =>
    rintro lp pre x a' W hl0 ⟨r, hr⟩ ⟨hi, hB0, hbk⟩ ⟨Bx, b, A2, n2, c2, k2, k3, k4, rfl⟩ hlt
    have hB : Ext w1 W := hB0
    have hq0 : HasZ w1 (.agg #[.bool b, .slice A2 n2 c2]) (cf3 x) := k2 ▸ (HE.out x).has (by unfold cf3; split <;> (try split) <;> decide)
    obtain ⟨j, hj⟩ := x
    rcases (show j = 0 ∨ j = 1 ∨ j = 2 by omega) with rfl | rfl | rfl
    · have HQ := Lib.hid (show HasZ w1 (.agg #[.bool b, .slice A2 n2 c2]) (5) from hq0); clear hq0
      obtain ⟨l, hl⟩ : ∃ l, l = acc3 pre := ⟨_, rfl⟩
      rw [← hl] at hi
      have hbd := hi
      have hK : Kb w1.heap.size w1.heap.size W W := ⟨Below.refl _ _, Lib.OthersKept.refl _ _ _⟩
      have hl3 : l.length ≤ 8 * 3 := by rw [hl]; have := acc3_len pre; omega
      have HL := Lib.hid hl; clear hl
      obtain ⟨q0, q1⟩ := cellsB k3
      gi_wp2
      refine ⟨trivial, ?_⟩
      gi_at_call 44
      refine (CallsIn.inRound lp (callsIn_wide.2 (sign_z _ (5) _ (HQ.out.ext hB)))).mono ?_
      rintro e w5 ⟨r5, rfl, rfl, hx5⟩
      replace hK := hK.trans (Kb.of_ext hx5 (by have := hB.size; omega))
      replace hbd := hbd.ext hx5
      clear q0 q1 hx5
      obtain ⟨q0, q1⟩ := cellsB (kept_box hK.2 k3 (by omega) (by decide))
      gi_wp2
      by_cases hnil : l = []
      · subst hnil
        refine ⟨trivial, ?_⟩
        gi_at_call 45
        refine (CallsIn.inRound lp (callsIn_wide.2 (blen _ _ _ _ hbd))).mono ?_
        rintro e w6 ⟨rfl, hw6⟩
        rw [hw6, Lib.byteCells_length]
        clear hw6 w6
        gi_wp2
        refine ⟨trivial, ?_⟩
        gi_at_call 45
        refine (CallsIn.inRound lp (callsIn_wide.2 (blen _ _ _ _ hbd))).mono ?_
        rintro e w6 ⟨rfl, hw6⟩
        rw [hw6, Lib.byteCells_length]
        clear hw6 w6
        gi_wp2
        refine ⟨trivial, ?_⟩
        gi_at_call 45
        refine (CallsIn.inRound lp (callsIn_wide.2 (blen _ _ _ _ hbd))).mono ?_
        rintro e w6 ⟨rfl, hw6⟩
        rw [hw6, Lib.byteCells_length]
        clear hw6 w6
        gi_wp2
        have HQ2 := Lib.hid (HQ.out.ext (show Ext w1 _ from Below.trans hB0 hK.1))
        refine ⟨trivial, ?_⟩
        gi_at_call 47
        refine (CallsIn.inRound lp (callsIn_wide.2 (term_c _ _ HQ2.out))).mono ?_
        rintro e w8 ⟨r8, rfl, rfl, hx8⟩
        replace hK := hK.trans (Kb.of_ext hx8 (by have := hK.1.size; have := hB.size; omega))
        replace hbd := hbd.ext hx8
        clear hx8 HQ2
        gi_wp2
        refine ⟨trivial, ?_⟩
        gi_at_call 46
        refine (CallsIn.inRound lp (callsIn_wide.2 (bwrite_l _ _ _ [53] _ hbd (by simp <;> omega) (by have := hK.1.size; have := hB.size; omega)))).mono ?_
        rintro e w7 ⟨⟨n, rfl⟩, hbd7, k7⟩
        replace hK := hK.trans k7
        replace hbd := hbd7
        clear hbd7 k7 q0 q1
        obtain ⟨q0, q1⟩ := cellsB (kept_box hK.2 k3 (by omega) (by decide))
        gi_wp2
        obtain ⟨f1, f2, f3⟩ := hK.fin (N := W2.heap.size) hi hbk (by decide)
        exact ⟨f1, f2, by rw [acc3_snoc, ← HL.out]; exact hbd, Below.trans hB0 hK.1, f3⟩
      · have hn0 : l.length ≠ 0 := fun e => hnil (List.eq_nil_of_length_eq_zero e)
        have hb1 : ((l.length : Int) == 0) = false := by simpa using hn0
        have hb2 : decide ((0 : Int) < (l.length : Int)) = true := decide_eq_true (by omega)
        refine ⟨trivial, ?_⟩
        gi_at_call 45
        refine (CallsIn.inRound lp (callsIn_wide.2 (blen _ _ _ _ hbd))).mono ?_
        rintro e w6 ⟨rfl, hw6⟩
        rw [hw6, Lib.byteCells_length]
        clear hw6 w6
        gi_wp2
        refine ⟨trivial, ?_⟩
        gi_at_call 45
        refine (CallsIn.inRound lp (callsIn_wide.2 (blen _ _ _ _ hbd))).mono ?_
        rintro e w6 ⟨rfl, hw6⟩
        rw [hw6, Lib.byteCells_length]
        clear hw6 w6
        gi_wp2
        refine ⟨trivial, ?_⟩
        gi_at_call 45
        refine (CallsIn.inRound lp (callsIn_wide.2 (blen _ _ _ _ hbd))).mono ?_
        rintro e w6 ⟨rfl, hw6⟩
        rw [hw6, Lib.byteCells_length]
        clear hw6 w6
        gi_wp2
        refine ⟨trivial, ?_⟩
        gi_at_call 46
        refine (CallsIn.inRound lp (callsIn_wide.2 (bwrite_l _ _ _ [32, 43, 32] _ hbd (by simp <;> omega) (by have := hK.1.size; have := hB.size; omega)))).mono ?_
        rintro e w7 ⟨⟨n, rfl⟩, hbd7, k7⟩
        replace hK := hK.trans k7
        replace hbd := hbd7
        clear hbd7 k7 q0 q1
        obtain ⟨q0, q1⟩ := cellsB (kept_box hK.2 k3 (by omega) (by decide))
        gi_wp2
        have HQ2 := Lib.hid (HQ.out.ext (show Ext w1 _ from Below.trans hB0 hK.1))
        refine ⟨trivial, ?_⟩
        gi_at_call 47
        refine (CallsIn.inRound lp (callsIn_wide.2 (term_c _ _ HQ2.out))).mono ?_
        rintro e w8 ⟨r8, rfl, rfl, hx8⟩
        replace hK := hK.trans (Kb.of_ext hx8 (by have := hK.1.size; have := hB.size; omega))
        replace hbd := hbd.ext hx8
        clear hx8 HQ2
        gi_wp2
        refine ⟨trivial, ?_⟩
        gi_at_call 46
        refine (CallsIn.inRound lp (callsIn_wide.2 (bwrite_l _ _ _ [53] _ hbd (by simp <;> omega) (by have := hK.1.size; have := hB.size; omega)))).mono ?_
        rintro e w7 ⟨⟨n, rfl⟩, hbd7, k7⟩
        replace hK := hK.trans k7
        replace hbd := hbd7
        clear hbd7 k7 q0 q1
        obtain ⟨q0, q1⟩ := cellsB (kept_box hK.2 k3 (by omega) (by decide))
        gi_wp2
        obtain ⟨f1, f2, f3⟩ := hK.fin (N := W2.heap.size) hi hbk (by decide)
        exact ⟨f1, f2, by rw [acc3_snoc, ← HL.out]; simp only [stp, if_neg hnil]; exact hbd, Below.trans hB0 hK.1, f3⟩
    · have HQ := Lib.hid (show HasZ w1 (.agg #[.bool b, .slice A2 n2 c2]) (-1) from hq0); clear hq0
      obtain ⟨l, hl⟩ : ∃ l, l = acc3 pre := ⟨_, rfl⟩
      rw [← hl] at hi
      have hbd := hi
      have hK : Kb w1.heap.size w1.heap.size W W := ⟨Below.refl _ _, Lib.OthersKept.refl _ _ _⟩
      have hl3 : l.length ≤ 8 * 3 := by rw [hl]; have := acc3_len pre; omega
      have HL := Lib.hid hl; clear hl
      obtain ⟨q0, q1⟩ := cellsB k3
      gi_wp2
      refine ⟨trivial, ?_⟩
      gi_at_call 44
      refine (CallsIn.inRound lp (callsIn_wide.2 (sign_z _ (-1) _ (HQ.out.ext hB)))).mono ?_
      rintro e w5 ⟨r5, rfl, rfl, hx5⟩
      replace hK := hK.trans (Kb.of_ext hx5 (by have := hB.size; omega))
      replace hbd := hbd.ext hx5
      clear q0 q1 hx5
      obtain ⟨q0, q1⟩ := cellsB (kept_box hK.2 k3 (by omega) (by decide))
      gi_wp2
      by_cases hnil : l = []
      · subst hnil
        refine ⟨trivial, ?_⟩
        gi_at_call 45
        refine (CallsIn.inRound lp (callsIn_wide.2 (blen _ _ _ _ hbd))).mono ?_
        rintro e w6 ⟨rfl, hw6⟩
        rw [hw6, Lib.byteCells_length]
        clear hw6 w6
        gi_wp2
        refine ⟨trivial, ?_⟩
        gi_at_call 46
        refine (CallsIn.inRound lp (callsIn_wide.2 (bwrite_l _ _ _ [45] _ hbd (by simp <;> omega) (by have := hK.1.size; have := hB.size; omega)))).mono ?_
        rintro e w7 ⟨⟨n, rfl⟩, hbd7, k7⟩
        replace hK := hK.trans k7
        replace hbd := hbd7
        clear hbd7 k7 q0 q1
        obtain ⟨q0, q1⟩ := cellsB (kept_box hK.2 k3 (by omega) (by decide))
        gi_wp2
        have HQ2 := Lib.hid (HQ.out.ext (show Ext w1 _ from Below.trans hB0 hK.1))
        refine ⟨trivial, ?_⟩
        gi_at_call 47
        refine (CallsIn.inRound lp (callsIn_wide.2 (term_b _ _ HQ2.out))).mono ?_
        rintro e w8 ⟨r8, rfl, rfl, hx8⟩
        replace hK := hK.trans (Kb.of_ext hx8 (by have := hK.1.size; have := hB.size; omega))
        replace hbd := hbd.ext hx8
        clear hx8 HQ2
        gi_wp2
        refine ⟨trivial, ?_⟩
        gi_at_call 46
        refine (CallsIn.inRound lp (callsIn_wide.2 (bwrite_l _ _ _ [120] _ hbd (by simp <;> omega) (by have := hK.1.size; have := hB.size; omega)))).mono ?_
        rintro e w7 ⟨⟨n, rfl⟩, hbd7, k7⟩
        replace hK := hK.trans k7
        replace hbd := hbd7
        clear hbd7 k7 q0 q1
        obtain ⟨q0, q1⟩ := cellsB (kept_box hK.2 k3 (by omega) (by decide))
        gi_wp2
        obtain ⟨f1, f2, f3⟩ := hK.fin (N := W2.heap.size) hi hbk (by decide)
        exact ⟨f1, f2, by rw [acc3_snoc, ← HL.out]; exact hbd, Below.trans hB0 hK.1, f3⟩
      · have hn0 : l.length ≠ 0 := fun e => hnil (List.eq_nil_of_length_eq_zero e)
        have hb1 : ((l.length : Int) == 0) = false := by simpa using hn0
        have hb2 : decide ((0 : Int) < (l.length : Int)) = true := decide_eq_true (by omega)
        refine ⟨trivial, ?_⟩
        gi_at_call 45
        refine (CallsIn.inRound lp (callsIn_wide.2 (blen _ _ _ _ hbd))).mono ?_
        rintro e w6 ⟨rfl, hw6⟩
        rw [hw6, Lib.byteCells_length]
        clear hw6 w6
        gi_wp2
        refine ⟨trivial, ?_⟩
        gi_at_call 45
        refine (CallsIn.inRound lp (callsIn_wide.2 (blen _ _ _ _ hbd))).mono ?_
        rintro e w6 ⟨rfl, hw6⟩
        rw [hw6, Lib.byteCells_length]
        clear hw6 w6
        gi_wp2
        refine ⟨trivial, ?_⟩
        gi_at_call 46
        refine (CallsIn.inRound lp (callsIn_wide.2 (bwrite_l _ _ _ [32, 45, 32] _ hbd (by simp <;> omega) (by have := hK.1.size; have := hB.size; omega)))).mono ?_
        rintro e w7 ⟨⟨n, rfl⟩, hbd7, k7⟩
        replace hK := hK.trans k7
        replace hbd := hbd7
        clear hbd7 k7 q0 q1
        obtain ⟨q0, q1⟩ := cellsB (kept_box hK.2 k3 (by omega) (by decide))
        gi_wp2
        have HQ2 := Lib.hid (HQ.out.ext (show Ext w1 _ from Below.trans hB0 hK.1))
        refine ⟨trivial, ?_⟩
        gi_at_call 47
        refine (CallsIn.inRound lp (callsIn_wide.2 (term_b _ _ HQ2.out))).mono ?_
        rintro e w8 ⟨r8, rfl, rfl, hx8⟩
        replace hK := hK.trans (Kb.of_ext hx8 (by have := hK.1.size; have := hB.size; omega))
        replace hbd := hbd.ext hx8
        clear hx8 HQ2
        gi_wp2
        refine ⟨trivial, ?_⟩
        gi_at_call 46
        refine (CallsIn.inRound lp (callsIn_wide.2 (bwrite_l _ _ _ [120] _ hbd (by simp <;> omega) (by have := hK.1.size; have := hB.size; omega)))).mono ?_
        rintro e w7 ⟨⟨n, rfl⟩, hbd7, k7⟩
        replace hK := hK.trans k7
        replace hbd := hbd7
        clear hbd7 k7 q0 q1
        obtain ⟨q0, q1⟩ := cellsB (kept_box hK.2 k3 (by omega) (by decide))
        gi_wp2
        obtain ⟨f1, f2, f3⟩ := hK.fin (N := W2.heap.size) hi hbk (by decide)
        exact ⟨f1, f2, by rw [acc3_snoc, ← HL.out]; simp only [stp, if_neg hnil]; exact hbd, Below.trans hB0 hK.1, f3⟩
    · have HQ := Lib.hid (show HasZ w1 (.agg #[.bool b, .slice A2 n2 c2]) (3) from hq0); clear hq0
      obtain ⟨l, hl⟩ : ∃ l, l = acc3 pre := ⟨_, rfl⟩
      rw [← hl] at hi
      have hbd := hi
      have hK : Kb w1.heap.size w1.heap.size W W := ⟨Below.refl _ _, Lib.OthersKept.refl _ _ _⟩
      have hl3 : l.length ≤ 8 * 3 := by rw [hl]; have := acc3_len pre; omega
      have HL := Lib.hid hl; clear hl
      obtain ⟨q0, q1⟩ := cellsB k3
      gi_wp2
      refine ⟨trivial, ?_⟩
      gi_at_call 44
      refine (CallsIn.inRound lp (callsIn_wide.2 (sign_z _ (3) _ (HQ.out.ext hB)))).mono ?_
      rintro e w5 ⟨r5, rfl, rfl, hx5⟩
      replace hK := hK.trans (Kb.of_ext hx5 (by have := hB.size; omega))
      replace hbd := hbd.ext hx5
      clear q0 q1 hx5
      obtain ⟨q0, q1⟩ := cellsB (kept_box hK.2 k3 (by omega) (by decide))
      gi_wp2
      by_cases hnil : l = []
      · subst hnil
        refine ⟨trivial, ?_⟩
        gi_at_call 45
        refine (CallsIn.inRound lp (callsIn_wide.2 (blen _ _ _ _ hbd))).mono ?_
        rintro e w6 ⟨rfl, hw6⟩
        rw [hw6, Lib.byteCells_length]
        clear hw6 w6
        gi_wp2
        refine ⟨trivial, ?_⟩
        gi_at_call 45
        refine (CallsIn.inRound lp (callsIn_wide.2 (blen _ _ _ _ hbd))).mono ?_
        rintro e w6 ⟨rfl, hw6⟩
        rw [hw6, Lib.byteCells_length]
        clear hw6 w6
        gi_wp2
        refine ⟨trivial, ?_⟩
        gi_at_call 45
        refine (CallsIn.inRound lp (callsIn_wide.2 (blen _ _ _ _ hbd))).mono ?_
        rintro e w6 ⟨rfl, hw6⟩
        rw [hw6, Lib.byteCells_length]
        clear hw6 w6
        gi_wp2
        have HQ2 := Lib.hid (HQ.out.ext (show Ext w1 _ from Below.trans hB0 hK.1))
        refine ⟨trivial, ?_⟩
        gi_at_call 47
        refine (CallsIn.inRound lp (callsIn_wide.2 (term_a _ _ HQ2.out))).mono ?_
        rintro e w8 ⟨r8, rfl, rfl, hx8⟩
        replace hK := hK.trans (Kb.of_ext hx8 (by have := hK.1.size; have := hB.size; omega))
        replace hbd := hbd.ext hx8
        clear hx8 HQ2
        gi_wp2
        refine ⟨trivial, ?_⟩
        gi_at_call 46
        refine (CallsIn.inRound lp (callsIn_wide.2 (bwrite_l _ _ _ [51, 42, 120, 94, 50] _ hbd (by simp <;> omega) (by have := hK.1.size; have := hB.size; omega)))).mono ?_
        rintro e w7 ⟨⟨n, rfl⟩, hbd7, k7⟩
        replace hK := hK.trans k7
        replace hbd := hbd7
        clear hbd7 k7 q0 q1
        obtain ⟨q0, q1⟩ := cellsB (kept_box hK.2 k3 (by omega) (by decide))
        gi_wp2
        obtain ⟨f1, f2, f3⟩ := hK.fin (N := W2.heap.size) hi hbk (by decide)
        exact ⟨f1, f2, by rw [acc3_snoc, ← HL.out]; exact hbd, Below.trans hB0 hK.1, f3⟩
      · have hn0 : l.length ≠ 0 := fun e => hnil (List.eq_nil_of_length_eq_zero e)
        have hb1 : ((l.length : Int) == 0) = false := by simpa using hn0
        have hb2 : decide ((0 : Int) < (l.length : Int)) = true := decide_eq_true (by omega)
        refine ⟨trivial, ?_⟩
        gi_at_call 45
        refine (CallsIn.inRound lp (callsIn_wide.2 (blen _ _ _ _ hbd))).mono ?_
        rintro e w6 ⟨rfl, hw6⟩
        rw [hw6, Lib.byteCells_length]
        clear hw6 w6
        gi_wp2
        refine ⟨trivial, ?_⟩
        gi_at_call 45
        refine (CallsIn.inRound lp (callsIn_wide.2 (blen _ _ _ _ hbd))).mono ?_
        rintro e w6 ⟨rfl, hw6⟩
        rw [hw6, Lib.byteCells_length]
        clear hw6 w6
        gi_wp2
        refine ⟨trivial, ?_⟩
        gi_at_call 45
        refine (CallsIn.inRound lp (callsIn_wide.2 (blen _ _ _ _ hbd))).mono ?_
        rintro e w6 ⟨rfl, hw6⟩
        rw [hw6, Lib.byteCells_length]
        clear hw6 w6
        gi_wp2
        refine ⟨trivial, ?_⟩
        gi_at_call 46
        refine (CallsIn.inRound lp (callsIn_wide.2 (bwrite_l _ _ _ [32, 43, 32] _ hbd (by simp <;> omega) (by have := hK.1.size; have := hB.size; omega)))).mono ?_
        rintro e w7 ⟨⟨n, rfl⟩, hbd7, k7⟩
        replace hK := hK.trans k7
        replace hbd := hbd7
        clear hbd7 k7 q0 q1
        obtain ⟨q0, q1⟩ := cellsB (kept_box hK.2 k3 (by omega) (by decide))
        gi_wp2
        have HQ2 := Lib.hid (HQ.out.ext (show Ext w1 _ from Below.trans hB0 hK.1))
        refine ⟨trivial, ?_⟩
        gi_at_call 47
        refine (CallsIn.inRound lp (callsIn_wide.2 (term_a _ _ HQ2.out))).mono ?_
        rintro e w8 ⟨r8, rfl, rfl, hx8⟩
        replace hK := hK.trans (Kb.of_ext hx8 (by have := hK.1.size; have := hB.size; omega))
        replace hbd := hbd.ext hx8
        clear hx8 HQ2
        gi_wp2
        refine ⟨trivial, ?_⟩
        gi_at_call 46
        refine (CallsIn.inRound lp (callsIn_wide.2 (bwrite_l _ _ _ [51, 42, 120, 94, 50] _ hbd (by simp <;> omega) (by have := hK.1.size; have := hB.size; omega)))).mono ?_
        rintro e w7 ⟨⟨n, rfl⟩, hbd7, k7⟩
        replace hK := hK.trans k7
        replace hbd := hbd7
        clear hbd7 k7 q0 q1
        obtain ⟨q0, q1⟩ := cellsB (kept_box hK.2 k3 (by omega) (by decide))
        gi_wp2
        obtain ⟨f1, f2, f3⟩ := hK.fin (N := W2.heap.size) hi hbk (by decide)
        exact ⟨f1, f2, by rw [acc3_snoc, ← HL.out]; simp only [stp, if_neg hnil]; exact hbd, Below.trans hB0 hK.1, f3⟩
  case done =>
    rintro D ys W hD rfl ⟨hi, hB, hbk⟩ hK
    rw [acc3_all] at hi
    have hB' : Ext w1 W := hB
    gi_wp2
    refine ⟨trivial, ?_⟩
    gi_at_call 48
    refine (callsIn_wide.2 (bstring _ _ _ _ hi (by decide))).mono ?_
    rintro e w8 ⟨rfl, hb8, ho8⟩
    have hK3 : w8.heap[D]? = some (.deferred (some [])) := ho8 D _ hK (fun e => by injection e with e; omega) (fun c fz e => by cases e)
    have hx8 : Ext w w8 := hx1.trans (show Ext w1 w8 from Below.trans hB hb8)
    have hx9 : Ext w (w8.putObj D (.deferred none)) := Below.trans hx8 (belowK_b (w := w) (Nat.le_refl _) w8 D _ _ (by have := hx1.size; omega) hK3 rfl rfl)
    gi_wp2
    refine ⟨by simp, .inl ⟨_, _, rfl, run_takeDeferred hK3, ?_⟩⟩
    exact ⟨_, by simp [results, Tryd.f21, go_sem], Gives.mk rfl hx9⟩
  case stop =>
    rintro D c pre W _ _ h _
    exact h.elim
end Go.Proofs.YtfacbpnegkjcgaaDoor
namespace Go.Proofs.YtfacbpnegkjcgaaDoor
open Go.RowKit Go.Hp
end Go.Proofs.YtfacbpnegkjcgaaDoor
namespace Go.Proofs.YtfacbpnegkjcgaaDoor
open Go.RowKit Go.Hp
theorem QsV.trim {base : Nat} {w : World} {A : Option Addr} {l : List Rat} (h : QsAt base w A l) {c : Nat} (hl : l.length ≤ c) (hc : c ≤ 9223372036854775807 := by omega) : QsV base w (.slice A (trimR l).length c) (trimR l) := by
  refine ⟨A, c, rfl, by have := trimR_len l; omega, hc, ?_⟩
  rw [trimR_prefix l]
  exact RowAt.take h _
end Go.Proofs.YtfacbpnegkjcgaaDoor
namespace Go.Hp
theorem HasQ.zero (w : World) : HasQ w (.agg #[.bool false, .slice none 0 0, .bool false, .slice none 0 0]) 0 :=
  ⟨_, _, _, _, _, _, _, _, 0, 0, rfl, (IsZ.zero w).has (by decide), (IsZ.zero w).has (by decide), by decide, by decide, by simp⟩
end Go.Hp
namespace Go.Proofs.YtfacbpnegkjcgaaDoor
open Go.RowKit Go.Hp
end Go.Proofs.YtfacbpnegkjcgaaDoor
namespace Go.Proofs.YtfacbpnegkjcgaaDoor
open Go.RowKit Go.Hp
end Go.Proofs.YtfacbpnegkjcgaaDoor
namespace Go.Hp
end Go.Hp
namespace Go.Proofs.YtfacbpnegkjcgaaDoor
open Go.RowKit Go.Hp
end Go.Proofs.YtfacbpnegkjcgaaDoor
namespace Go.Hp
end Go.Hp
namespace Go.Proofs.YtfacbpnegkjcgaaDoor
open Go.RowKit Go.Hp
end Go.Proofs.YtfacbpnegkjcgaaDoor
namespace Go.Hp
theorem map_full (l : List Rat) : l.map some = full l.length (co l) := by
  apply List.ext_getElem
  · simp [full]
  · intro i h1 h2
    have : i < l.length := by simpa using h1
    simp [full, co_lt this]
/-- A quotient, and no error. -/
def TupQ (w : World) (v : Value) (c : Rat) : Prop := ∃ a, v = .tuple #[a, .int .i64 0] ∧ IsQ w a c
theorem TupQ.ext {w w' : World} {v : Value} {c : Rat} (h : TupQ w v c) (e : Ext w w') : TupQ w' v c := by
  obtain ⟨a, h1, h2⟩ := h; exact ⟨a, h1, h2.ext e⟩
theorem full_of {la : List (Option Rat)} {n : Nat} {Q : Nat → Rat} (hl : la.length = n) (h : ∀ j (hj : j < la.length), la[j] = some (Q j)) : la = full n Q := by
  apply List.ext_getElem
  · simp [full, hl]
  · intro i h1 h2
    rw [h i h1]; simp [full]
end Go.Hp
namespace Go.Hp
/-- The state of a division before the step at i - 1. -/
def DivSt (F G : Nat → Rat) (n s t i : Nat) (la : List (Option Rat)) (Q R : Nat → Rat) : Prop :=
  la.length = n ∧ (∀ j (h : j < la.length), i ≤ j → la[j] = some (Q j)) ∧ (∀ j, j < i → Q j = 0) ∧ Sup n Q ∧ Sup (i + pl G - 1) R ∧ F = pad (cv Q G) R ∧ CD (s + (n - i) * (t + 1)) R
theorem DivSt.start {F G : Nat → Rat} {n s t : Nat} (hF : Sup (n + pl G - 1) F) (hs : CD s F) : DivSt F G n s t n (List.replicate n none) pz F :=
  ⟨by simp, fun j h h' => by simp at h; omega, fun _ _ => rfl, Sup.pz _, hF, by rw [pz_cv]; funext m; simp only [pad, pz]; grind, hs.mono (by omega)⟩
theorem DivSt.step {F G : Nat → Rat} {n s t k : Nat} {la : List (Option Rat)} {Q R : Nat → Rat} (hG : Fin_ G) (h0 : G ≠ pz) (hcG : CD t G) (h : DivSt F G n s t (k + 1) la Q R) (hk : k < n) {c : Rat} (hc : c = R (k + pl G - 1) / ld G) :
    DivSt F G n s t k (la.set k (some c)) (pad Q (mono k c)) (psb R (cv (mono k c) G)) := by
  obtain ⟨h1, h2, h3, h4, h5, h6, h7⟩ := h
  have hp := pl_pos hG h0
  refine ⟨by simpa using h1, fun j hj hkj => ?_, fun j hj => ?_, h4.pad ((mono_sup k c).mono (by omega)), ?_, ?_, ?_⟩
  · rw [List.getElem_set]
    split
    · rename_i e; subst e
      show some c = some (Q k + mono k c k)
      rw [h3 k (by omega), mono_at]; congr 1; grind
    · rename_i e
      rw [h2 j (by simpa using hj) (by omega)]
      show some (Q j) = some (Q j + mono k c j)
      rw [mono_off (fun e' => e e'.symm)]; congr 1; grind
  · show Q j + mono k c j = 0
    rw [h3 j (by omega), mono_off (by omega)]; grind
  · subst hc
    exact div_step hG h0 (h5.mono (by omega))
  · rw [pad_cv]
    funext m
    have := congrFun h6 m
    simp only [pad, psb] at this ⊢
    grind
  · subst hc
    refine (CD.step (n := k) hG h0 h7 hcG).mono ?_
    have : n - k = (n - (k + 1)) + 1 := by omega
    rw [this, Nat.succ_mul]; omega
theorem DivSt.end_ {F G : Nat → Rat} {n s t : Nat} {la : List (Option Rat)} {Q R : Nat → Rat} (hF : Fin_ F) (hG : Fin_ G) (h0 : G ≠ pz) (h : DivSt F G n s t 0 la Q R) : la = full n Q ∧ Q = pq F G ∧ R = pr F G ∧ Sup n Q := by
  obtain ⟨h1, h2, h3, h4, h5, h6, h7⟩ := h
  have := div_eq hF hG h0 ⟨n, h4⟩ h6 (by rwa [Nat.zero_add] at h5)
  exact ⟨full_of h1 fun j hj => h2 j hj (Nat.zero_le _), this.1, this.2, h4⟩
end Go.Hp
namespace Go.Hp
theorem len_trim (l : List Rat) : (trimR l).length = pl (co l) := by rw [← (topR_trim l).pl, co_trimR]
end Go.Hp
namespace Go.Proofs.YtfacbpnegkjcgaaDoor
open Go.RowKit Go.Hp
end Go.Proofs.YtfacbpnegkjcgaaDoor
namespace Go.Hp
end Go.Hp
namespace Go.Hp
theorem rat_pow_add (x : Rat) (a b : Nat) : x ^ (a + b) = x ^ a * x ^ b := by
  induction b with
  | zero => rw [Nat.add_zero, Rat.pow_zero, Rat.mul_one]
  | succ b ih => rw [← Nat.add_assoc, Rat.pow_succ, ih, Rat.pow_succ, Rat.mul_assoc]
/-- q is an integer over D ^ k, at most Y. -/
def Fr (D k Y : Nat) (q : Rat) : Prop := ∃ m : Int, q = (m : Rat) / ((D : Rat) ^ k) ∧ m.natAbs ≤ Y
theorem Fr.mono {D k Y Y' : Nat} {q : Rat} (h : Fr D k Y q) (l : Y ≤ Y') : Fr D k Y' q := by obtain ⟨m, h1, h2⟩ := h; exact ⟨m, h1, by omega⟩
theorem Fr.zero (D k Y : Nat) : Fr D k Y 0 := ⟨0, by rw [show ((0 : Int) : Rat) = 0 from rfl, Rat.div_def, Rat.zero_mul], by simp⟩
theorem Fr.sub {D k Y Z : Nat} {p q : Rat} (h : Fr D k Y p) (g : Fr D k Z q) : Fr D k (Y + Z) (p - q) := by
  obtain ⟨m, h1, h2⟩ := h; obtain ⟨n, g1, g2⟩ := g
  refine ⟨m - n, ?_, ?_⟩
  · rw [h1, g1, Rat.intCast_sub, Rat.div_def, Rat.div_def, Rat.div_def]; grind
  · have := Int.natAbs_sub_le m n; omega
theorem Fr.mul {D a b Y Z : Nat} {p q : Rat} (h : Fr D a Y p) (g : Fr D b Z q) : Fr D (a + b) (Y * Z) (p * q) := by
  obtain ⟨m, h1, h2⟩ := h; obtain ⟨n, g1, g2⟩ := g
  refine ⟨m * n, ?_, ?_⟩
  · rw [h1, g1, Rat.intCast_mul, Rat.div_def, Rat.div_def, Rat.div_def, rat_pow_add, Rat.inv_mul_rev]; grind
  · rw [Int.natAbs_mul]; exact Nat.mul_le_mul h2 g2
theorem Fr.up {D k Y : Nat} {q : Rat} (hD : 0 < D) (h : Fr D k Y q) (j : Nat) : Fr D (k + j) (Y * D ^ j) q := by
  have h0 := natq hD
  have h1 : Fr D j (D ^ j) 1 := by
    refine ⟨((D ^ j : Nat) : Int), ?_, by simp⟩
    have h2 : (D : Rat) ^ j ≠ 0 := by
      induction j with
      | zero => rw [Rat.pow_zero]; decide
      | succ j ih => rw [Rat.pow_succ]; intro e; rcases Rat.mul_eq_zero.1 e with e | e <;> contradiction
    rw [Rat.intCast_natCast, Rat.natCast_pow]
    grind
  have := h.mul h1
  rwa [Rat.mul_one] at this
theorem Fr.qsz {D k Y : Nat} {q : Rat} (hD : 0 < D) (h : Fr D k Y q) {t : Nat} (h1 : sz Y ≤ t) (h2 : sz (D ^ k) ≤ t) (h3 : 1 ≤ t) : qsz q ≤ t := by
  obtain ⟨m, e, hm⟩ := h
  rw [← Rat.natCast_pow, divInt_eq] at e
  rw [e]
  exact qsz_divInt (Nat.le_trans (sz_mono hm) h1) (by simpa using h2) h3
section
variable {C S : Nat → Rat} {D X : Nat}
end
end Go.Hp
namespace Go.Hp
theorem CD.rv {s : Nat} {F : Nat → Rat} (h : CD s F) (d : Nat) : CD s (rv d F) := by
  obtain ⟨D, X, ⟨hD, hF⟩, h1, h2⟩ := h
  refine ⟨D, X, ⟨hD, fun i => ?_⟩, h1, h2⟩
  unfold Hp.rv
  split
  · exact hF _
  · exact ⟨0, by show (0 : Rat) = _; grind, by simp⟩
end Go.Hp
namespace Go.Hp
end Go.Hp
namespace Go.Hp
open Go.RowKit
/-- A row of the call's own as an array. -/
def ArrL (base : Nat) (w : World) (v : Value) (t : TypeId) (l : List Rat) : Prop := l = [] ∨ ∃ g cap, v = .slice (some ⟨g, 0, none⟩) l.length cap ∧ base ≤ g ∧ l.length ≤ cap ∧ cap ≤ 9223372036854775807 ∧ QArr w g t (l.map some)
/-- A polynomial as an array of the call's own, unless it is 0. -/
def ArrP (base : Nat) (w : World) (v : Value) (t : TypeId) (F : Nat → Rat) : Prop := pl F = 0 ∨ ∃ g cap, v = .slice (some ⟨g, 0, none⟩) (pl F) cap ∧ base ≤ g ∧ pl F ≤ cap ∧ cap ≤ 9223372036854775807 ∧ QArr w g t (full (pl F) F)
theorem QArr.pre {w : World} {g : Nat} {t : TypeId} {l : List (Option Rat)} (h : QArr w g t l) (n : Nat) : QArr w g t (l.take n) := by
  obtain ⟨cs, h1, h2, h3⟩ := h
  have hl : (l.take n).length ≤ l.length := List.length_take_le' _ _
  refine ⟨cs, h1, by omega, fun j hj => ?_⟩
  have := h3 j (by omega)
  rw [List.getElem_take]; exact this
theorem full_take (N n : Nat) (F : Nat → Rat) (h : n ≤ N) : (full N F).take n = full n F := by
  unfold full
  rw [← List.map_take, List.take_range, Nat.min_eq_left h]
theorem ArrL.fin {base n c : Nat} {w w' : World} {A : Option Addr} {t : TypeId} {l : List Rat} (h : ArrL base w (.slice A n c) t l) (e : Ext w w') : ArrP base w' (.slice A (trimR l).length c) t (co l) := by
  have hp : pl (co l) ≤ l.length := pl_le (co_sup l)
  rcases h with rfl | ⟨g, cap, e1, h1, h2, h3, h4⟩
  · exact .inl (by rw [co_nil, pl_pz])
  · refine .inr ⟨g, cap, ?_, h1, by omega, h3, ?_⟩
    · rw [len_trim]
      injection e1 with e1 e2 e3
      rw [e1, e3]
    · have := (h4.ext e).pre (pl (co l))
      rw [map_full, full_take _ _ _ hp] at this; exact this
end Go.Hp
namespace Go.Proofs.YtfacbpnegkjcgaaDoor
open Go.RowKit Go.Hp
end Go.Proofs.YtfacbpnegkjcgaaDoor
namespace Go.Proofs.YtfacbpnegkjcgaaDoor
open Go.RowKit Go.Hp
end Go.Proofs.YtfacbpnegkjcgaaDoor
namespace Go.Hp
open Go.RowKit
/-- A box with a fraction. -/
def BoxQ (w : World) (g : Nat) (t : TypeId) (q : Rat) : Prop := ∃ b A n c b' A' n' c', Box w g t #[.bool b, .slice A n c, .bool b', .slice A' n' c'] ∧ IsQ w (.agg #[.bool b, .slice A n c, .bool b', .slice A' n' c']) q
theorem BoxQ.ext {w w' : World} {g : Nat} {t : TypeId} {q : Rat} (h : BoxQ w g t q) (e : Ext w w') : BoxQ w' g t q := by
  obtain ⟨b, A, n, c, b', A', n', c', h1, h2⟩ := h; exact ⟨b, A, n, c, b', A', n', c', h1.ext e, h2.ext e⟩
theorem BoxQ.lt {w : World} {g : Nat} {t : TypeId} {q : Rat} (h : BoxQ w g t q) : g < w.heap.size := by
  obtain ⟨b, A, n, c, b', A', n', c', h1, h2⟩ := h; exact h1.lt
theorem BoxQ.upd {w w' : World} {g : Nat} {t : TypeId} {q : Rat} {G : List Nat} (h : BoxQ w g t q) (U : Upd G w w') (hg : g ∉ G) : BoxQ w' g t q := by
  obtain ⟨b, A, n, c, b', A', n', c', h1, h2⟩ := h; exact ⟨b, A, n, c, b', A', n', c', h1.upd U hg, h2.kd U.kd⟩
theorem BoxQ.mk {w : World} {g : Nat} {t : TypeId} {q : Rat} {b b' : Bool} {A A' : Option Addr} {n c n' c' : Nat} (h : Box w g t #[.bool b, .slice A n c, .bool b', .slice A' n' c']) (k : IsQ w (.agg #[.bool b, .slice A n c, .bool b', .slice A' n' c']) q) : BoxQ w g t q := ⟨_, _, _, _, _, _, _, _, h, k⟩
theorem OwnQ.off {base : Nat} {e : TypeId} {w w' : World} {v : Value} {l : List Rat} {g : Nat} (h : OwnQ base e w v l) (U : Upd [g] w w') (hg : ∀ k ∈ blk v, k < g) : OwnQ base e w' v l :=
  OwnR.upd h U (fun k hk hG => by have := hg k hk; simp at hG; omega) fun _ _ q => q.kd U.kd
end Go.Hp
namespace Go.Proofs.YtfacbpnegkjcgaaDoor
open Go.RowKit Go.Hp
end Go.Proofs.YtfacbpnegkjcgaaDoor
namespace Go.Hp
open Go.RowKit
theorem QArr.hs {w : World} {g : Nat} {t : TypeId} {N c : Nat} {F : Nat → Rat} (h : QArr w g t (full N F)) (hs : ∀ i, i < N → qsz (F i) ≤ 274877906944) (hc : N ≤ c) (hm : c ≤ 9223372036854775807) : HsV 0 w (.slice (some ⟨g, 0, none⟩) N c) ((List.range N).map F) := by
  have hrow := h.row (full_row N F) (Nat.zero_le g)
  refine QsV.has (base := 0) ⟨_, c, by rw [range_len], by rw [range_len]; exact hc, hm, hrow⟩ fun q hq => ?_
  obtain ⟨i, hi, rfl⟩ := List.mem_map.1 hq
  exact hs i (List.mem_range.1 hi)
end Go.Hp
namespace Go.Proofs.YtfacbpnegkjcgaaDoor
open Go.RowKit Go.Hp
end Go.Proofs.YtfacbpnegkjcgaaDoor
namespace Go.Hp
theorem CD.mn {s : Nat} {F : Nat → Rat} (h : CD s F) : CD (2 * s) (mn F) := by
  have h1 := h.elem (pl F - 1)
  have h2 : Hp.qsz (1 / ld F) ≤ s := by
    have e : 1 / ld F = (ld F)⁻¹ := by rw [Rat.div_def, Rat.one_mul]
    rw [e]; exact Nat.le_trans (qsz_inv _) h1
  exact (h.psc (1 / ld F)).mono (by omega)
/-- How long the numbers may be after j rounds. -/
def gcb (s : Nat) : Nat → Nat
  | 0 => s
  | j + 1 => 18 * gcb s j + 16
theorem gcb_mono {s i j : Nat} (h : i ≤ j) : gcb s i ≤ gcb s j := by
  induction j with
  | zero => obtain rfl : i = 0 := by omega
            exact Nat.le_refl _
  | succ j ih =>
    rcases Nat.eq_or_lt_of_le h with e | e
    · rw [e]; exact Nat.le_refl _
    · have := ih (by omega)
      show _ ≤ 18 * gcb s j + 16
      omega
/-- The state after j rounds. -/
def GcSt (F0 G0 : Nat → Rat) (j : Nat) (F G : Nat → Rat) : Prop :=
  Fin_ F ∧ Fin_ G ∧ (∀ E, Fin_ E → (Dv E F ∧ Dv E G ↔ Dv E F0 ∧ Dv E G0)) ∧ CD (gcb 44 j) F ∧ CD (gcb 44 j) G ∧ pl F ≤ 7 ∧ pl G + j ≤ 7
theorem GcSt.start {F G : Nat → Rat} (hF : Fin_ F) (hG : Fin_ G) (cF : CD 22 F) (cG : CD 22 G) (lF : pl F ≤ 7) (lG : pl G ≤ 7) : GcSt F G 0 F G :=
  ⟨hF, hG, fun _ _ => Iff.rfl, cF.mono (by show 22 ≤ 44; omega), cG.mono (by show 22 ≤ 44; omega), lF, lG⟩
theorem GcSt.step {F0 G0 F G : Nat → Rat} {j : Nat} (h : GcSt F0 G0 j F G) (h0 : G ≠ pz) : GcSt F0 G0 (j + 1) G (mn (pr F G)) := by
  obtain ⟨hF, hG, hd, cF, cG, lF, lG⟩ := h
  have hp := pl_pos hG h0
  have hr := pr_fin hF hG
  have hs := pl_le (pr_sup hF hG h0)
  have c1 := CD.pr (n := 8) ((pl_sup hF).mono (by omega)) hG h0 cF cG
  refine ⟨hG, mn_fin hr, fun E hE => ?_, cG.mono (gcb_mono (by omega)), c1.mn.mono ?_, by omega, by rw [mn_pl hr]; omega⟩
  · rw [dv_mn_iff hr, dv_step]; exact hd E hE
  · show _ ≤ 18 * gcb 44 j + 16
    omega
theorem GcSt.end_ {F0 G0 F G : Nat → Rat} {j : Nat} (h : GcSt F0 G0 j F G) (h0 : G = pz) : IsG F0 G0 (mn F) := by
  obtain ⟨hF, hG, hd, _⟩ := h
  subst h0
  exact (IsG.zero hF).of hd
/-- What a division in a round asks. -/
theorem GcSt.room {F0 G0 F G : Nat → Rat} {j : Nat} (h : GcSt F0 G0 j F G) (h0 : G ≠ pz) : j ≤ 6 ∧ gcb 44 j + (pl F + 2) * (gcb 44 j + 1) + 2 * gcb 44 j + 2 ≤ 68719476736 ∧ pl (pr F G) ≤ 6 ∧ CD (9 * gcb 44 j + 8) (pr F G) := by
  obtain ⟨hF, hG, hd, cF, cG, lF, lG⟩ := h
  have hp := pl_pos hG h0
  have hs := pl_le (pr_sup hF hG h0)
  have c1 := CD.pr (n := 8) ((pl_sup hF).mono (by omega)) hG h0 cF cG
  have h6 : gcb 44 j ≤ gcb 44 6 := gcb_mono (by omega)
  have h7 : gcb 44 6 = 1528549360 := rfl
  have h8 : (pl F + 2) * (gcb 44 j + 1) ≤ 9 * (gcb 44 j + 1) := Nat.mul_le_mul_right _ (by omega)
  exact ⟨by omega, by omega, by omega, c1.mono (by omega)⟩
end Go.Hp
namespace Go.Hp
/-- The factor x - a. -/
def lin (a : Rat) : Nat → Rat := cs (-a) pone
theorem pone_sup : Sup 1 pone := (Sup.pz 0).cs 1
theorem pone_fin : Fin_ pone := ⟨1, pone_sup⟩
theorem CD.pone : CD 3 pone := by
  have := CD.pz.cs 1
  have e : qsz (1 : Rat) = 1 := by decide
  rw [e] at this; exact this
theorem CD.lin {a : Rat} (h : qsz a ≤ 2) : CD 6 (lin a) := by
  have := CD.pone.cs (-a)
  rw [qsz_neg] at this
  exact this.mono (by omega)
/-- The steps of Horner's rule: what stands behind the coefficient at i. -/
def hor (F : Nat → Rat) (x : Rat) (n i : Nat) : Rat := evn (n - i) (fun j => F (i + j)) x
def Apart (X : Nat → Rat) (n : Nat) : Prop := ∀ i k, i < n → k < i → X i ≠ X k
theorem Apart.ne {X : Nat → Rat} {n : Nat} (h : Apart X n) {i k : Nat} (hi : i < n) (hk : k < n) (e : k ≠ i) : X i ≠ X k := by
  rcases Nat.lt_or_ge k i with l | l
  · exact h i k hi l
  · exact fun e2 => h k i hk (by omega) e2.symm
end Go.Hp
namespace Go.Hp
def xgb : Nat → Nat
  | 0 => 22
  | 1 => 22
  | j + 2 => xgb j + 8 * (xgb (j + 1) + 1)
def xgq (j : Nat) : Nat := 1 + 8 * (xgb j + 8 * (xgb (j + 1) + 1) + xgb (j + 1) + 1)
def xga : Nat → Nat
  | 0 => 3
  | 1 => 3
  | j + 2 => xga j + (xgq j + xga (j + 1) + 1) + 1
theorem xgb_le : ∀ j, xgb j ≤ xgb (j + 1)
  | 0 => Nat.le_refl _
  | j + 1 => by show _ ≤ xgb j + 8 * (xgb (j + 1) + 1); omega
theorem xga_le : ∀ j, xga j ≤ xga (j + 1)
  | 0 => Nat.le_refl _
  | j + 1 => by show _ ≤ xga j + (xgq j + xga (j + 1) + 1) + 1; omega
theorem mono_of {f : Nat → Nat} (h : ∀ j, f j ≤ f (j + 1)) {i j : Nat} (k : i ≤ j) : f i ≤ f j := by
  induction j with
  | zero => obtain rfl : i = 0 := by omega
            exact Nat.le_refl _
  | succ j ih =>
    rcases Nat.eq_or_lt_of_le k with e | e
    · rw [e]; exact Nat.le_refl _
    · exact Nat.le_trans (ih (by omega)) (h j)
theorem xgb7 : xgb 7 = 7310526 := rfl
theorem xga7 : xga 7 = 76218651 := rfl
def XgSt (F0 G0 : Nat → Rat) (j : Nat) (R S U N : Nat → Rat) : Prop :=
  (Fin_ R ∧ Fin_ S ∧ Fin_ U ∧ Fin_ N) ∧ (∀ E, Fin_ E → (Dv E R ∧ Dv E S ↔ Dv E F0 ∧ Dv E G0)) ∧
  (∃ V W, Fin_ V ∧ Fin_ W ∧ pad (cv U F0) (cv V G0) = R ∧ pad (cv N F0) (cv W G0) = S) ∧
  (CD (xgb j) R ∧ CD (xgb (j + 1)) S ∧ CD (xga j) U ∧ CD (xga (j + 1)) N) ∧ pl R ≤ 7 ∧ pl S + j ≤ 7 ∧ pl G0 ≤ 7 ∧
  ((j = 0 ∧ U = pone ∧ N = pz ∧ S = G0) ∨ (1 ≤ j ∧ pl N + pl R ≤ pl G0 + 1 ∧ pl U + pl R ≤ pl G0 + 1 ∧ pl S ≤ pl R ∧ R ≠ pz))
theorem XgSt.start {F G : Nat → Rat} (hF : Fin_ F) (hG : Fin_ G) (cF : CD 22 F) (cG : CD 22 G) (lF : pl F ≤ 7) (lG : pl G ≤ 7) : XgSt F G 0 F G pone pz :=
  ⟨⟨hF, hG, pone_fin, Fin_.pz⟩, fun _ _ => Iff.rfl, ⟨pz, pone, Fin_.pz, pone_fin, by rw [pone_cv, pz_cv]; funext n; simp only [pad, pz]; grind, by rw [pone_cv, pz_cv]; funext n; simp only [pad, pz]; grind⟩,
    ⟨cF, cG, CD.pone, CD.pz.mono (by show 1 ≤ 3; omega)⟩, lF, lG, lG, .inl ⟨rfl, rfl, rfl, rfl⟩⟩
theorem XgSt.step {F0 G0 R S U N : Nat → Rat} {j : Nat} (h : XgSt F0 G0 j R S U N) (h0 : S ≠ pz) : XgSt F0 G0 (j + 1) S (pr R S) N (psb U (cv (pq R S) N)) := by
  obtain ⟨⟨hR, hS, hU, hN⟩, hd, ⟨V, W, hV, hW, e1, e2⟩, ⟨cR, cS, cU, cN⟩, lR, lS, lG, hj⟩ := h
  have hp := pl_pos hS h0
  have hs := pl_le (pr_sup hR hS h0)
  have hR8 : Sup (8 + pl S - 1) R := (pl_sup hR).mono (by omega)
  have q8 := pq_sup hR8 hS h0
  have hq := pq_fin R S
  have c1 := CD.pr hR8 hS h0 cR cS
  have c2 := CD.pq hR8 hS h0 cR cS
  refine ⟨⟨hS, pr_fin hR hS, hN, hU.psb (hq.cv hN)⟩, fun E hE => by rw [dv_step]; exact hd E hE, ⟨W, psb V (cv (pq R S) W), hW, hV.psb (hq.cv hW), e2, ?_⟩,
    ⟨cS, c1, cN, cU.psb (CD.cv q8 (by omega) c2 cN)⟩, by omega, by omega, lG, .inr ?_⟩
  · show _ = psb R (cv (pq R S) S)
    rw [psb_cv, psb_cv, cv_assoc, cv_assoc, ← e2, cv_pad]
    conv => rhs; rw [← e1]
    funext n; simp only [pad, psb]; grind
  · rcases hj with ⟨rfl, rfl, rfl, rfl⟩ | ⟨hj, d1, d2, d3, d4⟩
    · have e : psb pone (cv (pq R S) pz) = pone := by rw [cv_pz]; funext n; simp only [psb, pz]; grind
      have l1 := pl_le pone_sup
      rw [e, pl_pz]
      exact ⟨by omega, by omega, by omega, by omega, h0⟩
    · have q1 := pq_sup (n := pl R - pl S + 1) ((pl_sup hR).mono (by omega)) hS h0
      have l1 : pl (psb U (cv (pq R S) N)) ≤ pl G0 + 1 - pl S := pl_le (((pl_sup hU).mono (by omega)).psb ((q1.cv (pl_sup hN)).mono (by omega)))
      exact ⟨by omega, by omega, by omega, by omega, h0⟩
/-- What a division in a round asks. -/
theorem XgSt.room {F0 G0 R S U N : Nat → Rat} {j : Nat} (h : XgSt F0 G0 j R S U N) (h0 : S ≠ pz) : j ≤ 6 ∧ xgb j ≤ 7310526 ∧ xgb (j + 1) ≤ 7310526 ∧ xga j ≤ 76218651 ∧ xga (j + 1) ≤ 76218651 ∧ Sup 8 (pq R S) ∧ pl N ≤ 8 ∧ (∀ i, qsz (pq R S i) ≤ 73105268) ∧
    xgb j + (pl R + 2) * (xgb (j + 1) + 1) + 2 * xgb (j + 1) + 2 ≤ 68719476736 ∧ (∀ i, qsz (cv (pq R S) N i) ≤ 661060805) ∧ pl U ≤ 8 := by
  obtain ⟨⟨hR, hS, hU, hN⟩, hd, -, ⟨cR, cS, cU, cN⟩, lR, lS, lG, hj⟩ := h
  have hp := pl_pos hS h0
  have hR8 : Sup (8 + pl S - 1) R := (pl_sup hR).mono (by omega)
  have q8 := pq_sup hR8 hS h0
  have b1 : xgb j ≤ 7310526 := by rw [← xgb7]; exact mono_of xgb_le (by omega)
  have b2 : xgb (j + 1) ≤ 7310526 := by rw [← xgb7]; exact mono_of xgb_le (by omega)
  have a1 : xga j ≤ 76218651 := by rw [← xga7]; exact mono_of xga_le (by omega)
  have a2 : xga (j + 1) ≤ 76218651 := by rw [← xga7]; exact mono_of xga_le (by omega)
  have c2 := CD.pq hR8 hS h0 cR cS
  have c3 := CD.cv q8 (by omega) c2 cN
  have h8 : (pl R + 2) * (xgb (j + 1) + 1) ≤ 9 * (xgb (j + 1) + 1) := Nat.mul_le_mul_right _ (by omega)
  have lN : pl N ≤ 8 ∧ pl U ≤ 8 := by
    rcases hj with ⟨rfl, rfl, rfl, rfl⟩ | ⟨hj, d1, d2, d3, d4⟩
    · have := pl_le pone_sup
      rw [pl_pz]; omega
    · omega
  refine ⟨by omega, b1, b2, a1, a2, q8, lN.1, fun i => ?_, by omega, fun i => ?_, lN.2⟩
  · have := pq_qsz hR8 hS h0 cR cS i; omega
  · have := c3.elem i; omega
/-- What comes out. -/
theorem XgSt.end_ {F0 G0 R S U N : Nat → Rat} {j : Nat} (h : XgSt F0 G0 j R S U N) (h0 : S = pz) (hF : Fin_ F0) (hG : Fin_ G0) (hg : G0 ≠ pz) (cF : CD 22 F0) (cG : CD 22 G0) (lF : pl F0 ≤ 7) :
    R ≠ pz ∧ CD 7310526 R ∧ CD 14621052 (mn R) ∧ CD 76218651 U ∧ CD 83529177 (psc (1 / ld R) U) ∧ pl U ≤ 7 ∧ 1 ≤ pl R ∧ pl R ≤ 7 ∧
    pq G0 (mn R) ≠ pz ∧ CD 1052715993 (pq G0 (mn R)) ∧ pl (pq G0 (mn R)) ≤ 7 ∧
    CD 8505257129 (pr (psc (1 / ld R) U) (pq G0 (mn R))) ∧ pl (pr (psc (1 / ld R) U) (pq G0 (mn R))) ≤ 7 ∧
    CD 8519878205 (psb (mn R) (cv (pr (psc (1 / ld R) U) (pq G0 (mn R))) F0)) ∧ pl (psb (mn R) (cv (pr (psc (1 / ld R) U) (pq G0 (mn R))) F0)) ≤ 14 ∧
    (∀ i, qsz (pq (psb (mn R) (cv (pr (psc (1 / ld R) U) (pq G0 (mn R))) F0)) G0 i) ≤ 8519878572) ∧
    IsX F0 G0 (mn R) (pr (psc (1 / ld R) U) (pq G0 (mn R))) (pq (psb (mn R) (cv (pr (psc (1 / ld R) U) (pq G0 (mn R))) F0)) G0) := by
  subst h0
  obtain ⟨⟨hR, hS, hU, hN⟩, hd, ⟨V, W, hV, hW, e1, e2⟩, ⟨cR, cS, cU, cN⟩, lR, lS, lG, hj⟩ := h
  rcases hj with ⟨rfl, rfl, rfl, e⟩ | ⟨hj, d1, d2, d3, d4⟩
  · exact absurd e.symm hg
  have pR := pl_pos hR d4
  have cR' : CD 7310526 R := cR.mono (by rw [← xgb7]; exact mono_of xgb_le (by omega))
  have cU' : CD 76218651 U := cU.mono (by rw [← xga7]; exact mono_of xga_le (by omega))
  have hD := mn_fin hR
  have cD : CD 14621052 (mn R) := cR'.mn.mono (by omega)
  have hI : IsG F0 G0 (mn R) := (IsG.zero hR).of hd
  have hD0 := mn_ne hR d4
  have lD := mn_pl hR
  obtain ⟨A, hA, eA⟩ := hI.2.2.1
  obtain ⟨Q, hQ, eQ⟩ := hI.2.2.2.1
  have hper : pq G0 (mn R) = Q := by
    have := (pq_mul hQ hD hD0).1
    rw [← eQ] at this; exact this
  have hQ0 : Q ≠ pz := fun e => hg (by rw [eQ, e, pz_cv])
  have lQ : pl G0 = pl Q + pl (mn R) - 1 := by rw [eQ]; exact pl_cv hQ hD hQ0 hD0
  have pQ := pl_pos hQ hQ0
  have cQ : CD 1052715993 Q := by
    rw [← hper]
    exact (CD.pq (n := 8) ((pl_sup hG).mono (by omega)) hD hD0 cG cD).mono (by omega)
  have c1 : qsz (1 / ld R) ≤ 7310526 := by
    have e : 1 / ld R = (ld R)⁻¹ := by rw [Rat.div_def, Rat.one_mul]
    rw [e]; exact Nat.le_trans (qsz_inv _) (cR'.elem _)
  have cU1 : CD 83529177 (psc (1 / ld R) U) := (cU'.psc _).mono (by omega)
  have hU1 : Fin_ (psc (1 / ld R) U) := hU.psc _
  have lU1 : pl (psc (1 / ld R) U) ≤ 7 := Nat.le_trans (pl_le ((pl_sup hU).psc _)) (by omega)
  rw [hper]
  obtain ⟨U1, hU1e⟩ : ∃ U1, U1 = psc (1 / ld R) U := ⟨_, rfl⟩
  rw [← hU1e] at cU1 hU1 lU1 ⊢
  have hU2 := pr_fin hU1 hQ
  have cU2 : CD 8505257129 (pr U1 Q) := (CD.pr (n := 8) ((pl_sup hU1).mono (by omega)) hQ hQ0 cU1 cQ).mono (by omega)
  have sU2 := pr_sup hU1 hQ hQ0
  have lU2 := pl_le sU2
  have cX : CD 8519878205 (psb (mn R) (cv (pr U1 Q) F0)) := (cD.psb (CD.cv sU2 (by omega) cU2 cF)).mono (by omega)
  have hX : Fin_ (psb (mn R) (cv (pr U1 Q) F0)) := hD.psb (hU2.cv hF)
  have lX : pl (psb (mn R) (cv (pr U1 Q) F0)) ≤ 14 := pl_le (((pl_sup hD).mono (by omega)).psb (((pl_sup hU2).cv (pl_sup hF)).mono (by omega)))
  have key : psb (mn R) (cv (pr U1 Q) F0) = cv (pad (psc (1 / ld R) V) (cv (pq U1 Q) A)) G0 := by
    have k1 : cv (pr U1 Q) F0 = psb (cv U1 F0) (cv (cv (pq U1 Q) Q) F0) := by
      unfold pr; rw [psb_cv]
    have k2 : cv (cv (pq U1 Q) Q) F0 = cv (cv (pq U1 Q) A) G0 := by
      rw [cv_assoc, cv_assoc]
      congr 1
      conv => lhs; rw [eA]
      conv => rhs; rw [eQ]
      rw [← cv_assoc, ← cv_assoc, cv_comm Q A]
    have k3 : mn R = pad (cv U1 F0) (cv (psc (1 / ld R) V) G0) := by
      rw [hU1e, psc_cv, psc_cv]
      show psc (1 / ld R) R = _
      conv => lhs; rw [← e1]
      funext n; simp only [pad, psc]; grind
    rw [k1, k2, pad_cv]
    conv => lhs; rw [k3]
    funext n; simp only [pad, psb]; grind
  have hB : Fin_ (pad (psc (1 / ld R) V) (cv (pq U1 Q) A)) := (hV.psc _).pad ((pq_fin _ _).cv hA)
  have hV2 : pq (psb (mn R) (cv (pr U1 Q) F0)) G0 = pad (psc (1 / ld R) V) (cv (pq U1 Q) A) := by
    rw [key]; exact (pq_mul hB hG hg).1
  refine ⟨d4, cR', cD, cU', cU1, by omega, pR, lR, hQ0, cQ, by omega, cU2, by omega, cX, lX, fun i => ?_, hI, hU2, pq_fin _ _, ?_, sU2.mono (by omega)⟩
  · have := pq_qsz (n := 15) ((pl_sup hX).mono (by omega)) hG hg cX cG i
    omega
  · rw [hV2, ← key]
    funext n; simp only [pad, psb]; grind
end Go.Hp
namespace Go.Hp
open Go.RowKit
end Go.Hp
namespace Go.Proofs.YtfacbpnegkjcgaaDoor
open Go.RowKit Go.Hp
/-! ### over polynomials -/
end Go.Proofs.YtfacbpnegkjcgaaDoor
namespace Go.Proofs.YtfacbpnegkjcgaaDoor
open Go.RowKit Go.Hp
end Go.Proofs.YtfacbpnegkjcgaaDoor
namespace Go.Hp
open Go.RowKit
theorem OwnQ.at_ {base n c : Nat} {e : TypeId} {w : World} {A : Option Addr} {l : List Rat} (h : OwnQ base e w (.slice A n c) l) {j : Nat} (hj : j < l.length) :
    ∃ g o b A1 n c b' A1' n' c', A = some ⟨g, o, none⟩ ∧ base ≤ g ∧ w.cell? ⟨g, o + j * 4, none⟩ = some (.bool b) ∧ w.cell? ⟨g, o + j * 4 + 1, none⟩ = some (.slice A1 n c) ∧ w.cell? ⟨g, o + j * 4 + 2, none⟩ = some (.bool b') ∧ w.cell? ⟨g, o + j * 4 + 3, none⟩ = some (.slice A1' n' c') ∧ IsQ w (.agg #[.bool b, .slice A1 n c, .bool b', .slice A1' n' c']) l[j] := by
  obtain ⟨A', c', e1, h2, h3, h4⟩ := OwnQ.row h
  cases e1
  exact QsAt.at_ h4 hj
theorem OwnQ.shape {base : Nat} {e : TypeId} {w : World} {v : Value} {l : List Rat} (h : OwnQ base e w v l) : ∃ A c, v = .slice A l.length c ∧ l.length ≤ c ∧ c ≤ 9223372036854775807 := by
  obtain ⟨A', c', e1, h2, h3, h4⟩ := OwnQ.row h
  exact ⟨A', c', e1, h2, h3⟩
end Go.Hp
namespace Go.Proofs.YtfacbpnegkjcgaaDoor
open Go.RowKit Go.Hp
end Go.Proofs.YtfacbpnegkjcgaaDoor
namespace Go.Hp
open Go.RowKit
theorem IsP.upd {base : Nat} {G : List Nat} {w w' : World} {v : Value} {F : Nat → Rat} (h : IsP base w v F) (U : Upd G w w') (hG : ∀ g ∈ G, g < base) : IsP base w' v F := by
  obtain ⟨l, h1, h2, h3⟩ := h; exact ⟨l, RowV.upd h1 U hG fun _ _ q => q.kd U.kd, h2, h3⟩
end Go.Hp
namespace Go.Proofs.YtfacbpnegkjcgaaDoor
open Go.RowKit Go.Hp
end Go.Proofs.YtfacbpnegkjcgaaDoor
namespace Go.Hp
open Go.RowKit
end Go.Hp
namespace Go.Proofs.YtfacbpnegkjcgaaDoor
open Go.RowKit Go.Hp
end Go.Proofs.YtfacbpnegkjcgaaDoor
namespace Go.Hp
open Go.RowKit
/-- A new slice of one element is a row of the call's own. -/
theorem NewQ.own {w : World} {v : Value} {base : Nat} {q : Rat} {t : TypeId} (h : NewQ w v base q t) : OwnQ base t w v [q] := by
  obtain ⟨g, cs, rfl, h1, h2, h3, h4⟩ := h
  refine ⟨[cs], rfl, fun c hc => by simp at hc; subst hc; exact h3, ⟨by simp [h3], .inr ⟨g, 1, cs, rfl, h1, h2, by simp, by simp [maxLen], by simp [h3], ?_⟩⟩, fun j h h' => ?_⟩
  · simp only [List.flatMap_cons, List.flatMap_nil, List.append_nil]
    exact List.take_of_length_le (by simp [h3])
  · have : j = 0 := by simp at h; omega
    subst this; exact h4
end Go.Hp
namespace Go.Proofs.YtfacbpnegkjcgaaDoor
open Go.RowKit Go.Hp
end Go.Proofs.YtfacbpnegkjcgaaDoor
namespace Go.Hp
open Go.RowKit
theorem IsZ.of_one {w : World} {A : Option Addr} {c N : Nat} {b : Bool} {n : Int} (h : DigV w (.slice A 1 c) [N]) (h0 : N ≠ 0) (hn : n = if b then -(N : Int) else N) : IsZ w (.agg #[.bool b, .slice A 1 c]) n := by
  refine ⟨b, [N], ⟨_, rfl, h⟩, ?_, fun _ => by simpa using h0, fun _ => by simp⟩
  rw [hn]; unfold iv; simp [nv]
theorem IsZ.of_nil {w : World} : IsZ w (.agg #[.bool false, .slice none 0 0]) 0 := IsZ.zero w
end Go.Hp
namespace Go.Proofs.YtfacbpnegkjcgaaDoor
open Go.RowKit Go.Hp
set_option maxHeartbeats 2000000 in
theorem z_b (n : Int) (w : World) (h1 : -4294967296 < n) (h2 : n < 4294967296) : Calls Tryd.prog 20 #[.int .i64 n] w (Gives w fun r w' => IsZ w' r n) := by
  go_enter Tryd.func20, Tryd.ntmps20
  by_cases hneg : n < 0
  · have hb : decide (n < 0) = true := by simpa using hneg
    have Hw := Lib.hid (wrap_neg (x := n) (by omega) hneg)
    obtain ⟨N, hN⟩ : ∃ N, N = n.natAbs := ⟨_, rfl⟩
    have HN := Lib.hid hN
    have hNb : N < 4294967296 := by omega
    clear hN
    go_wp2
    obtain ⟨W9, eW9, e9, x9⟩ := Box.made (w.alloc (.cells #[.bool false, .slice none 0 0] 28)) 28 #[.bool true, .slice none 0 0] (by simp [isDig])
    rw [← eW9]
    clear eW9
    rw [World.size_alloc] at e9
    go_loopw [3] (fun uv wx => ∃ m : Nat, uv = .int .u64 m ∧ m < 4294967296 ∧ ((m = N ∧ Box wx (w.heap.size + 1) 28 #[.bool true, .slice none 0 0]) ∨ (m = 0 ∧ N ≠ 0 ∧ ∃ A c, Box wx (w.heap.size + 1) 28 #[.bool true, .slice A 1 c] ∧ DigV wx (.slice A 1 c) [N])) ∧ Ext (w.alloc (.cells #[.bool false, .slice none 0 0] 28)) wx) (fun uv _ => (intOf uv).toNat)
    case atStart => exact ⟨N, by rw [Hw.out, HN.out], hNb, .inl ⟨rfl, e9⟩, x9⟩
    case round =>
      clear e9 x9
      obtain ⟨m, rfl, hm, hst, hx⟩ := hrel
      by_cases h0 : m = 0
      · have hr : ∃ A k c, Box wr (w.heap.size + 1) 28 #[.bool true, .slice A k c] ∧ IsZ wr (.agg #[.bool true, .slice A k c]) n := by
          rcases hst with ⟨e, hb⟩ | ⟨_, hne, A, c, hb, hd⟩
          · exact ⟨_, _, _, hb, by have h3 := HN.out; omega⟩
          · exact ⟨_, _, _, hb, IsZ.of_one hd hne (by have h3 := HN.out; (simp; omega))⟩
        obtain ⟨A5, n5, c5, ez, hr⟩ := hr
        have H0 := Lib.hid h0; clear h0
        have Hr := Lib.hid hr; clear hr hst
        have hm0 : ¬ (0 < (m : Int)) := by have := H0.out; omega
        obtain ⟨cez0, cez1⟩ := ez.cells2
        have fez := ez.frozen
        have hx1 := hx
        clear hx
        have hc1 := hx1.cells
        have hf1 := hx1.frozens
        have Hfin := Lib.hid (fin_z Hr.out hx1.a1 (NoDig.at_ hx1 (g := w.heap.size + 0) (by simp) (by simp [isDig])) (by omega))
        go_wp2
        refine bodyPost_ret (v := .agg #[.bool true, .slice A5 n5 c5]) (by simp [results, Tryd.results20, go_sem, hc1]) rfl ?_
        exact Hfin.out
      · obtain ⟨rfl, ez⟩ : m = N ∧ Box wr (w.heap.size + 1) 28 #[.bool true, .slice none 0 0] := by
          rcases hst with ⟨e, hb⟩ | ⟨e, _⟩
          · exact ⟨e, hb⟩
          · exact absurd e h0
        have hm0 : 0 < m := by omega
        have hsz : w.heap.size ≤ wr.heap.size := hx.a1.size
        clear hst
        obtain ⟨cez0, cez1⟩ := ez.cells2
        have fez := ez.frozen
        go_wp2_with (at_builtin; refine wpList_append_run rfl _ _ 26 rfl (.slice none 0 0) (.slice (some ⟨wr.heap.size, 0, none⟩) 1 1) rfl rfl (append_d wr w.heap.size _ _ [] m _ _ (OwnD.nil _ _) (by first | rfl | omega) (by simp) hsz rfl) ?_)
        rintro v' w5 hown hg
        have xa : Ext wr w5 := ((Ext.refl wr).alloc _).grown hg (fun k hk => by simp [Value.ownBlock] at hk)
        have hd := hown.digv (Digs.cons hm Digs.nil)
        have hd2 := hd
        obtain ⟨A5, c5, rfl, -, -, -⟩ := hd2
        clear hown hg
        have ez5 := ez.ext xa
        replace hx := hx.trans xa
        clear ez xa cez0 cez1 fez
        obtain ⟨cez50, cez51⟩ := ez5.cells2
        have fez5 := ez5.frozen
        have Hd := Lib.hid hd; clear hd
        have H0 := Lib.hid h0; clear h0
        go_wp2
        have eb := ez5.set_ 1 (u := .slice A5 1 c5) rfl
        have U := Upd.set_ ez5.nodig 1 (.slice A5 1 c5)
        replace hx := U.from_ hx (by simp)
        have Hdd := Lib.hid (show DigV _ _ _ from DigV.kd Hd.out U.kd)
        go_roundw
        case rel => exact ⟨0, by go_num, by omega, .inr ⟨rfl, H0.out, A5, c5, eb, Hdd.out⟩, hx⟩
        case measure => simp [intOf] <;> omega
  · have hb : decide (n < 0) = false := by simpa using hneg
    have Hw := Lib.hid (wrap_pos (x := n) (by omega) (by omega))
    obtain ⟨N, hN⟩ : ∃ N, N = n.natAbs := ⟨_, rfl⟩
    have HN := Lib.hid hN
    have hNb : N < 4294967296 := by omega
    clear hN
    go_wp2
    obtain ⟨W9, eW9, e9, x9⟩ := Box.made (w.alloc (.cells #[.bool false, .slice none 0 0] 28)) 28 #[.bool false, .slice none 0 0] (by simp [isDig])
    rw [← eW9]
    clear eW9
    rw [World.size_alloc] at e9
    go_loopw [3] (fun uv wx => ∃ m : Nat, uv = .int .u64 m ∧ m < 4294967296 ∧ ((m = N ∧ Box wx (w.heap.size + 1) 28 #[.bool false, .slice none 0 0]) ∨ (m = 0 ∧ N ≠ 0 ∧ ∃ A c, Box wx (w.heap.size + 1) 28 #[.bool false, .slice A 1 c] ∧ DigV wx (.slice A 1 c) [N])) ∧ Ext (w.alloc (.cells #[.bool false, .slice none 0 0] 28)) wx) (fun uv _ => (intOf uv).toNat)
    case atStart => exact ⟨N, by (congr 1; have h3 := HN.out; omega), hNb, .inl ⟨rfl, e9⟩, x9⟩
    case round =>
      clear e9 x9
      obtain ⟨m, rfl, hm, hst, hx⟩ := hrel
      by_cases h0 : m = 0
      · have hr : ∃ A k c, Box wr (w.heap.size + 1) 28 #[.bool false, .slice A k c] ∧ IsZ wr (.agg #[.bool false, .slice A k c]) n := by
          rcases hst with ⟨e, hb⟩ | ⟨_, hne, A, c, hb, hd⟩
          · exact ⟨_, _, _, hb, by have h3 := HN.out; (have e5 : n = 0 := by omega) ; rw [e5]; exact IsZ.of_nil⟩
          · exact ⟨_, _, _, hb, IsZ.of_one hd hne (by have h3 := HN.out; (simp; omega))⟩
        obtain ⟨A5, n5, c5, ez, hr⟩ := hr
        have H0 := Lib.hid h0; clear h0
        have Hr := Lib.hid hr; clear hr hst
        have hm0 : ¬ (0 < (m : Int)) := by have := H0.out; omega
        obtain ⟨cez0, cez1⟩ := ez.cells2
        have fez := ez.frozen
        have hx1 := hx
        clear hx
        have hc1 := hx1.cells
        have hf1 := hx1.frozens
        have Hfin := Lib.hid (fin_z Hr.out hx1.a1 (NoDig.at_ hx1 (g := w.heap.size + 0) (by simp) (by simp [isDig])) (by omega))
        go_wp2
        refine bodyPost_ret (v := .agg #[.bool false, .slice A5 n5 c5]) (by simp [results, Tryd.results20, go_sem, hc1]) rfl ?_
        exact Hfin.out
      · obtain ⟨rfl, ez⟩ : m = N ∧ Box wr (w.heap.size + 1) 28 #[.bool false, .slice none 0 0] := by
          rcases hst with ⟨e, hb⟩ | ⟨e, _⟩
          · exact ⟨e, hb⟩
          · exact absurd e h0
        have hm0 : 0 < m := by omega
        have hsz : w.heap.size ≤ wr.heap.size := hx.a1.size
        clear hst
        obtain ⟨cez0, cez1⟩ := ez.cells2
        have fez := ez.frozen
        go_wp2_with (at_builtin; refine wpList_append_run rfl _ _ 26 rfl (.slice none 0 0) (.slice (some ⟨wr.heap.size, 0, none⟩) 1 1) rfl rfl (append_d wr w.heap.size _ _ [] m _ _ (OwnD.nil _ _) (by first | rfl | omega) (by simp) hsz rfl) ?_)
        rintro v' w5 hown hg
        have xa : Ext wr w5 := ((Ext.refl wr).alloc _).grown hg (fun k hk => by simp [Value.ownBlock] at hk)
        have hd := hown.digv (Digs.cons hm Digs.nil)
        have hd2 := hd
        obtain ⟨A5, c5, rfl, -, -, -⟩ := hd2
        clear hown hg
        have ez5 := ez.ext xa
        replace hx := hx.trans xa
        clear ez xa cez0 cez1 fez
        obtain ⟨cez50, cez51⟩ := ez5.cells2
        have fez5 := ez5.frozen
        have Hd := Lib.hid hd; clear hd
        have H0 := Lib.hid h0; clear h0
        go_wp2
        have eb := ez5.set_ 1 (u := .slice A5 1 c5) rfl
        have U := Upd.set_ ez5.nodig 1 (.slice A5 1 c5)
        replace hx := U.from_ hx (by simp)
        have Hdd := Lib.hid (show DigV _ _ _ from DigV.kd Hd.out U.kd)
        go_roundw
        case rel => exact ⟨0, by go_num, by omega, .inr ⟨rfl, H0.out, A5, c5, eb, Hdd.out⟩, hx⟩
        case measure => simp [intOf] <;> omega
end Go.Proofs.YtfacbpnegkjcgaaDoor
namespace Go.Hp
open Go.RowKit
/-- A slice of ints. -/
def IntsV (w : World) (v : Value) (ns : List Int) : Prop := ∃ g c, v = .slice (some ⟨g, 0, none⟩) ns.length c ∧ ns.length ≤ c ∧ c ≤ 9223372036854775807 ∧ ∀ j (h : j < ns.length), w.cell? ⟨g, j, none⟩ = some (.int .i64 ns[j])
theorem IntsV.new (w : World) (t : TypeId) (ns : List Int) (h : ns.length ≤ 1000) : IntsV (w.alloc (.cells (ns.map fun n => Value.int .i64 n).toArray t)) (.slice (some ⟨w.heap.size, 0, none⟩) ns.length ns.length) ns :=
  ⟨_, _, rfl, Nat.le_refl _, by omega, fun j hj => by
    rw [cell_of_row _ w.heap.size j _ t (0, 0) (heap_alloc_new w _)]
    simp [hj]⟩
theorem QsV.at_ {base n c : Nat} {w : World} {A : Option Addr} {l : List Rat} (h : QsV base w (.slice A n c) l) {j : Nat} (hj : j < l.length) :
    ∃ g o b A1 n c b' A1' n' c', A = some ⟨g, o, none⟩ ∧ base ≤ g ∧ w.cell? ⟨g, o + j * 4, none⟩ = some (.bool b) ∧ w.cell? ⟨g, o + j * 4 + 1, none⟩ = some (.slice A1 n c) ∧ w.cell? ⟨g, o + j * 4 + 2, none⟩ = some (.bool b') ∧ w.cell? ⟨g, o + j * 4 + 3, none⟩ = some (.slice A1' n' c') ∧ IsQ w (.agg #[.bool b, .slice A1 n c, .bool b', .slice A1' n' c']) l[j] := by
  obtain ⟨A', c', e1, h2, h3, h4⟩ := h
  have e5 : A' = A := by injection e1 with h1; exact h1.symm
  subst e5
  exact QsAt.at_ h4 hj
end Go.Hp
namespace Go.Proofs.YtfacbpnegkjcgaaDoor
open Go.RowKit Go.Hp
end Go.Proofs.YtfacbpnegkjcgaaDoor
namespace Go.Hp
end Go.Hp
namespace Go.Proofs.YtfacbpnegkjcgaaDoor
open Go.RowKit Go.Hp
end Go.Proofs.YtfacbpnegkjcgaaDoor
namespace Go.Hp
open Go.RowKit
theorem TopR.of {l : List Rat} (h : co l (l.length - 1) ≠ 0) : TopR l := fun h0 => by rw [← co_lt]; exact h
end Go.Hp
namespace Go.Proofs.YtfacbpnegkjcgaaDoor
open Go.RowKit Go.Hp
end Go.Proofs.YtfacbpnegkjcgaaDoor
namespace Go.Hp
open Go.RowKit
theorem addr_add (b o i : Nat) : (⟨b, o, none⟩ : Addr).add i = ⟨b, o + i, none⟩ := by unfold Addr.add; split <;> simp_all
/-- A fraction as it stands: sign and digits of the numerator and of the denominator. -/
abbrev Raw := Bool × List Nat × Bool × List Nat
def RawQ (w : World) (v : Value) (x : Raw) : Prop := ∃ A n c A' n' c', v = .agg #[.bool x.1, .slice A n c, .bool x.2.2.1, .slice A' n' c'] ∧ DigV w (.slice A n c) x.2.1 ∧ DigV w (.slice A' n' c') x.2.2.2
/-- A slice of fractions as they stand. -/
def PolyV (w : World) (v : Value) (l : List Raw) : Prop := RowV 4 RawQ 0 w v l
theorem RawQ.ext {w w' : World} {v : Value} {x : Raw} (h : RawQ w v x) (e : Ext w w') : RawQ w' v x := by
  obtain ⟨A, n, c, A', n', c', h1, h2, h3⟩ := h; exact ⟨A, n, c, A', n', c', h1, h2.ext e, h3.ext e⟩
theorem PolyV.ext {w w' : World} {v : Value} {l : List Raw} (h : PolyV w v l) (e : Ext w w') : PolyV w' v l := RowV.ext h e fun _ _ q => q.ext e
/-- No number of more than two digits. -/
def Small (x : Raw) : Prop := x.2.1.length ≤ 2 ∧ x.2.2.2.length ≤ 2
def ratOf (x : Raw) : Rat := Rat.divInt (iv x.1 x.2.1) (iv x.2.2.1 x.2.2.2)
theorem iv_abs (b : Bool) (ds : List Nat) : (iv b ds).natAbs = nv ds := by unfold iv; cases b <;> simp
theorem sz_dig {w : World} {v : Value} {ds : List Nat} (h : DigV w v ds) : sz (nv ds) ≤ ds.length := by
  obtain ⟨_, _, _, _, _, hA⟩ := h
  exact sz_nv hA.1
theorem RawQ.has {w : World} {v : Value} {x : Raw} (h : RawQ w v x) (hs : Small x) : HasQ w v (ratOf x) ∧ qsz (ratOf x) ≤ 2 := by
  obtain ⟨A, n, c, A', n', c', rfl, h2, h3⟩ := h
  have s1 := sz_dig h2
  have s2 := sz_dig h3
  obtain ⟨k1, k2⟩ := hs
  have e1 := iv_abs x.1 x.2.1
  have e2 := iv_abs x.2.2.1 x.2.2.2
  exact ⟨⟨_, A, n, c, _, A', n', c', _, _, rfl, ⟨_, _, ⟨_, rfl, h2⟩, rfl, by omega⟩, ⟨_, _, ⟨_, rfl, h3⟩, rfl, by omega⟩, by rw [e1]; omega, by rw [e2]; omega, rfl⟩,
    qsz_divInt (by rw [e1]; omega) (by rw [e2]; omega) (by omega)⟩
theorem PolyV.has {w : World} {v : Value} {l : List Raw} (h : PolyV w v l) (hs : ∀ x ∈ l, Small x) : HsV 0 w v (l.map ratOf) := by
  obtain ⟨A, c, h1, h2, h3, h4⟩ := h
  refine ⟨A, c, by simpa using h1, by simpa using h2, h3, fun h0 => ?_⟩
  obtain ⟨g, o, q1, q2, q3⟩ := h4 (by simpa using h0)
  refine ⟨g, o, q1, q2, fun j hj => ?_⟩
  have hj' : j < l.length := by simpa using hj
  obtain ⟨cs, r1, r2, r3⟩ := q3 j hj'
  refine ⟨cs, r1, r2, ?_⟩
  rw [List.getElem_map]
  exact (r3.has (hs _ (List.getElem_mem hj'))).1
theorem PolyV.len {w : World} {v : Value} {l : List Raw} (h : PolyV w v l) : ∃ A c, v = .slice A l.length c ∧ l.length ≤ c ∧ c ≤ 9223372036854775807 := by
  obtain ⟨A, c, h1, h2, h3, h4⟩ := h; exact ⟨A, c, h1, h2, h3⟩
theorem PolyV.at_ {w : World} {A : Option Addr} {n c : Nat} {l : List Raw} (h : PolyV w (.slice A n c) l) {j : Nat} (hj : j < l.length) :
    ∃ g o A1 n c A1' n' c', A = some ⟨g, o, none⟩ ∧ w.cell? ⟨g, o + j * 4, none⟩ = some (.bool l[j].1) ∧ w.cell? ⟨g, o + j * 4 + 1, none⟩ = some (.slice A1 n c) ∧ w.cell? ⟨g, o + j * 4 + 2, none⟩ = some (.bool l[j].2.2.1) ∧ w.cell? ⟨g, o + j * 4 + 3, none⟩ = some (.slice A1' n' c') ∧ n = l[j].2.1.length ∧ n' = l[j].2.2.2.length := by
  obtain ⟨A', c', e1, h2, h3, h4⟩ := h
  have e5 : A' = A := by injection e1 with h1; exact h1.symm
  subst e5
  obtain ⟨g, o, ha, hb, hc⟩ := h4 (by omega)
  obtain ⟨cs, q1, q2, q3⟩ := hc j hj
  obtain ⟨A1, n1, c1, A2, n2, c2, e, d1, d2⟩ := q3
  obtain rfl := agg4 e
  obtain ⟨_, _, f1, _⟩ := d1
  obtain ⟨_, _, f2, _⟩ := d2
  exact ⟨g, o, A1, n1, c1, A2, n2, c2, ha, q2 0 (by omega), q2 1 (by omega), q2 2 (by omega), q2 3 (by omega), by injection f1, by injection f2⟩
end Go.Hp
namespace Go.Proofs.YtfacbpnegkjcgaaDoor
open Go.RowKit Go.Hp Go.Deep Go.ChangeShapes Go.ChangeAt
section
variable {H : Type} {enc : TypeId × Value → H} {w : World} {spare : Nat → Bool} {held : Bool}
theorem open_digs {fuel : Nat} {cs : List Value} {x : DataW H × List MemPlace} (h : DataW.trod enc Tryd.prog w 0 spare held fuel 26 cs = some x) : ∃ A n c ds, cs = [.slice A n c] ∧ DigV w (.slice A n c) ds := by
  rcases open_ints Tryd.underlying26 Tryd.underlying57 (by kernel_rfl) h with ⟨rfl, _⟩ | ⟨a, n, c, zs, rfl, _, hl, hm, hz, _, hcell, hwz⟩
  · exact ⟨none, 0, 0, [], rfl, none, 0, rfl, Nat.le_refl _, by omega, fun d hd => by simp at hd, fun h => by simp at h⟩
  · have hzl : n ≤ zs.length := by rw [hz]; split <;> omega
    have hw : ∀ z ∈ zs, 0 ≤ z ∧ z < 4294967296 := fun z hz => by
      have := hwz z hz
      simp [Lit.wf] at this
      have e1 : IntKind.u32.min = 0 := rfl
      have e2 : IntKind.u32.max = 4294967295 := rfl
      omega
    have hlen : ((zs.take n).map Int.toNat).length = n := by simp; omega
    refine ⟨some a, n, c, (zs.take n).map Int.toNat, rfl, some a, c, by rw [hlen], by rw [hlen]; exact hl, maxLen_le hm, ?_, fun _ => ⟨a, rfl, fun j hj => ?_⟩⟩
    · intro d hd
      obtain ⟨z, hz1, rfl⟩ := List.mem_map.1 hd
      have := hw z (List.mem_of_mem_take hz1)
      omega
    · rw [hlen] at hj
      have hjz : j < zs.length := by omega
      rw [hcell j hjz, List.getElem_map, List.getElem_take]
      have := hw zs[j] (List.getElem_mem hjz)
      rw [show zs.getD j 0 = zs[j] from by rw [List.getD_eq_getElem?_getD, List.getElem?_eq_getElem hjz]; rfl]
      congr 2; omega
set_option maxRecDepth 100000 in
theorem open_zraw {fuel : Nat} {cs : List Value} {x : DataW H × List MemPlace} (h : DataW.trod enc Tryd.prog w 0 spare held fuel 28 cs = some x) : ∃ b A n c ds, cs = [.bool b, .slice A n c] ∧ DigV w (.slice A n c) ds := by
  obtain ⟨y0, y1, n, _, hl, h0, h1⟩ := trod_struct2 Tryd.underlying28 h
  rw [show Tryd.prog.cellsOf 28 = 2 from by kernel_rfl] at hl
  match cs, hl with
  | [c0, c1], _ =>
    rw [show Tryd.prog.cellsOf 4 = 1 from by kernel_rfl] at h0
    rw [show Tryd.prog.cellsOf 26 = 1 from by kernel_rfl] at h1
    obtain ⟨b, e0, _⟩ := DataW.trod_bool Tryd.underlying4 h0
    obtain ⟨A, m, c, ds, e1, hd⟩ := open_digs h1
    simp at e0 e1
    subst e0 e1
    exact ⟨b, A, m, c, ds, rfl, hd⟩
end
end Go.Proofs.YtfacbpnegkjcgaaDoor
namespace Go.Hp
open Go.RowKit
/-- The cells of one point. -/
def HasPt (w : World) (v : Value) (p : Rat × Rat) : Prop :=
  ∃ b1 A1 n1 c1 b2 A2 n2 c2 b3 A3 n3 c3 b4 A4 n4 c4, v = .agg #[.bool b1, .slice A1 n1 c1, .bool b2, .slice A2 n2 c2, .bool b3, .slice A3 n3 c3, .bool b4, .slice A4 n4 c4] ∧
    HasQ w (.agg #[.bool b1, .slice A1 n1 c1, .bool b2, .slice A2 n2 c2]) p.1 ∧ HasQ w (.agg #[.bool b3, .slice A3 n3 c3, .bool b4, .slice A4 n4 c4]) p.2
theorem HasPt.ext {w w' : World} {v : Value} {p : Rat × Rat} (h : HasPt w v p) (e : Ext w w') : HasPt w' v p := by
  obtain ⟨b1, A1, n1, c1, b2, A2, n2, c2, b3, A3, n3, c3, b4, A4, n4, c4, h1, h2, h3⟩ := h
  exact ⟨b1, A1, n1, c1, b2, A2, n2, c2, b3, A3, n3, c3, b4, A4, n4, c4, h1, h2.ext e, h3.ext e⟩
def PtsV (w : World) (v : Value) (l : List (Rat × Rat)) : Prop := RowV 8 HasPt 0 w v l
def PtsAt (w : World) (A : Option Addr) (l : List (Rat × Rat)) : Prop := RowAt 8 HasPt 0 w A l
theorem PtsV.ext {w w' : World} {v : Value} {l : List (Rat × Rat)} (h : PtsV w v l) (e : Ext w w') : PtsV w' v l := RowV.ext h e fun _ _ q => q.ext e
theorem PtsAt.at_ {w : World} {A : Option Addr} {l : List (Rat × Rat)} (h : PtsAt w A l) {j : Nat} (hj : j < l.length) :
    ∃ g o b1 A1 n1 c1 b2 A2 n2 c2 b3 A3 n3 c3 b4 A4 n4 c4, A = some ⟨g, o, none⟩ ∧ w.cell? ⟨g, o + j * 8, none⟩ = some (.bool b1) ∧ w.cell? ⟨g, o + j * 8 + 1, none⟩ = some (.slice A1 n1 c1) ∧ w.cell? ⟨g, o + j * 8 + 2, none⟩ = some (.bool b2) ∧ w.cell? ⟨g, o + j * 8 + 3, none⟩ = some (.slice A2 n2 c2) ∧
      w.cell? ⟨g, o + j * 8 + 4, none⟩ = some (.bool b3) ∧ w.cell? ⟨g, o + j * 8 + 5, none⟩ = some (.slice A3 n3 c3) ∧ w.cell? ⟨g, o + j * 8 + 6, none⟩ = some (.bool b4) ∧ w.cell? ⟨g, o + j * 8 + 7, none⟩ = some (.slice A4 n4 c4) ∧
      HasQ w (.agg #[.bool b1, .slice A1 n1 c1, .bool b2, .slice A2 n2 c2]) l[j].1 ∧ HasQ w (.agg #[.bool b3, .slice A3 n3 c3, .bool b4, .slice A4 n4 c4]) l[j].2 := by
  obtain ⟨g, o, ha, hb, hc⟩ := h (by omega)
  obtain ⟨cs, q1, q2, q3⟩ := hc j hj
  obtain ⟨b1, A1, n1, c1, b2, A2, n2, c2, b3, A3, n3, c3, b4, A4, n4, c4, e, h1, h2⟩ := q3
  obtain rfl : cs = #[.bool b1, .slice A1 n1 c1, .bool b2, .slice A2 n2 c2, .bool b3, .slice A3 n3 c3, .bool b4, .slice A4 n4 c4] := by injection e
  exact ⟨g, o, b1, A1, n1, c1, b2, A2, n2, c2, b3, A3, n3, c3, b4, A4, n4, c4, ha, q2 0 (by omega), q2 1 (by omega), q2 2 (by omega), q2 3 (by omega), q2 4 (by omega), q2 5 (by omega), q2 6 (by omega), q2 7 (by omega), h1, h2⟩
theorem PtsV.len {w : World} {v : Value} {l : List (Rat × Rat)} (h : PtsV w v l) : ∃ A c, v = .slice A l.length c ∧ l.length ≤ c ∧ c ≤ 9223372036854775807 ∧ PtsAt w A l := h
def px (l : List (Rat × Rat)) (i : Nat) : Rat := (l.getD i (0, 0)).1
def py (l : List (Rat × Rat)) (i : Nat) : Rat := (l.getD i (0, 0)).2
theorem px_lt {l : List (Rat × Rat)} {i : Nat} (h : i < l.length) : px l i = l[i].1 := by unfold px; rw [List.getD_eq_getElem?_getD, List.getElem?_eq_getElem h]; rfl
theorem py_lt {l : List (Rat × Rat)} {i : Nat} (h : i < l.length) : py l i = l[i].2 := by unfold py; rw [List.getD_eq_getElem?_getD, List.getElem?_eq_getElem h]; rfl
/-- No two of the first n are equal: told one by one. -/
theorem Apart.step {X : Nat → Rat} {n : Nat} (h : Apart X n) (k : ∀ j, j < n → X n ≠ X j) : Apart X (n + 1) := fun i j hi hj => by
  rcases Nat.lt_or_ge i n with l | l
  · exact h i j l hj
  · obtain rfl : i = n := by omega
    exact k j hj
end Go.Hp
namespace Go.Hp
open Go.RowKit
/-- An integer as it stands: sign and digits. -/
abbrev RawI := Bool × List Nat
def RawZ (w : World) (v : Value) (x : RawI) : Prop := IntV w v x.1 x.2
theorem RawZ.ext {w w' : World} {v : Value} {x : RawI} (h : RawZ w v x) (e : Ext w w') : RawZ w' v x := by
  obtain ⟨u, h1, h2⟩ := h; exact ⟨u, h1, h2.ext e⟩
/-- A slice of integers as they stand. -/
def ZPolyV (w : World) (v : Value) (l : List RawI) : Prop := RowV 2 RawZ 0 w v l
theorem ZPolyV.ext {w w' : World} {v : Value} {l : List RawI} (h : ZPolyV w v l) (e : Ext w w') : ZPolyV w' v l := RowV.ext h e fun _ _ q => q.ext e
/-- A point as it stands. -/
abbrev RawPt := Raw × Raw
def RawP2 (w : World) (v : Value) (x : RawPt) : Prop :=
  ∃ b1 A1 n1 c1 b2 A2 n2 c2 b3 A3 n3 c3 b4 A4 n4 c4, v = .agg #[.bool b1, .slice A1 n1 c1, .bool b2, .slice A2 n2 c2, .bool b3, .slice A3 n3 c3, .bool b4, .slice A4 n4 c4] ∧
    RawQ w (.agg #[.bool b1, .slice A1 n1 c1, .bool b2, .slice A2 n2 c2]) x.1 ∧ RawQ w (.agg #[.bool b3, .slice A3 n3 c3, .bool b4, .slice A4 n4 c4]) x.2
theorem RawP2.ext {w w' : World} {v : Value} {x : RawPt} (h : RawP2 w v x) (e : Ext w w') : RawP2 w' v x := by
  obtain ⟨b1, A1, n1, c1, b2, A2, n2, c2, b3, A3, n3, c3, b4, A4, n4, c4, h1, h2, h3⟩ := h
  exact ⟨b1, A1, n1, c1, b2, A2, n2, c2, b3, A3, n3, c3, b4, A4, n4, c4, h1, h2.ext e, h3.ext e⟩
def PointsV (w : World) (v : Value) (l : List RawPt) : Prop := RowV 8 RawP2 0 w v l
def PointsAt (w : World) (A : Option Addr) (l : List RawPt) : Prop := RowAt 8 RawP2 0 w A l
theorem PointsV.ext {w w' : World} {v : Value} {l : List RawPt} (h : PointsV w v l) (e : Ext w w') : PointsV w' v l := RowV.ext h e fun _ _ q => q.ext e
theorem PointsAt.at_ {w : World} {A : Option Addr} {l : List RawPt} (h : PointsAt w A l) {j : Nat} (hj : j < l.length) :
    ∃ g o b1 A1 n1 c1 b2 A2 n2 c2 b3 A3 n3 c3 b4 A4 n4 c4, A = some ⟨g, o, none⟩ ∧ w.cell? ⟨g, o + j * 8, none⟩ = some (.bool b1) ∧ w.cell? ⟨g, o + j * 8 + 1, none⟩ = some (.slice A1 n1 c1) ∧ w.cell? ⟨g, o + j * 8 + 2, none⟩ = some (.bool b2) ∧ w.cell? ⟨g, o + j * 8 + 3, none⟩ = some (.slice A2 n2 c2) ∧
      w.cell? ⟨g, o + j * 8 + 4, none⟩ = some (.bool b3) ∧ w.cell? ⟨g, o + j * 8 + 5, none⟩ = some (.slice A3 n3 c3) ∧ w.cell? ⟨g, o + j * 8 + 6, none⟩ = some (.bool b4) ∧ w.cell? ⟨g, o + j * 8 + 7, none⟩ = some (.slice A4 n4 c4) ∧
      RawQ w (.agg #[.bool b1, .slice A1 n1 c1, .bool b2, .slice A2 n2 c2]) l[j].1 ∧ RawQ w (.agg #[.bool b3, .slice A3 n3 c3, .bool b4, .slice A4 n4 c4]) l[j].2 := by
  obtain ⟨g, o, ha, hb, hc⟩ := h (by omega)
  obtain ⟨cs, q1, q2, q3⟩ := hc j hj
  obtain ⟨b1, A1, n1, c1, b2, A2, n2, c2, b3, A3, n3, c3, b4, A4, n4, c4, e, h1, h2⟩ := q3
  obtain rfl : cs = #[.bool b1, .slice A1 n1 c1, .bool b2, .slice A2 n2 c2, .bool b3, .slice A3 n3 c3, .bool b4, .slice A4 n4 c4] := by injection e
  exact ⟨g, o, b1, A1, n1, c1, b2, A2, n2, c2, b3, A3, n3, c3, b4, A4, n4, c4, ha, q2 0 (by omega), q2 1 (by omega), q2 2 (by omega), q2 3 (by omega), q2 4 (by omega), q2 5 (by omega), q2 6 (by omega), q2 7 (by omega), h1, h2⟩
/-- Small points read as points. -/
def SmallP (x : RawPt) : Prop := Small x.1 ∧ Small x.2
def ptOf (x : RawPt) : Rat × Rat := (ratOf x.1, ratOf x.2)
theorem PointsV.has {w : World} {v : Value} {l : List RawPt} (h : PointsV w v l) (hs : ∀ x ∈ l, SmallP x) : PtsV w v (l.map ptOf) ∧ (∀ i, i < l.length → qsz (px (l.map ptOf) i) ≤ 2 ∧ qsz (py (l.map ptOf) i) ≤ 2) := by
  obtain ⟨A, c, h1, h2, h3, h4⟩ := h
  refine ⟨⟨A, c, by simpa using h1, by simpa using h2, h3, fun h0 => ?_⟩, fun i hi => ?_⟩
  · obtain ⟨g, o, q1, q2, q3⟩ := h4 (by simpa using h0)
    refine ⟨g, o, q1, q2, fun j hj => ?_⟩
    have hj' : j < l.length := by simpa using hj
    obtain ⟨cs, r1, r2, b1, A1, n1, c1, b2, A2, n2, c2, b3, A3, n3, c3, b4, A4, n4, c4, e, k1, k2⟩ := q3 j hj'
    refine ⟨cs, r1, r2, ?_⟩
    rw [List.getElem_map]
    have hsm := hs _ (List.getElem_mem hj')
    exact ⟨b1, A1, n1, c1, b2, A2, n2, c2, b3, A3, n3, c3, b4, A4, n4, c4, e, (k1.has hsm.1).1, (k2.has hsm.2).1⟩
  · obtain ⟨g, o, q1, q2, q3⟩ := h4 (by omega)
    obtain ⟨cs, r1, r2, b1, A1, n1, c1, b2, A2, n2, c2, b3, A3, n3, c3, b4, A4, n4, c4, e, k1, k2⟩ := q3 i hi
    have hsm := hs _ (List.getElem_mem hi)
    rw [px_lt (by simpa using hi), py_lt (by simpa using hi), List.getElem_map]
    exact ⟨(k1.has hsm.1).2, (k2.has hsm.2).2⟩
end Go.Hp
namespace Go.Proofs.YtfacbpnegkjcgaaDoor
open Go.RowKit Go.Hp Go.Deep Go.ChangeShapes Go.ChangeAt
section
variable {H : Type} {enc : TypeId × Value → H} {w : World} {spare : Nat → Bool} {held : Bool}
/-- A slice of structs of k cells: told by what one struct reads as. -/
theorem open_rows {α : Type} {k E : Nat} (hk : 0 < k) {rd : World → Value → α → Prop} (hsz : Tryd.prog.cellsOf E = k)
    (hop : ∀ {fuel : Nat} {cs : List Value} {x : DataW H × List MemPlace}, DataW.trod enc Tryd.prog w 0 spare held fuel E cs = some x → ∃ r : α, ∃ cs' : Array Value, cs = cs'.toList ∧ cs'.size = k ∧ rd w (.agg cs') r)
    {T fuel : Nat} {v : Value} {x : DataW H × List MemPlace} (hT : Tryd.prog.underlying T = some (.slice E)) (h : DataW.trod enc Tryd.prog w 0 spare held fuel T v.cells.toList = some x) (hv : ∃ a n c, v = .slice a n c) : ∃ l : List α, RowV k rd 0 w v l := by
  obtain ⟨a0, n0, c0, rfl⟩ := hv
  rcases open_slice hT h with ⟨hcs, _⟩ | ⟨a, n, c, m, k', D, Pl, hcs, _, hl, hm, hmm, _, hel⟩
  · simp [Value.cells] at hcs
    obtain ⟨rfl, rfl, rfl⟩ := hcs
    exact ⟨[], RowV.nil k rd 0 w⟩
  · simp [Value.cells] at hcs
    obtain ⟨rfl, rfl, rfl⟩ := hcs
    have hnm : n0 ≤ m := by rw [hmm]; split <;> omega
    rw [hsz] at hel
    have key : ∀ i, i < n0 → ∃ r : α, ∃ cs : Array Value, cs.size = k ∧ (∀ j, j < k → w.cell? ((a.add (i * k)).add j) = cs[j]?) ∧ rd w (.agg cs) r := fun i hi => by
      obtain ⟨cs', h1, h2⟩ := hel i (by omega)
      obtain ⟨r, cs, rfl, h3, h4⟩ := hop h2
      obtain ⟨_, h5, h6⟩ := World.cells?_some h1
      exact ⟨r, cs, h3, fun j hj => by rw [h6 j hj]; simp, h4⟩
    have hc : ∀ n', n' ≤ n0 → ∃ l : List α, l.length = n' ∧ ∀ i (h : i < l.length), ∃ cs : Array Value, cs.size = k ∧ (∀ j, j < k → w.cell? ((a.add (i * k)).add j) = cs[j]?) ∧ rd w (.agg cs) l[i] := by
      intro n'
      induction n' with
      | zero => intro _; exact ⟨[], rfl, fun i h => by simp at h⟩
      | succ n' ih =>
        intro hn
        obtain ⟨l, hl1, hl2⟩ := ih (by omega)
        obtain ⟨r, cs, k1, k2, k3⟩ := key n' (by omega)
        refine ⟨l ++ [r], by simp [hl1], fun i hi => ?_⟩
        rcases Nat.lt_or_ge i l.length with h' | h'
        · rw [List.getElem_append_left h']; exact hl2 i h'
        · have e : i = n' := by simp at hi; omega
          subst e
          refine ⟨cs, k1, k2, ?_⟩
          rw [List.getElem_append_right h']
          simpa [hl1] using k3
    obtain ⟨l, hl1, hl2⟩ := hc n0 (Nat.le_refl _)
    refine ⟨l, some a, c0, by rw [hl1], by omega, maxLen_le hm, fun h0 => ?_⟩
    obtain ⟨b, off, spot⟩ := a
    obtain ⟨cs, k1, k2, k3⟩ := hl2 0 h0
    have hs : spot = none := by
      have := k2 0 hk
      rw [Array.getElem?_eq_getElem (by omega)] at this
      simpa [Addr.add] using World.cell?_spot this
    subst hs
    refine ⟨b, off, rfl, Nat.zero_le _, fun j hj => ?_⟩
    obtain ⟨cs, k1, k2, k3⟩ := hl2 j hj
    refine ⟨cs, k1, fun i hi => ?_, k3⟩
    rw [← k2 i hi, addr_add, addr_add]
set_option maxRecDepth 100000 in
theorem open_zp {fuel : Nat} {cs : List Value} {x : DataW H × List MemPlace} (h : DataW.trod enc Tryd.prog w 0 spare held fuel 28 cs = some x) : ∃ r : RawI, ∃ cs' : Array Value, cs = cs'.toList ∧ cs'.size = 2 ∧ RawZ w (.agg cs') r := by
  obtain ⟨b, A, n, c, ds, rfl, hd⟩ := open_zraw h
  exact ⟨(b, ds), #[.bool b, .slice A n c], rfl, rfl, _, rfl, hd⟩
theorem open_zpoly {T fuel : Nat} {v : Value} {x : DataW H × List MemPlace} (hT : Tryd.prog.underlying T = some (.slice 28)) (h : DataW.trod enc Tryd.prog w 0 spare held fuel T v.cells.toList = some x) (hv : ∃ a n c, v = .slice a n c) : ∃ l : List RawI, ZPolyV w v l :=
  open_rows (by decide) (by kernel_rfl) (fun h => open_zp h) hT h hv
end
end Go.Proofs.YtfacbpnegkjcgaaDoor
namespace Go.Hp
open Go.RowKit
/-- The integer that a raw one stands for. -/
def zOf (x : RawI) : Int := iv x.1 x.2
theorem RawZ.has {w : World} {v : Value} {x : RawI} (h : RawZ w v x) (hs : x.2.length ≤ 1099511627776) : HasZ w v (zOf x) ∧ sz (zOf x).natAbs ≤ x.2.length := by
  have h' := h
  obtain ⟨s, rfl, hd⟩ := h'
  refine ⟨⟨x.1, x.2, h, rfl, hs⟩, ?_⟩
  have := sz_dig hd
  unfold zOf; rw [iv_abs]; exact this
theorem ZPolyV.len {w : World} {v : Value} {l : List RawI} (h : ZPolyV w v l) : ∃ A c, v = .slice A l.length c ∧ l.length ≤ c ∧ c ≤ 9223372036854775807 := by
  obtain ⟨A, c, h1, h2, h3, h4⟩ := h; exact ⟨A, c, h1, h2, h3⟩
theorem ZPolyV.at_ {w : World} {A : Option Addr} {n c : Nat} {l : List RawI} (h : ZPolyV w (.slice A n c) l) {j : Nat} (hj : j < l.length) :
    ∃ g o A1 c, A = some ⟨g, o, none⟩ ∧ w.cell? ⟨g, o + j * 2, none⟩ = some (.bool l[j].1) ∧ w.cell? ⟨g, o + j * 2 + 1, none⟩ = some (.slice A1 l[j].2.length c) ∧ RawZ w (.agg #[.bool l[j].1, .slice A1 l[j].2.length c]) l[j] := by
  obtain ⟨A', c', e1, h2, h3, h4⟩ := h
  have e5 : A' = A := by injection e1 with h1; exact h1.symm
  subst e5
  obtain ⟨g, o, q1, q2, q3⟩ := h4 (by omega)
  obtain ⟨cs, r1, r2, r3⟩ := q3 j hj
  have hr := r3
  obtain ⟨s, e, A1, c1, e2, k⟩ := r3
  subst e2
  have e := agg2 e
  subst e
  exact ⟨g, o, A1, c1, q1, r2 0 (by omega), r2 1 (by omega), hr⟩
theorem ZPolyV.has {w : World} {v : Value} {l : List RawI} {d : Nat} (h : ZPolyV w v l) (hs : ∀ x ∈ l, x.2.length ≤ d) (hd : d ≤ 1099511627776 := by omega) : HzV 0 w v (l.map zOf) ∧ ∀ x ∈ l.map zOf, sz x.natAbs ≤ d := by
  obtain ⟨A, c, h1, h2, h3, h4⟩ := h
  have key : ∀ j (hj : j < l.length), ∃ cs : Array Value, cs.size = 2 ∧ RawZ w (.agg cs) l[j] := fun j hj => by
    obtain ⟨g, o, q1, q2, q3⟩ := h4 (by omega)
    obtain ⟨cs, r1, r2, r3⟩ := q3 j hj
    exact ⟨cs, r1, r3⟩
  refine ⟨⟨A, c, by simpa using h1, by simpa using h2, h3, fun h0 => ?_⟩, fun x hx => ?_⟩
  · obtain ⟨g, o, q1, q2, q3⟩ := h4 (by simpa using h0)
    refine ⟨g, o, q1, q2, fun j hj => ?_⟩
    have hj' : j < l.length := by simpa using hj
    obtain ⟨cs, r1, r2, r3⟩ := q3 j hj'
    refine ⟨cs, r1, r2, ?_⟩
    rw [List.getElem_map]
    exact (r3.has (Nat.le_trans (hs _ (List.getElem_mem hj')) hd)).1
  · obtain ⟨y, hy, rfl⟩ := List.mem_map.1 hx
    obtain ⟨j, hj, rfl⟩ := List.getElem_of_mem hy
    obtain ⟨cs, -, r3⟩ := key j hj
    have := hs _ (List.getElem_mem hj)
    exact Nat.le_trans (r3.has (by omega)).2 this
theorem ZPolyV.qsz {w : World} {v : Value} {l : List RawI} {d : Nat} (h : ZPolyV w v l) (hs : ∀ x ∈ l, x.2.length ≤ d) (hd : d ≤ 1099511627776 := by omega) (h1 : 1 ≤ d := by omega) (i : Nat) : qsz (cz (l.map zOf) i) ≤ d := cz_qsz (h.has hs hd).2 h1 i
end Go.Hp
namespace Go.Hp
open Go.RowKit
theorem lzf_succ (k : Nat) (F : Nat → Rat) : lzf (k + 1) F = lzf k F ++ [(F k).num] := by simp [lzf, List.range_succ]
theorem small_lenz {n : Nat} (h : n ≤ 1099511627776) : n + 1 ≤ maxLen := by simp only [maxLen]; omega
theorem lzf_cz (l : List Int) : lzf l.length (cz l) = l := by
  apply List.ext_getElem
  · rw [lzf_len]
  · intro i h1 h2; rw [lzf_get, cz_lt h2]; rfl
end Go.Hp
namespace Go.Proofs.YtfacbpnegkjcgaaDoor
open Go.RowKit Go.Hp
theorem append_rz (W : World) (base ty g : Nat) (v : Value) (l : List Int) (q : Int) {b : Bool} {A : Option Addr} {n c : Nat} (h : OwnZ base 28 W v l) (hq : IsZ W (.agg #[.bool b, .slice A n c]) q) (hn : l.length ≤ 1099511627776) (hb : base ≤ W.heap.size) (hg : g = W.heap.size) :
    ∃ v' w', (Builtin.append_ #[22, 22] ty #[v, .slice (some ⟨g, 0, none⟩) 1 1]).run Tryd.prog (W.alloc (.cells #[.bool b, .slice A n c] 28)) = .ok v' w' ∧ (OwnZ base 28 w' v' (l ++ [q]) ∧ Upd (blk v) (W.alloc (.cells #[.bool b, .slice A n c] 28)) w') := by
  subst hg
  obtain ⟨g, cs, e1, h1, h2, h3, h4⟩ := NewZ.mk hq (base := W.heap.size) (Nat.le_refl _) 28
  cases e1
  obtain ⟨i0, hi, hz0, hz1, hz2⟩ := info_parts info_int
  have ho := IsZ.one h4
  have hx := (Ext.refl W).alloc (.cells #[.bool b, .slice A n c] 28)
  obtain ⟨v', w', a, b, c⟩ := OwnR.append (P := Tryd.prog) (h.ext hx) 22 ty i0 _ 32 Tryd.underlying22 hi hz0 hz1 hz2 rfl (by simp [nodig, isDig, Value.cells]) (by decide) ⟨W.heap.size, 0, none⟩ 1 cs h3 h4 h2.news ho.1 ho.2.1 (small_lenz hn) (by omega) (Nat.le_trans hb hx.size) (fun _ _ _ k hq => IsZ.kd hq k)
  exact ⟨v', w', a, b, c⟩
set_option maxHeartbeats 1000000 in
theorem normal_rz (v : Value) (l : List Int) (w : World) (hv : HzV 0 w v l) (hn : l.length ≤ 1099511627776) : Calls Tryd.prog 34 #[v] w (Gives w fun r w' => IsZP w.heap.size w' r (cz l)) := by
  have hqs := hv.sz
  obtain ⟨A, c, rfl, hl, hc, hA⟩ := hv
  have HA : Hid (HzAt 0 w A l) := Lib.hid hA; clear hA
  have HQ := Lib.hid hqs; clear hqs
  go_enter Tryd.func34, Tryd.ntmps34
  go_wp2
  go_loopw [3, 4] (fun ov iv wr => ∃ (k : Nat), k ≤ l.length ∧ iv = .int .i64 k ∧ OwnZ w.heap.size 28 wr ov (lzf k (cz l)) ∧ Ext w wr) (fun _ iv _ => l.length - (intOf iv).toNat)
  case atStart => exact ⟨0, Nat.zero_le _, rfl, OwnR.nil _ _ _ _ _, Ext.refl _⟩
  case round =>
    obtain ⟨k, hk, rfl, hown, hx⟩ := hrel
    by_cases hkl : k < l.length
    · obtain ⟨g, o, b, A1, n, c1, rfl, _, q0, q1, hq⟩ := HA.out.at_ (j := k) hkl
      replace q0 := hx.cell q0
      replace q1 := hx.cell q1
      have Hq := Lib.hid (hq.kd hx.kd); clear hq
      go_wp2_with fail
      refine Calls.mono (norm_r _ _ _ Hq.out) ?_
      rintro e w2 ⟨r, rfl, hr, hx2⟩
      obtain ⟨b5, A5, n5, c5, rfl⟩ := hr.cells
      have Hr := Lib.hid hr; clear hr
      replace hown := hown.ext hx2
      replace hx := hx.trans hx2
      have Hown := Lib.hid hown; clear hown
      have hsz := hx.size
      clear hx2 q0 q1 Hq
      go_wp2_with (at_builtin; refine wpList_append_run rfl _ _ 22 rfl u3 (.slice (some ⟨w2.heap.size, 0, none⟩) 1 1) rfl rfl (append_rz w2 w.heap.size _ _ _ _ _ Hown.out Hr.out (by first | (rw [lzf_len]; omega) | omega) hsz rfl) ?_)
      first | intro v' w5 hown U | rintro v' w5 ⟨hown, U⟩
      replace hx := (Hown.out.ext ((Ext.refl w2).alloc _)).from_ U (hx.alloc _) (Nat.le_refl _)
      have Hown' := Lib.hid hown; clear hown U
      go_wp2
      go_roundw
      case rel => exact ⟨k + 1, by omega, by go_num, by rw [lzf_succ, cz_lt hkl]; exact Hown'.out, hx⟩
      case measure => simp [intOf] <;> omega
    · obtain rfl : k = l.length := by omega
      rw [lzf_cz] at hown
      obtain ⟨A2, c2, rfl, h2, h3, h4⟩ := OwnZ.row hown
      have Hrow : Hid (ZsAt w.heap.size wr A2 l) := Lib.hid h4; clear h4 hown
      have hx0 := hx
      go_wp2
      clear hx
      go_loopw [5] (fun nv wx => ∃ m : Nat, m ≤ l.length ∧ nv = .int .i64 m ∧ (∀ j, m ≤ j → (h : j < l.length) → l[j] = 0) ∧ Ext wr wx) (fun nv _ => (intOf nv).toNat)
      case atStart => exact ⟨l.length, Nat.le_refl _, rfl, fun j h1 h2 => by omega, Ext.refl _⟩
      case round =>
        obtain ⟨m, hm, rfl, hz, hx⟩ := hrel
        have Hz := Lib.hid hz; clear hz
        by_cases h0 : 0 < m
        · obtain ⟨m, rfl⟩ : ∃ k, m = k + 1 := ⟨m - 1, by omega⟩
          have hml : m < l.length := by omega
          have Hrow' : Hid (ZsAt w.heap.size _ A2 l) := Lib.hid Hrow.out
          obtain ⟨g, o, b, A1, n, c1, rfl, hb, q0, q1, hq⟩ := Hrow'.out.at_ (j := m) hml
          replace q0 := hx.cell q0
          replace q1 := hx.cell q1
          have Hq := Lib.hid ((hq.has (HQ.out _ (List.getElem_mem hml))).kd hx.kd); clear hq
          go_wp2_with fail
          refine Calls.mono (sign_r _ l[m] _ Hq.out) ?_
          rintro e w2 ⟨r, rfl, rfl, hx2⟩
          by_cases hd0 : l[m]'(by omega) = 0
          · have hb : (l[m].sign == 0) = true := by rw [hd0]; rfl
            have Hd := Lib.hid hd0; clear hd0
            go_wp2
            go_roundw
            case rel => exact ⟨m, by omega, by go_num, fun j h1 h2 => by
              rcases Nat.eq_or_lt_of_le h1 with e | e
              · subst e; exact Hd.out
              · exact Hz.out j (by omega) h2, hx.trans hx2⟩
            case measure => simp [intOf] <;> omega
          · have hb : (l[m].sign == 0) = false := by
              have : l[m].sign ≠ 0 := fun e => hd0 (Int.sign_eq_zero_iff_zero.1 e)
              simpa using this
            have Hd := Lib.hid hd0; clear hd0
            go_wp2
            go_ret
            have hlen := trimZ_take hm Hz.out (fun h _ => by simpa using Hd.out)
            have hR := (ZsV.trim (Hrow.out.ext (hx.trans hx2)) h2 h3)
            rw [hlen] at hR
            exact Gives.mk (IsZP.of_trim hR rfl) ((hx0.trans hx).trans hx2)
        · obtain rfl : m = 0 := by omega
          have hlen := trimZ_take hm Hz.out (fun h hh => by omega)
          have hR := (ZsV.trim (Hrow.out.ext hx) h2 h3)
          rw [hlen] at hR
          have HR := Lib.hid (And.intro hR hlen); clear hR hlen
          go_wp2
          go_ret
          exact Gives.mk (IsZP.of_trim HR.out.1 rfl) (hx0.trans hx)
theorem degree_rz (v : Value) (l : List Int) (w : World) (hv : HzV 0 w v l) (hn : l.length ≤ 1099511627776) : Calls Tryd.prog 11 #[v] w (Gives w fun r _ => r = .int .i64 ((pl (cz l) : Int) - 1)) := by
  have HV := Lib.hid hv
  obtain ⟨A, c, rfl⟩ := hv.len
  clear hv
  have hpl : pl (cz l) ≤ l.length := pl_le (cz_sup l)
  go_enter Tryd.func11, Tryd.ntmps11
  go_wp2_with fail
  refine Calls.mono (normal_rz _ l _ HV.out hn) ?_
  rintro e w1 ⟨r, rfl, hr, hx1⟩
  obtain ⟨A2, c2, rfl, -⟩ := hr.shape
  clear hr
  go_wp2
  go_ret
  exact Gives.mk rfl hx1
end Go.Proofs.YtfacbpnegkjcgaaDoor
namespace Go.Hp
open Go.RowKit
/-- The slices that long is handed. -/
def ListsZ (w : World) (g : Nat) (vs : List (Value × List RawI)) : Prop := ∀ j (h : j < vs.length), w.cell? ⟨g, j, none⟩ = some vs[j].1 ∧ ZPolyV w vs[j].1 vs[j].2
/-- What long answers. -/
def LongZ (most d : Nat) (vs : List (Value × List RawI)) (w : World) (e : Ending) (w' : World) : Prop := w = w' ∧ ∃ b : Bool, e = .returned (.bool b) ∧ (b = false → ∀ p ∈ vs, p.2.length ≤ most ∧ ∀ x ∈ p.2, x.2.length ≤ d)
def FineZ (most d : Nat) (l : List RawI) : Prop := l.length ≤ most ∧ ∀ x ∈ l, x.2.length ≤ d
theorem listsZ_three (w : World) (t : TypeId) {v u z : Value} {l m k : List RawI} (h1 : ZPolyV w v l) (h2 : ZPolyV w u m) (h3 : ZPolyV w z k) {g : Nat} (hg : g = w.heap.size) : ListsZ (w.alloc (.cells #[v, u, z] t)) g [(v, l), (u, m), (z, k)] := by
  subst hg
  intro j hj
  have hj2 : j < 3 := by simpa using hj
  match j, hj2 with
  | 0, _ => exact ⟨by rw [cell_of_row _ w.heap.size 0 _ t (0, 0) (heap_alloc_new w _)]; rfl, h1.ext ((Ext.refl w).alloc _)⟩
  | 1, _ => exact ⟨by rw [cell_of_row _ w.heap.size 1 _ t (0, 0) (heap_alloc_new w _)]; rfl, h2.ext ((Ext.refl w).alloc _)⟩
  | 2, _ => exact ⟨by rw [cell_of_row _ w.heap.size 2 _ t (0, 0) (heap_alloc_new w _)]; rfl, h3.ext ((Ext.refl w).alloc _)⟩
end Go.Hp
namespace Go.Proofs.YtfacbpnegkjcgaaDoor
open Go.RowKit Go.Hp
set_option maxRecDepth 20000 in
set_option maxHeartbeats 1000000 in
theorem zs_b (v : Value) (ns : List Int) (w : World) (hv : IntsV w v ns) (hn : ns.length ≤ 1000) (hs : ∀ n ∈ ns, -4294967296 < n ∧ n < 4294967296) : Calls Tryd.prog 19 #[v] w (Gives w fun r w' => ZsV w.heap.size w' r ns) := by
  obtain ⟨g, c, rfl, h1, h2, h3⟩ := hv
  have H3 := Lib.hid (And.intro h3 hs); clear h3 hs
  go_enter Tryd.func19, Tryd.ntmps19
  go_wp2
  go_loopw [3, 4] (fun ov iv wr => ∃ (k : Nat), k ≤ ns.length ∧ iv = .int .i64 k ∧ OwnZ w.heap.size 28 wr ov (ns.take k) ∧ Ext w wr) (fun _ iv _ => ns.length - (intOf iv).toNat)
  case atStart => exact ⟨0, Nat.zero_le _, rfl, OwnR.nil _ _ _ _ _, Ext.refl _⟩
  case round =>
    obtain ⟨k, hk, rfl, hown, hx⟩ := hrel
    have Hown0 := Lib.hid hown; clear hown
    by_cases hkl : k < ns.length
    · have q0 := hx.cell (H3.out.1 k hkl)
      obtain ⟨m, hm⟩ : ∃ m, m = ns[k] := ⟨_, rfl⟩
      rw [← hm] at q0
      have hb := H3.out.2 ns[k] (List.getElem_mem hkl)
      rw [← hm] at hb
      have Hm := Lib.hid hm; clear hm
      go_wp2_with fail
      refine Calls.mono (z_b m _ hb.1 hb.2) ?_
      rintro e w2 ⟨r, rfl, hr, hx2⟩
      obtain ⟨b5, A5, n5, c5, rfl⟩ := hr.cells
      have Hr := Lib.hid hr; clear hr
      have hown := Hown0.out.ext hx2
      have Hown := Lib.hid hown; clear hown
      replace hx := hx.trans hx2
      have hsz := hx.size
      have hlk : (ns.take k).length ≤ 1000 := Nat.le_trans (List.length_take_le _ _) (by omega)
      clear hx2 q0 Hown0
      go_wp2_with (at_builtin; refine wpList_append_run rfl _ _ 22 rfl u3 (.slice (some ⟨w2.heap.size, 0, none⟩) 1 1) rfl rfl (append_rz w2 w.heap.size _ _ _ _ _ Hown.out Hr.out (by first | (rw [lzf_len]; omega) | omega) hsz rfl) ?_)
      first | intro v' w5 hown U | rintro v' w5 ⟨hown, U⟩
      replace hx := (Hown.out.ext ((Ext.refl w2).alloc _)).from_ U (hx.alloc _) (Nat.le_refl _)
      have Hown' := Lib.hid hown; clear hown U
      go_wp2
      go_roundw
      case rel => exact ⟨k + 1, by omega, by go_num, by
        rw [List.take_succ_eq_append_getElem hkl, ← Hm.out]; exact Hown'.out, hx⟩
      case measure => simp [intOf] <;> omega
    · obtain rfl : k = ns.length := by omega
      have hq := OwnZ.row Hown0.out
      rw [List.take_of_length_le (Nat.le_refl _)] at hq
      have Hq := Lib.hid hq; clear hq Hown0
      go_wp2
      go_ret
      exact Gives.mk Hq.out hx
set_option maxHeartbeats 2000000 in
theorem zlong_b (most d : Nat) (g c : Nat) (vs : List (Value × List RawI)) (w : World) (hm : most ≤ 1000) (hd : d ≤ 1000) (hn : vs.length ≤ 1000) (hc : vs.length ≤ c) (hv : ListsZ w g vs) :
    Calls Tryd.prog 6 #[.int .i64 (most : Nat), .int .i64 (d : Nat), .slice (some ⟨g, 0, none⟩) vs.length c] w (LongZ most d vs w) := by
  have HV := Lib.hid hv; clear hv
  go_enter Tryd.func6, Tryd.ntmps6
  go_wp2
  go_loop [7] (fun iv => ∃ i : Nat, i ≤ vs.length ∧ iv = .int .i64 i ∧ ∀ j (h : j < vs.length), j < i → FineZ most d vs[j].2) (fun iv => vs.length - (intOf iv).toNat)
  case atStart => exact ⟨0, Nat.zero_le _, rfl, fun j h h' => by omega⟩
  case round =>
    obtain ⟨i, hi, rfl, hst⟩ := hrel
    have Hst := Lib.hid hst; clear hst
    by_cases hil : i < vs.length
    · obtain ⟨q, hp⟩ := HV.out i hil
      obtain ⟨A1, c1, e1, hl1, hl2⟩ := hp.len
      rw [e1] at q hp
      obtain ⟨l, hl⟩ : ∃ l, l = vs[i].2 := ⟨_, rfl⟩
      rw [← hl] at q hp hl1
      have Hl := Lib.hid (And.intro hl hp); clear hl hp e1
      by_cases hlong : most < l.length
      · skip
        go_wp2
        go_ret
        exact ⟨rfl, true, rfl, fun h => by cases h⟩
      · go_wp2
        go_loop [8] (fun kv => ∃ k : Nat, k ≤ l.length ∧ kv = .int .i64 k ∧ ∀ j (h : j < l.length), j < k → l[j].2.length ≤ d) (fun kv => l.length - (intOf kv).toNat)
        case atStart => exact ⟨0, Nat.zero_le _, rfl, fun j h h' => by omega⟩
        case round =>
          obtain ⟨k, hk, rfl, hsm⟩ := hrel
          have Hsm := Lib.hid hsm; clear hsm
          by_cases hkl : k < l.length
          · obtain ⟨g', o', B1, d1, rfl, r0, r1, -⟩ := Hl.out.2.at_ hkl
            obtain ⟨n, hn1⟩ : ∃ n, n = l[k].2.length := ⟨_, rfl⟩
            rw [← hn1] at r1
            have He := Lib.hid hn1; clear hn1
            by_cases hx1 : d < n
            · skip
              go_wp2
              go_ret
              exact ⟨rfl, true, rfl, fun h => by cases h⟩
            · go_wp2
              go_round
              case rel => exact ⟨k + 1, by omega, by go_num, fun j h1 h2 => by
                rcases Nat.lt_or_ge j k with h | h
                · exact Hsm.out j h1 h
                · obtain rfl : j = k := by omega
                  have := He.out
                  omega⟩
              case measure => simp [intOf] <;> omega
          · obtain rfl : k = l.length := by omega
            go_wp2
            go_round
            case rel => exact ⟨i + 1, by omega, by go_num, fun j h1 h2 => by
              rcases Nat.lt_or_ge j i with h | h
              · exact Hst.out j h1 h
              · obtain rfl : j = i := by omega
                rw [← Hl.out.1]
                exact ⟨by omega, fun x hx => by
                  obtain ⟨j, hj, rfl⟩ := List.getElem_of_mem hx
                  exact Hsm.out j hj hj⟩⟩
            case measure => simp [intOf] <;> omega
    · obtain rfl : i = vs.length := by omega
      go_wp2
      go_ret
      exact ⟨rfl, false, rfl, fun _ p hp => by
        obtain ⟨j, hj, rfl⟩ := List.getElem_of_mem hp
        exact Hst.out j hj hj⟩
end Go.Proofs.YtfacbpnegkjcgaaDoor
namespace Go.Proofs.YtfacbpnegkjcgaaDoor
open Go.RowKit Go.Hp
end Go.Proofs.YtfacbpnegkjcgaaDoor
namespace Go.Hp
open Go.RowKit
theorem IntsV.ext {w w' : World} {v : Value} {ns : List Int} (h : IntsV w v ns) (e : Ext w w') : IntsV w' v ns := by
  obtain ⟨g, c, h1, h2, h3, h4⟩ := h
  exact ⟨g, c, h1, h2, h3, fun j hj => e.cell (h4 j hj)⟩
theorem aw_res : (res (cz [1, 0, 1]) (cz [-2, 1])).num = 5 := by
  have h1 : pl (cz [1, 0, 1]) = 3 := pl_eq (cz_sup [1, 0, 1]) (fun _ => by decide +kernel)
  have h2 : pl (cz [-2, 1]) = 2 := pl_eq (cz_sup [-2, 1]) (fun _ => by decide +kernel)
  unfold res
  rw [h1, h2]
  decide +kernel
theorem aw_mul : pl (cv (cz [1, 1]) (cz [1, 1])) = 3 := by
  have h : pl (cz [1, 1]) = 2 := pl_eq (cz_sup [1, 1]) (fun _ => by decide +kernel)
  have h0 : cz [1, 1] ≠ pz := fun e => by rw [e, pl_pz] at h; omega
  rw [pl_cv (Fin_.cz _) (Fin_.cz _) h0 h0, h]
/-- A slice of three. -/
def Sl3 (v : Value) : Prop := ∃ A c, v = .slice A 3 c
theorem small_cz {l : List Int} (h : ∀ x ∈ l, sz x.natAbs ≤ 1) (i : Nat) : qsz (cz l i) ≤ 1 := cz_qsz h (by omega) i
end Go.Hp
namespace Go.Proofs.YtfacbpnegkjcgaaDoor
open Go.RowKit Go.Hp
theorem sameint_t (v u : Value) (x : Int) (w : World) (hv : IsZ w v x) (hu : IsZ w u x) : Calls Tryd.prog 8 #[v, u] w (Gives w fun r _ => r = .bool true) :=
  Gives.imp (sameint_b v u x x w hv hu) fun r _ h => by rw [h]; simp
set_option maxRecDepth 20000 in
set_option maxHeartbeats 4000000 in
theorem awake_z (w : World) : Calls Tryd.prog 5 #[] w (Gives w fun r _ => r = .bool true) := by
  have K1 := Lib.hid (show ∀ x ∈ ([1, 0, 1] : List Int), sz x.natAbs ≤ 1 by decide +kernel)
  have K2 := Lib.hid (show ∀ x ∈ ([-2, 1] : List Int), sz x.natAbs ≤ 1 by decide +kernel)
  have K3 := Lib.hid (show ∀ x ∈ ([1, 1] : List Int), sz x.natAbs ≤ 1 by decide +kernel)
  go_enter Tryd.func5, Tryd.ntmps5
  go_wp2_with fail
  refine Calls.mono (zs_b _ [1, 0, 1] _ (IntsV.new w _ [1, 0, 1] (by decide)) (by decide) (by decide)) ?_
  rintro e w1 ⟨r1, rfl, h1, hx⟩
  have H1 := Lib.hid (h1.has (fun x hx => by have := K1.out x hx; omega)); clear h1
  replace hx := hx.a1
  go_wp2_with fail
  refine Calls.mono (zs_b _ [-2, 1] _ (IntsV.new w1 _ [-2, 1] (by decide)) (by decide) (by decide)) ?_
  rintro e w2 ⟨r2, rfl, h2, hx2⟩
  have H2 := Lib.hid (h2.has (fun x hx => by have := K2.out x hx; omega)); clear h2
  have H1 := Lib.hid (H1.out.ext hx2.a1)
  replace hx := hx.trans hx2.a1
  clear hx2
  have hpl1 : pl (cz [1, 0, 1]) ≤ 3 := pl_le (cz_sup [1, 0, 1])
  have hpl2 : pl (cz [-2, 1]) ≤ 2 := pl_le (cz_sup [-2, 1])
  have HB := Lib.hid (show 8 + 8 * ((pl (cz [1, 0, 1]) + pl (cz [-2, 1]) + 1) * ((pl (cz [1, 0, 1]) + pl (cz [-2, 1]) + 1) * ((1 + 1) * 2 ^ (pl (cz [1, 0, 1]) + pl (cz [-2, 1]))))) ≤ 1099511627776 from by
    have a1 : 2 ^ (pl (cz [1, 0, 1]) + pl (cz [-2, 1])) ≤ 2 ^ 5 := Nat.pow_le_pow_right (by decide) (by omega)
    have a2 : (pl (cz [1, 0, 1]) + pl (cz [-2, 1]) + 1) * ((pl (cz [1, 0, 1]) + pl (cz [-2, 1]) + 1) * ((1 + 1) * 2 ^ (pl (cz [1, 0, 1]) + pl (cz [-2, 1])))) ≤ 6 * (6 * ((1 + 1) * 2 ^ 5)) := Nat.mul_le_mul (by omega) (Nat.mul_le_mul (by omega) (Nat.mul_le_mul_left _ a1))
    omega)
  clear hpl1 hpl2
  go_wp2_with fail
  refine Calls.mono (resultant_z _ _ [1, 0, 1] [-2, 1] 1 _ H1.out H2.out (small_cz K1.out) (small_cz K2.out) (by decide) (by decide) HB.out) ?_
  rintro e w3 ⟨r3, rfl, h3, hx3⟩
  rw [aw_res] at h3
  obtain ⟨b5, A5, n5, c5, rfl⟩ := h3.cells
  obtain ⟨W9, eW9, e9, x9⟩ := Box.made w3 28 #[.bool b5, .slice A5 n5 c5] (by simp [isDig])
  replace hx := (hx.trans hx3).trans x9
  have H3 := Lib.hid (h3.kd x9.kd)
  clear hx3 h3 H1 H2 HB
  go_upto_region 2 with (fail)
  rw [← eW9]
  clear eW9 x9
  generalize w3.heap.size = gb at *
  obtain ⟨q0, q1⟩ := e9.cells2
  go_wp2_with fail
  refine wp_region_par (k := 18) (D := [7, 8, 9, 10, 11, 12, 13, 14, 15, 16, 17, 18, 19, 20, 21, 22, 23, 24]) (T := [[], [], [0, 1], [0, 1, 2], [0, 1, 2, 3], [0, 1, 2, 3, 4], [0, 1, 2, 3, 4, 5], [0, 1, 2, 3, 4, 5, 6], [0, 1, 2, 3, 4, 5, 6, 7], [0, 1, 2, 3, 4, 5, 6, 7, 8], [0, 1, 2, 3, 4, 5, 6, 7, 8, 9], [0, 1, 2, 3, 4, 5, 6, 7, 8, 9, 10], [0, 1, 2, 3, 4, 5, 6, 7, 8, 9], [0, 1, 2, 3, 4, 5, 6, 7, 8, 9, 10, 11, 12], [0, 1, 2, 3, 4, 5, 6, 7, 8, 9, 10, 11, 12, 13], [0, 1, 2, 3, 4, 5, 6, 7, 8, 9, 10, 11, 12, 13, 14], [0, 1, 2, 3, 4, 5, 6, 7, 8, 9, 10, 11, 12, 13, 14, 15], [0, 1, 2, 3, 4, 5, 6, 7, 8, 9, 10, 11, 12, 13, 14, 15, 16], [0, 1, 2, 3, 4, 5, 6, 7, 8, 9, 10, 11, 12, 13, 14, 15, 16, 17]]) (EK := [1]) (EV := [?e1x0]) (VL := [(kv ?v1x0), (fun γ => γ 1), (kv (.bool true)), (kv ?v1x3), (fun γ => γ 4), (fun γ => γ 5), (kv (.string ⟨#[51, 42, 120, 94, 50, 32, 45, 32, 120, 32, 43, 32, 53]⟩)), (kv ?v1x7), (kv ?v1x8), (kv ?v1x9), (fun γ => γ 10), (fun γ => γ 11), (fun γ => γ 12), (fun γ => γ 13), (fun γ => γ 14), (kv (.int .i64 3)), (kv ?v1x16), (kv ?v1x17)]) (FL := fun γ w' => [True, IsZ w' (γ 1) 5, True, True, IntsV w' (γ 4) [5, -1, 3], ZsV 0 w' (γ 5) [5, -1, 3], True, True, True, True, IntsV w' (γ 10) [1, 1], ZsV 0 w' (γ 11) [1, 1], IntsV w' (γ 12) [1, 1], ZsV 0 w' (γ 13) [1, 1], Sl3 (γ 14), True, True, True]) ?hE1 (by kernel_rfl) (by kernel_rfl) (by rfl) (by kernel_rfl) ?hloc1 ?hmono1 ?hstep1 ?htail1
  case hE1 => refine ⟨?_, trivial⟩ <;> (simp only [List.getElem?_toArray, List.getElem?_cons_succ, List.getElem?_cons_zero]; rfl)
  case hstep1 =>
    refine ⟨⟨⟨⟨⟨⟨⟨⟨⟨⟨⟨⟨⟨⟨⟨⟨⟨⟨trivial, ?_⟩, ?_⟩, ?_⟩, ?_⟩, ?_⟩, ?_⟩, ?_⟩, ?_⟩, ?_⟩, ?_⟩, ?_⟩, ?_⟩, ?_⟩, ?_⟩, ?_⟩, ?_⟩, ?_⟩, ?_⟩
    · intro γ w' he hf; clear hf; refine ⟨trivial, ?_⟩; intro R hR
      have hc := he.cells
      have cq0 := he.cell q0
      have cq1 := he.cell q1
      go_simp
      (try go_ints); (try (rw [if_neg (by omega)])); (try (rw [if_pos (by omega)])); (try go_simp); (try go_ints)
      refine hR _ _ (Ext.refl _) ?_ trivial
      rfl
    · intro γ w' he hf; clear hf; refine ⟨trivial, ?_⟩; intro R hR
      go_simp
      refine Calls.mono (show Calls _ _ _ w' (Gives w' fun r w'' => IsZ w'' (r) 5) from z_b 5 w' (by omega) (by omega)) ?_
      rintro e w2 ⟨v, rfl, hv, hx⟩
      exact ⟨v, rfl, hR v w2 hx rfl hv⟩
    · intro γ w' he hf; have f1 : IsZ w' (γ 1) 5 := hf 1 (by decide); clear hf; refine ⟨trivial, ?_⟩; intro R hR
      go_simp
      refine Calls.mono (show Calls _ _ _ w' (Gives w' fun r _ => r = .bool true) from sameint_t _ _ 5 w' (H3.out.kd he.kd) f1) ?_
      rintro e w2 ⟨v, rfl, rfl, hx⟩
      exact ⟨_, rfl, hR _ w2 hx rfl trivial⟩
    · intro γ w' he hf; have f1 : IsZ w' (γ 1) 5 := hf 1 (by decide); clear hf; refine ⟨trivial, ?_⟩; intro R hR
      have hc := he.cells
      go_simp
      (try go_ints); (try (rw [if_neg (by omega)])); (try (rw [if_pos (by omega)])); (try go_simp); (try go_ints)
      refine hR _ _ (Ext.refl _) ?_ trivial
      rfl
    · intro γ w' he hf; have f1 : IsZ w' (γ 1) 5 := hf 1 (by decide); clear hf; refine ⟨rfl, ?_⟩; intro R hR
      go_simp
      exact hR _ _ ((Ext.refl _).alloc _) rfl (IntsV.new w' _ [5, -1, 3] (by decide))
    · intro γ w' he hf; have f1 : IsZ w' (γ 1) 5 := hf 1 (by decide); have f4 : IntsV w' (γ 4) [5, -1, 3] := hf 4 (by decide); clear hf; refine ⟨rfl, ?_⟩; intro R hR
      go_simp
      refine Calls.mono (show Calls _ _ _ w' (Gives w' fun r w'' => ZsV 0 w'' (r) [5, -1, 3]) from Gives.imp (zs_b _ [5, -1, 3] w' f4 (by decide) (by decide)) fun _ _ h => RowV.base_le h (Nat.zero_le _)) ?_
      rintro e w2 ⟨v, rfl, hv, hx⟩
      exact ⟨v, rfl, hR v w2 hx rfl hv⟩
    · intro γ w' he hf; have f1 : IsZ w' (γ 1) 5 := hf 1 (by decide); have f4 : IntsV w' (γ 4) [5, -1, 3] := hf 4 (by decide); have f5 : ZsV 0 w' (γ 5) [5, -1, 3] := hf 5 (by decide); clear hf; refine ⟨rfl, ?_⟩; intro R hR
      go_simp
      refine Calls.mono (show Calls _ _ _ w' (Gives w' fun r _ => r = .string ⟨#[51, 42, 120, 94, 50, 32, 45, 32, 120, 32, 43, 32, 53]⟩) from format_aw _ 0 w' f5) ?_
      rintro e w2 ⟨v, rfl, rfl, hx⟩
      exact ⟨_, rfl, hR _ w2 hx rfl trivial⟩
    · intro γ w' he hf; have f1 : IsZ w' (γ 1) 5 := hf 1 (by decide); have f4 : IntsV w' (γ 4) [5, -1, 3] := hf 4 (by decide); have f5 : ZsV 0 w' (γ 5) [5, -1, 3] := hf 5 (by decide); clear hf; refine ⟨rfl, ?_⟩; intro R hR
      have hc := he.cells
      go_simp
      (try go_ints); (try (rw [if_neg (by omega)])); (try (rw [if_pos (by omega)])); (try go_simp); (try go_ints)
      refine hR _ _ (Ext.refl _) ?_ trivial
      rfl
    · intro γ w' he hf; have f1 : IsZ w' (γ 1) 5 := hf 1 (by decide); have f4 : IntsV w' (γ 4) [5, -1, 3] := hf 4 (by decide); have f5 : ZsV 0 w' (γ 5) [5, -1, 3] := hf 5 (by decide); clear hf; refine ⟨trivial, ?_⟩; intro R hR
      have hc := he.cells
      go_simp
      (try go_ints); (try (rw [if_neg (by omega)])); (try (rw [if_pos (by omega)])); (try go_simp); (try go_ints)
      refine hR _ _ (Ext.refl _) ?_ trivial
      rfl
    · intro γ w' he hf; have f1 : IsZ w' (γ 1) 5 := hf 1 (by decide); have f4 : IntsV w' (γ 4) [5, -1, 3] := hf 4 (by decide); have f5 : ZsV 0 w' (γ 5) [5, -1, 3] := hf 5 (by decide); clear hf; refine ⟨trivial, ?_⟩; intro R hR
      have hc := he.cells
      go_simp
      (try go_ints); (try (rw [if_neg (by omega)])); (try (rw [if_pos (by omega)])); (try go_simp); (try go_ints)
      refine hR _ _ (Ext.refl _) ?_ trivial
      rfl
    · intro γ w' he hf; have f1 : IsZ w' (γ 1) 5 := hf 1 (by decide); have f4 : IntsV w' (γ 4) [5, -1, 3] := hf 4 (by decide); have f5 : ZsV 0 w' (γ 5) [5, -1, 3] := hf 5 (by decide); clear hf; refine ⟨rfl, ?_⟩; intro R hR
      go_simp
      exact hR _ _ ((Ext.refl _).alloc _) rfl (IntsV.new w' _ [1, 1] (by decide))
    · intro γ w' he hf; have f1 : IsZ w' (γ 1) 5 := hf 1 (by decide); have f4 : IntsV w' (γ 4) [5, -1, 3] := hf 4 (by decide); have f5 : ZsV 0 w' (γ 5) [5, -1, 3] := hf 5 (by decide); have f10 : IntsV w' (γ 10) [1, 1] := hf 10 (by decide); clear hf; refine ⟨rfl, ?_⟩; intro R hR
      go_simp
      refine Calls.mono (show Calls _ _ _ w' (Gives w' fun r w'' => ZsV 0 w'' (r) [1, 1]) from Gives.imp (zs_b _ [1, 1] w' f10 (by decide) (by decide)) fun _ _ h => RowV.base_le h (Nat.zero_le _)) ?_
      rintro e w2 ⟨v, rfl, hv, hx⟩
      exact ⟨v, rfl, hR v w2 hx rfl hv⟩
    · intro γ w' he hf; have f1 : IsZ w' (γ 1) 5 := hf 1 (by decide); have f4 : IntsV w' (γ 4) [5, -1, 3] := hf 4 (by decide); have f5 : ZsV 0 w' (γ 5) [5, -1, 3] := hf 5 (by decide); clear hf; refine ⟨rfl, ?_⟩; intro R hR
      go_simp
      exact hR _ _ ((Ext.refl _).alloc _) rfl (IntsV.new w' _ [1, 1] (by decide))
    · intro γ w' he hf; have f1 : IsZ w' (γ 1) 5 := hf 1 (by decide); have f4 : IntsV w' (γ 4) [5, -1, 3] := hf 4 (by decide); have f5 : ZsV 0 w' (γ 5) [5, -1, 3] := hf 5 (by decide); have f10 : IntsV w' (γ 10) [1, 1] := hf 10 (by decide); have f11 : ZsV 0 w' (γ 11) [1, 1] := hf 11 (by decide); have f12 : IntsV w' (γ 12) [1, 1] := hf 12 (by decide); clear hf; refine ⟨rfl, ?_⟩; intro R hR
      go_simp
      refine Calls.mono (show Calls _ _ _ w' (Gives w' fun r w'' => ZsV 0 w'' (r) [1, 1]) from Gives.imp (zs_b _ [1, 1] w' f12 (by decide) (by decide)) fun _ _ h => RowV.base_le h (Nat.zero_le _)) ?_
      rintro e w2 ⟨v, rfl, hv, hx⟩
      exact ⟨v, rfl, hR v w2 hx rfl hv⟩
    · intro γ w' he hf; have f1 : IsZ w' (γ 1) 5 := hf 1 (by decide); have f4 : IntsV w' (γ 4) [5, -1, 3] := hf 4 (by decide); have f5 : ZsV 0 w' (γ 5) [5, -1, 3] := hf 5 (by decide); have f10 : IntsV w' (γ 10) [1, 1] := hf 10 (by decide); have f11 : ZsV 0 w' (γ 11) [1, 1] := hf 11 (by decide); have f12 : IntsV w' (γ 12) [1, 1] := hf 12 (by decide); have f13 : ZsV 0 w' (γ 13) [1, 1] := hf 13 (by decide); clear hf; refine ⟨rfl, ?_⟩; intro R hR
      go_simp
      refine Calls.mono (zmul_p _ _ [1, 1] [1, 1] 1 1 w' (f11.has (fun x hx => by have := K3.out x hx; omega)) (f13.has (fun x hx => by have := K3.out x hx; omega)) (small_cz K3.out) (small_cz K3.out) (by decide) (by decide) (by decide)) ?_
      rintro e w2 ⟨v, rfl, hv, hx⟩
      obtain ⟨A, c, e1, -⟩ := hv.shape
      rw [aw_mul] at e1
      exact ⟨v, rfl, hR v w2 hx rfl ⟨A, c, e1⟩⟩
    · intro γ w' he hf; have f1 : IsZ w' (γ 1) 5 := hf 1 (by decide); have f4 : IntsV w' (γ 4) [5, -1, 3] := hf 4 (by decide); have f5 : ZsV 0 w' (γ 5) [5, -1, 3] := hf 5 (by decide); have f10 : IntsV w' (γ 10) [1, 1] := hf 10 (by decide); have f11 : ZsV 0 w' (γ 11) [1, 1] := hf 11 (by decide); have f12 : IntsV w' (γ 12) [1, 1] := hf 12 (by decide); have f13 : ZsV 0 w' (γ 13) [1, 1] := hf 13 (by decide); have f14 : Sl3 (γ 14) := hf 14 (by decide); clear hf; refine ⟨rfl, ?_⟩; intro R hR
      obtain ⟨A14, c14, e14⟩ := f14
      have hc := he.cells
      go_simp
      (try go_ints); (try (rw [if_neg (by omega)])); (try (rw [if_pos (by omega)])); (try go_simp); (try go_ints)
      refine hR _ _ (Ext.refl _) ?_ trivial
      rfl
    · intro γ w' he hf; have f1 : IsZ w' (γ 1) 5 := hf 1 (by decide); have f4 : IntsV w' (γ 4) [5, -1, 3] := hf 4 (by decide); have f5 : ZsV 0 w' (γ 5) [5, -1, 3] := hf 5 (by decide); have f10 : IntsV w' (γ 10) [1, 1] := hf 10 (by decide); have f11 : ZsV 0 w' (γ 11) [1, 1] := hf 11 (by decide); have f12 : IntsV w' (γ 12) [1, 1] := hf 12 (by decide); have f13 : ZsV 0 w' (γ 13) [1, 1] := hf 13 (by decide); have f14 : Sl3 (γ 14) := hf 14 (by decide); clear hf; refine ⟨rfl, ?_⟩; intro R hR
      have hc := he.cells
      go_simp
      (try go_ints); (try (rw [if_neg (by omega)])); (try (rw [if_pos (by omega)])); (try go_simp); (try go_ints)
      refine hR _ _ (Ext.refl _) ?_ trivial
      rfl
    · intro γ w' he hf; have f1 : IsZ w' (γ 1) 5 := hf 1 (by decide); have f4 : IntsV w' (γ 4) [5, -1, 3] := hf 4 (by decide); have f5 : ZsV 0 w' (γ 5) [5, -1, 3] := hf 5 (by decide); have f10 : IntsV w' (γ 10) [1, 1] := hf 10 (by decide); have f11 : ZsV 0 w' (γ 11) [1, 1] := hf 11 (by decide); have f12 : IntsV w' (γ 12) [1, 1] := hf 12 (by decide); have f13 : ZsV 0 w' (γ 13) [1, 1] := hf 13 (by decide); have f14 : Sl3 (γ 14) := hf 14 (by decide); clear hf; refine ⟨trivial, ?_⟩; intro R hR
      have hc := he.cells
      go_simp
      (try go_ints); (try (rw [if_neg (by omega)])); (try (rw [if_pos (by omega)])); (try go_simp); (try go_ints)
      refine hR _ _ (Ext.refl _) ?_ trivial
      rfl
  case hloc1 =>
    exact ⟨⟨⟨⟨⟨⟨⟨⟨⟨⟨⟨⟨⟨⟨⟨⟨⟨⟨trivial, (fun γ γ' h => ⟨rfl, fun _ => rfl⟩)⟩, (fun γ γ' h => ⟨h 1 rfl, fun w' => (congrArg (fun a => IsZ w' (a) 5) (h 1 rfl))⟩)⟩, (fun γ γ' h => ⟨rfl, fun _ => rfl⟩)⟩, (fun γ γ' h => ⟨rfl, fun _ => rfl⟩)⟩, (fun γ γ' h => ⟨h 4 rfl, fun w' => (congrArg (fun a => IntsV w' (a) [5, -1, 3]) (h 4 rfl))⟩)⟩, (fun γ γ' h => ⟨h 5 rfl, fun w' => (congrArg (fun a => ZsV 0 w' (a) [5, -1, 3]) (h 5 rfl))⟩)⟩, (fun γ γ' h => ⟨rfl, fun _ => rfl⟩)⟩, (fun γ γ' h => ⟨rfl, fun _ => rfl⟩)⟩, (fun γ γ' h => ⟨rfl, fun _ => rfl⟩)⟩, (fun γ γ' h => ⟨rfl, fun _ => rfl⟩)⟩, (fun γ γ' h => ⟨h 10 rfl, fun w' => (congrArg (fun a => IntsV w' (a) [1, 1]) (h 10 rfl))⟩)⟩, (fun γ γ' h => ⟨h 11 rfl, fun w' => (congrArg (fun a => ZsV 0 w' (a) [1, 1]) (h 11 rfl))⟩)⟩, (fun γ γ' h => ⟨h 12 rfl, fun w' => (congrArg (fun a => IntsV w' (a) [1, 1]) (h 12 rfl))⟩)⟩, (fun γ γ' h => ⟨h 13 rfl, fun w' => (congrArg (fun a => ZsV 0 w' (a) [1, 1]) (h 13 rfl))⟩)⟩, (fun γ γ' h => ⟨h 14 rfl, fun w' => (congrArg (fun a => Sl3 (a)) (h 14 rfl))⟩)⟩, (fun γ γ' h => ⟨rfl, fun _ => rfl⟩)⟩, (fun γ γ' h => ⟨rfl, fun _ => rfl⟩)⟩, (fun γ γ' h => ⟨rfl, fun _ => rfl⟩)⟩
  case hmono1 =>
    exact ⟨⟨⟨⟨⟨⟨⟨⟨⟨⟨⟨⟨⟨⟨⟨⟨⟨⟨trivial, (fun γ wA w' e h => h)⟩, (fun γ wA w' e h => (show IsZ wA (γ 1) 5 from h).ext e)⟩, (fun γ wA w' e h => h)⟩, (fun γ wA w' e h => h)⟩, (fun γ w w' e h => IntsV.ext h e)⟩, (fun γ wA w' e h => (show ZsV 0 wA (γ 5) [5, -1, 3] from h).ext e)⟩, (fun γ wA w' e h => h)⟩, (fun γ wA w' e h => h)⟩, (fun γ wA w' e h => h)⟩, (fun γ wA w' e h => h)⟩, (fun γ w w' e h => IntsV.ext h e)⟩, (fun γ wA w' e h => (show ZsV 0 wA (γ 11) [1, 1] from h).ext e)⟩, (fun γ w w' e h => IntsV.ext h e)⟩, (fun γ wA w' e h => (show ZsV 0 wA (γ 13) [1, 1] from h).ext e)⟩, (fun γ w w' e h => h)⟩, (fun γ wA w' e h => h)⟩, (fun γ wA w' e h => h)⟩, (fun γ wA w' e h => h)⟩
  intro γ w4 hx4 hF
  have p1 : IsZ w4 (γ 1) 5 := Each.get hF 1 (by decide)
  have p4 : IntsV w4 (γ 4) [5, -1, 3] := Each.get hF 4 (by decide)
  have p5 : ZsV 0 w4 (γ 5) [5, -1, 3] := Each.get hF 5 (by decide)
  have p10 : IntsV w4 (γ 10) [1, 1] := Each.get hF 10 (by decide)
  have p11 : ZsV 0 w4 (γ 11) [1, 1] := Each.get hF 11 (by decide)
  have p12 : IntsV w4 (γ 12) [1, 1] := Each.get hF 12 (by decide)
  have p13 : ZsV 0 w4 (γ 13) [1, 1] := Each.get hF 13 (by decide)
  have p14 : Sl3 (γ 14) := Each.get hF 14 (by decide)
  clear hF
  simp only [fillAll, gV, kv, List.getD_cons_zero, List.getD_cons_succ, Act.put, List.setIfInBounds_toArray, List.set_cons_zero, List.set_cons_succ, List.toList_toArray, List.drop_succ_cons, List.drop_zero, List.drop_nil, Nat.zero_add, Nat.reduceAdd]
  generalize γ 1 = g1 at *
  generalize γ 4 = g4 at *
  generalize γ 5 = g5 at *
  generalize γ 10 = g10 at *
  generalize γ 11 = g11 at *
  generalize γ 12 = g12 at *
  generalize γ 13 = g13 at *
  generalize γ 14 = g14 at *
  clear γ
  clear p4 p5 p10 p11 p12 p13
  go_wp2
  go_ret
  exact Gives.mk rfl (hx.trans hx4)
end Go.Proofs.YtfacbpnegkjcgaaDoor
namespace Go.Proofs.YtfacbpnegkjcgaaDoor
open Go.RowKit Go.Hp
/-- Scale, over polynomials. -/
theorem zscale_pp (v u : Value) (F : Nat → Rat) (a : Int) (w : World) (hv : IsZP 0 w v F) (hs : ∀ i, qsz (F i) ≤ 1099511627776) (hu : HasZ w u a) (hn : pl F ≤ 1099511627776) :
    Calls Tryd.prog 37 #[v, u] w (Gives w fun r w' => IsZP 0 w' r (psc (a : Rat) F)) := by
  obtain ⟨l, h1, h2, -, rfl⟩ := hv.hz hs
  exact Gives.imp (zscale_p v u l a w h1 hu (by omega)) fun _ _ h => h.base_le (Nat.zero_le _)
end Go.Proofs.YtfacbpnegkjcgaaDoor
namespace Go.Hp
/-- F is a multiple of G over the integers. -/
def Zdv (F G : Nat → Rat) : Prop := ∃ Q, ZI Q ∧ Fin_ Q ∧ F = cv Q G
/-- An integer times the leading coefficient. -/
theorem zdv_top {R G : Nat → Rat} {k : Nat} (hR : Fin_ R) (hG : Fin_ G) (h0 : G ≠ pz) (hs : Sup (k + pl G) R) (h : Zdv R G) : ∃ z : Int, R (k + pl G - 1) = (z : Rat) * ld G := by
  obtain ⟨Q, hz, hf, e⟩ := h
  have hp := pl_pos hG h0
  by_cases hQ : Q = pz
  · refine ⟨0, ?_⟩
    rw [e, hQ, pz_cv]
    show (0 : Rat) = ((0 : Int) : Rat) * _
    simp
  · have h1 := pl_cv hf hG hQ h0
    rw [← e] at h1
    have h2 := pl_le hs
    have h3 := pl_pos hf hQ
    have h4 : Sup (k + 1) Q := (pl_sup hf).mono (by omega)
    have h5 : Sup (pl G - 1 + 1) G := (pl_sup hG).mono (by omega)
    have h6 := cv_top h4 h5
    rw [← e, show k + (pl G - 1) = k + pl G - 1 from by omega] at h6
    rw [h6, hz.num k]
    exact ⟨_, rfl⟩
theorem zdv_rest {F G Q R : Nat → Rat} (hz : ZI Q) (hf : Fin_ Q) (e : F = pad (cv Q G) R) : Zdv F G ↔ Zdv R G := by
  constructor
  · rintro ⟨P, h1, h2, h3⟩
    refine ⟨psb P Q, h1.psb hz, h2.psb hf, ?_⟩
    rw [psb_cv, ← h3, e]
    funext n; simp only [psb, pad]; grind
  · rintro ⟨P, h1, h2, h3⟩
    refine ⟨pad Q P, hz.pad h1, hf.pad h2, ?_⟩
    rw [pad_cv, ← h3, e]
theorem zdv_pz (G : Nat → Rat) : Zdv pz G := ⟨pz, ZI.pz, Fin_.pz, (pz_cv G).symm⟩
theorem zdv_low {R G : Nat → Rat} (hR : Fin_ R) (hG : Fin_ G) (hs : pl R < pl G) : Zdv R G ↔ R = pz := by
  constructor
  · rintro ⟨Q, h1, h2, h3⟩
    have h0 : G ≠ pz := fun e => by rw [e, pl_pz] at hs; omega
    refine Classical.byContradiction fun hn => ?_
    have hQ : Q ≠ pz := fun e => hn (by rw [h3, e, pz_cv])
    have := pl_cv h2 hG hQ h0
    rw [← h3] at this
    have := pl_pos h2 hQ
    omega
  · rintro rfl; exact zdv_pz G
/-- One step of a division over the integers: the coefficient z is put at k. -/
def ZdSt (F G : Nat → Rat) (n s t i : Nat) (Q R : Nat → Rat) : Prop :=
  (∀ j, j < i → Q j = 0) ∧ Sup n Q ∧ Sup (i + pl G - 1) R ∧ F = pad (cv Q G) R ∧ ZI Q ∧ ZI R ∧ ∀ m, qsz (R m) ≤ s + (n - i) * (t + 1)
theorem ZdSt.start {F G : Nat → Rat} {n s t : Nat} (hF : Sup (n + pl G - 1) F) (hz : ZI F) (hs : ∀ m, qsz (F m) ≤ s) : ZdSt F G n s t n pz F :=
  ⟨fun _ _ => rfl, Sup.pz _, hF, by rw [pz_cv]; funext m; simp only [pad, pz]; grind, ZI.pz, hz, fun m => by have := hs m; omega⟩
theorem qsz_quot {z : Int} {a b : Rat} (hb : b ≠ 0) (hbz : ∃ y : Int, b = (y : Rat)) (e : a = (z : Rat) * b) : qsz (z : Rat) ≤ qsz a := by
  obtain ⟨y, rfl⟩ := hbz
  rw [e, ← Rat.intCast_mul, qsz_cast, qsz_cast]
  have hy : y ≠ 0 := fun h => hb (by rw [h]; rfl)
  have : sz z.natAbs ≤ sz (z * y).natAbs := by
    refine sz_mono ?_
    rw [Int.natAbs_mul]
    exact Nat.le_mul_of_pos_right _ (by omega)
  omega
theorem ZdSt.step {F G : Nat → Rat} {n s t k : Nat} {Q R : Nat → Rat} (hG : Fin_ G) (h0 : G ≠ pz) (zG : ZI G) (hcG : ∀ m, qsz (G m) ≤ t) (h : ZdSt F G n s t (k + 1) Q R) (hk : k < n) {z : Int} (hc : R (k + pl G - 1) = (z : Rat) * ld G) :
    ZdSt F G n s t k (pad Q (mono k (z : Rat))) (psb R (cv (mono k (z : Rat)) G)) := by
  obtain ⟨h3, h4, h5, h6, h7, h8, h9⟩ := h
  have hp := pl_pos hG h0
  have hl := ld_ne hG h0
  have hz : (z : Rat) = R (k + pl G - 1) / ld G := by rw [hc]; grind
  refine ⟨fun j hj => ?_, h4.pad ((mono_sup k _).mono (by omega)), ?_, ?_, h7.pad (ZI.mono k z), h8.psb ((ZI.mono k z).cv zG), fun m => ?_⟩
  · show Q j + mono k (z : Rat) j = 0
    rw [h3 j (by omega), mono_off (by omega)]; grind
  · rw [hz]; exact div_step hG h0 (h5.mono (by omega))
  · rw [pad_cv]
    funext m
    have := congrFun h6 m
    simp only [pad, psb] at this ⊢
    grind
  · have q1 : qsz (z : Rat) ≤ qsz (R (k + pl G - 1)) := qsz_quot hl (zG _) hc
    have q2 := h9 (k + pl G - 1)
    have e : n - k = (n - (k + 1)) + 1 := by omega
    have q3 : (n - k) * (t + 1) = (n - (k + 1)) * (t + 1) + (t + 1) := by rw [e, Nat.succ_mul]
    have q4 : qsz (cv (mono k (z : Rat)) G m) ≤ qsz (z : Rat) + t := by
      rw [mono_cv]
      show qsz ((z : Rat) * sh k G m) ≤ _
      have a1 := qsz_mul (z : Rat) (sh k G m)
      have a2 : qsz (sh k G m) ≤ max t 1 := by
        unfold sh
        split
        · have : qsz (0 : Rat) = 1 := by decide
          omega
        · have := hcG (m - k); omega
      have a3 : 1 ≤ t := by have := hcG 0; have : 1 ≤ qsz (G 0) := by { unfold qsz; have := sz_pos (n := (G 0).den) (by have := (G 0).den_pos; omega); omega }; omega
      omega
    have q5 := qsz_subz h8 ((ZI.mono k z).cv zG) m m
    have q6 := h9 m
    show qsz (R m - cv (mono k (z : Rat)) G m) ≤ _
    omega
theorem ZdSt.end_ {F G : Nat → Rat} {n s t : Nat} {Q R : Nat → Rat} (hF : Fin_ F) (hG : Fin_ G) (h0 : G ≠ pz) (h : ZdSt F G n s t 0 Q R) : Q = pq F G ∧ R = pr F G ∧ Sup n Q ∧ ZI Q := by
  obtain ⟨h3, h4, h5, h6, h7, h8, h9⟩ := h
  have := div_eq hF hG h0 ⟨n, h4⟩ h6 (by rwa [Nat.zero_add] at h5)
  exact ⟨this.1, this.2, h4, h7⟩
theorem ZdSt.zdv {F G : Nat → Rat} {n s t i : Nat} {Q R : Nat → Rat} (h : ZdSt F G n s t i Q R) : Zdv F G ↔ Zdv R G :=
  zdv_rest h.2.2.2.2.1 ⟨n, h.2.1⟩ h.2.2.2.1
theorem ZdSt.fin {F G : Nat → Rat} {n s t i : Nat} {Q R : Nat → Rat} (h : ZdSt F G n s t i Q R) : Fin_ R := ⟨_, h.2.2.1⟩
theorem ZdSt.no {F G : Nat → Rat} {n s t k : Nat} {Q R : Nat → Rat} (hG : Fin_ G) (h0 : G ≠ pz) (zG : ZI G) (h : ZdSt F G n s t (k + 1) Q R) (hd : ¬ (ld G).num ∣ (R (k + pl G - 1)).num) : ¬ Zdv F G := by
  intro hz
  have hp := pl_pos hG h0
  obtain ⟨z, e⟩ := zdv_top (k := k) h.fin hG h0 (h.2.2.1.mono (by omega)) (h.zdv.1 hz)
  apply hd
  rw [e, show ld G = ((ld G).num : Rat) from zG.num _, num_mul]
  exact ⟨z, by rw [Int.mul_comm]; rfl⟩
theorem ZdSt.out {F G : Nat → Rat} {n s t : Nat} {Q R : Nat → Rat} (hF : Fin_ F) (hG : Fin_ G) (h0 : G ≠ pz) (h : ZdSt F G n s t 0 Q R) : Zdv F G ↔ R = pz := by
  rw [h.zdv, zdv_low h.fin hG]
  have hp := pl_pos hG h0
  have := pl_le h.2.2.1
  omega
end Go.Hp
namespace Go.Hp
/-- D is the greatest common divisor of F and G over the integers. -/
def IsZG (F G D : Nat → Rat) : Prop := Fin_ D ∧ ZI D ∧ (D ≠ pz → 0 < ld D) ∧ cn D = Nat.gcd (cn F) (cn G) ∧ IsG F G (mn D)
structure GzSt (F0 G0 : Nat → Rat) (D S : Nat) (A B : Nat → Rat) : Prop where
  fA : Fin_ A
  fB : Fin_ B
  zA : ZI A
  zB : ZI B
  pA : pp A = A
  pB : pp B = B
  dv : ∀ E, Fin_ E → (Dv E A ∧ Dv E B ↔ Dv E F0 ∧ Dv E G0)
  deg : pl A + pl B ≤ D
  qA : ∀ i, qsz (A i) + 1 ≤ (S + 1) * 2 ^ (D - (pl A + pl B))
  qB : ∀ i, qsz (B i) + 1 ≤ (S + 1) * 2 ^ (D - (pl A + pl B))
theorem dv_psc_iff {a : Rat} (ha : a ≠ 0) {E F : Nat → Rat} : Dv E (psc a F) ↔ Dv E F :=
  ⟨fun h => by have := h.psc (1 / a); rwa [psc_inv ha] at this, fun h => h.psc a⟩
theorem dv_pp_iff {E F : Nat → Rat} (z : ZI F) (f : Fin_ F) : Dv E (pp F) ↔ Dv E F := by
  by_cases h0 : F = pz
  · rw [h0, pp_pz]
  · have hn : (1 : Rat) / (pcn F : Rat) ≠ 0 := inv_ne (by have := pcn_ne z f h0; exact_mod_cast this)
    exact dv_psc_iff hn
theorem GzSt.start {F G : Nat → Rat} {S : Nat} (fF : Fin_ F) (fG : Fin_ G) (zF : ZI F) (zG : ZI G) (qF : ∀ i, qsz (F i) ≤ S) (qG : ∀ i, qsz (G i) ≤ S) : GzSt F G (pl F + pl G) S (pp F) (pp G) where
  fA := pp_fin fF
  fB := pp_fin fG
  zA := pp_zi zF fF
  zB := pp_zi zG fG
  pA := pp_pp zF fF
  pB := pp_pp zG fG
  dv := fun E _ => by rw [dv_pp_iff zF fF, dv_pp_iff zG fG]
  deg := by rw [pp_pl zF fF, pp_pl zG fG]; exact Nat.le_refl _
  qA := fun i => by have := pp_qsz zF fF qF i; have h : 0 < 2 ^ (pl F + pl G - (pl (pp F) + pl (pp G))) := Nat.pow_pos (by decide); have := Nat.le_mul_of_pos_right (S + 1) h; omega
  qB := fun i => by have := pp_qsz zG fG qG i; have h : 0 < 2 ^ (pl F + pl G - (pl (pp F) + pl (pp G))) := Nat.pow_pos (by decide); have := Nat.le_mul_of_pos_right (S + 1) h; omega
theorem GzSt.room {F0 G0 A B : Nat → Rat} {D S : Nat} (h : GzSt F0 G0 D S A B) {R : Nat → Rat} (hR : R = psR A B (pl A + 1 - pl B)) :
    (∀ i, qsz (A i) ≤ (S + 1) * 2 ^ D) ∧ (∀ i, qsz (B i) ≤ (S + 1) * 2 ^ D) ∧ (∀ i, qsz (R i) + 1 ≤ (S + 1) * 2 ^ (D - (pl A + pl B) + (pl A + 1 - pl B))) := by
  have up : ∀ a : Nat, a ≤ D → (S + 1) * 2 ^ a ≤ (S + 1) * 2 ^ D := fun a ha => Nat.mul_le_mul_left _ (Nat.pow_le_pow_right (by decide) ha)
  have h1 := up (D - (pl A + pl B)) (by omega)
  refine ⟨fun i => by have := h.qA i; omega, fun i => by have := h.qB i; omega, fun i => ?_⟩
  obtain ⟨M, hM⟩ : ∃ M, M = (S + 1) * 2 ^ (D - (pl A + pl B)) := ⟨_, rfl⟩
  have hp : 0 < M := by rw [hM]; exact Nat.mul_pos (by omega) (Nat.pow_pos (by decide))
  have h2 := psR_qsz (s := M - 1) (t := M - 1) h.zA h.zB (fun i => by have := h.qA i; omega) (fun i => by have := h.qB i; omega) (pl A + 1 - pl B) i
  rw [← hR] at h2
  rw [Nat.pow_add, ← Nat.mul_assoc, ← hM]
  have h3 := two_le_pow (pl A + 1 - pl B)
  have h4 : M * (pl A + 1 - pl B + 1) ≤ M * 2 ^ (pl A + 1 - pl B) := Nat.mul_le_mul_left _ h3
  rw [Nat.mul_succ, Nat.mul_comm M] at h4
  rw [show M - 1 + 1 = M from by omega] at h2
  omega
theorem psR_fin {F G : Nat → Rat} (hF : Fin_ F) (hG : Fin_ G) (h0 : G ≠ pz) : Fin_ (psR F G (pl F + 1 - pl G)) := by
  rw [(psR_end hF hG h0).2]; exact (pr_fin hF hG).psc _
theorem psR_top {F G : Nat → Rat} (hF : Fin_ F) (hG : Fin_ G) (h0 : G ≠ pz) : pl (psR F G (pl F + 1 - pl G)) < pl G := by
  have hp := pl_pos hG h0
  have := pl_le (((pr_sup hF hG h0).psc (ld G ^ (pl F + 1 - pl G))))
  rw [← (psR_end hF hG h0).2] at this
  omega
theorem GzSt.step {F0 G0 A B : Nat → Rat} {D S : Nat} (h : GzSt F0 G0 D S A B) (h0 : B ≠ pz) {R : Nat → Rat} (hR : R = psR A B (pl A + 1 - pl B)) :
    GzSt F0 G0 D S B (pp R) ∧ pl (pp R) < pl B := by
  have hfR : Fin_ R := by rw [hR]; exact psR_fin h.fA h.fB h0
  have hzR : ZI R := by rw [hR]; exact psR_zi h.zA h.zB _
  have htop : pl R < pl B := by rw [hR]; exact psR_top h.fA h.fB h0
  have hplR := pp_pl hzR hfR
  have hq : ∀ i, qsz (R i) + 1 ≤ (S + 1) * 2 ^ (D - (pl B + pl (pp R))) ∧ pl B + pl (pp R) ≤ D := fun i => by
    rw [hplR]
    have hd := h.deg
    rcases Nat.lt_or_ge (pl A) (pl B) with a | a
    · have e : R = A := by rw [hR, show pl A + 1 - pl B = 0 from by omega]; rfl
      rw [e]
      have := h.qA i
      rw [Nat.add_comm (pl B)]
      exact ⟨this, hd⟩
    · have h2 := (h.room hR).2.2 i
      exact ⟨Nat.le_trans h2 (Nat.mul_le_mul_left _ (Nat.pow_le_pow_right (by decide) (by omega))), by omega⟩
  refine ⟨⟨h.fB, pp_fin hfR, h.zB, pp_zi hzR hfR, h.pB, pp_pp hzR hfR, fun E hE => ?_, (hq 0).2, fun i => ?_, fun i => ?_⟩, by omega⟩
  · rw [dv_pp_iff hzR hfR, ← h.dv E hE]
    have hl := pow_ne (ld_ne h.fB h0) (pl A + 1 - pl B)
    rw [hR, (psR_end h.fA h.fB h0).2, dv_psc_iff hl, dv_step]
  · have h1 := h.qB i
    have := h.deg
    have h2 := (hq 0).2
    refine Nat.le_trans h1 (Nat.mul_le_mul_left _ (Nat.pow_le_pow_right (by decide) ?_))
    rcases Nat.lt_or_ge (pl A) (pl B) with a | a
    · have e : R = A := by rw [hR, show pl A + 1 - pl B = 0 from by omega]; rfl
      rw [hplR, e]; omega
    · omega
  · have h1 := pp_qsz hzR hfR (s := (S + 1) * 2 ^ (D - (pl B + pl (pp R))) - 1) (fun i => by have := (hq i).1; omega) i
    have := (hq i).1
    omega
theorem mn_psc {a : Rat} (ha : a ≠ 0) {F : Nat → Rat} (h : Fin_ F) : mn (psc a F) = mn F := by
  by_cases h0 : F = pz
  · rw [h0, psc_pz]
  · have hl := ld_ne h h0
    unfold mn
    rw [ld_psc ha h, psc_psc]
    congr 1
    grind
theorem psc_zero (F : Nat → Rat) : psc 0 F = pz := by funext n; simp only [psc, pz]; grind
theorem mn_eq_pz {F : Nat → Rat} (h : Fin_ F) (e : mn F = pz) : F = pz := (pl_zero h).1 (by rw [← mn_pl h, e, pl_pz])
theorem GzSt.end_ {F0 G0 A B : Nat → Rat} {D S : Nat} (h : GzSt F0 G0 D S A B) (fF : Fin_ F0) (fG : Fin_ G0) (zF : ZI F0) (zG : ZI G0) (h0 : B = pz) :
    IsZG F0 G0 (psc ((Nat.gcd (cn F0) (cn G0) : Nat) : Rat) A) := by
  have hg : IsG F0 G0 (mn A) := by
    subst h0
    exact (IsG.zero h.fA).of h.dv
  obtain ⟨c, hc⟩ : ∃ c, c = Nat.gcd (cn F0) (cn G0) := ⟨_, rfl⟩
  rw [← hc]
  by_cases hc0 : c = 0
  · have e1 : cn F0 = 0 := Nat.eq_zero_of_gcd_eq_zero_left (hc.symm.trans hc0)
    have e2 : cn G0 = 0 := Nat.eq_zero_of_gcd_eq_zero_right (hc.symm.trans hc0)
    have z1 : F0 = pz := Classical.byContradiction fun hn => cn_ne zF fF hn e1
    have z2 : G0 = pz := Classical.byContradiction fun hn => cn_ne zG fG hn e2
    rw [hc0]
    show IsZG F0 G0 (psc ((0 : Nat) : Rat) A)
    rw [show ((0 : Nat) : Rat) = 0 from rfl, psc_zero, z1, z2]
    refine ⟨Fin_.pz, ZI.pz, fun hn => absurd rfl hn, by rw [cn_pz]; rfl, ?_⟩
    exact IsG.zero Fin_.pz
  · have hcr : ((c : Nat) : Rat) ≠ 0 := by exact_mod_cast hc0
    have hA : A ≠ pz := fun e => by
      rw [e, mn_pz] at hg
      have z1 := dv_pz hg.2.2.1
      have z2 := dv_pz hg.2.2.2.1
      rw [z1, z2, cn_pz] at hc
      exact hc0 hc
    have e1 : cn A = 1 := by rw [← h.pA]; exact cn_pp h.zA h.fA hA
    have e2 : 0 < ld A := by rw [← h.pA]; exact pp_lead h.zA h.fA hA
    have ci : ((c : Nat) : Rat) = (((c : Nat) : Int) : Rat) := rfl
    refine ⟨h.fA.psc _, by rw [ci]; exact h.zA.psc _, fun _ => ?_, ?_, by rw [mn_psc hcr h.fA]; exact hg⟩
    · rw [ld_psc hcr h.fA]
      refine Rat.mul_pos ?_ e2
      exact_mod_cast Nat.pos_of_ne_zero hc0
    · rw [ci, cn_psc (by exact_mod_cast hc0) h.zA h.fA, e1, ← hc]; simp
theorem IsZG.uniq {F G D E : Nat → Rat} (h : IsZG F G D) (k : IsZG F G E) : D = E := by
  obtain ⟨f1, z1, l1, c1, g1⟩ := h
  obtain ⟨f2, z2, l2, c2, g2⟩ := k
  have e := g1.uniq g2
  by_cases hD : D = pz
  · have : E = pz := mn_eq_pz f2 (by rw [← e, hD, mn_pz])
    rw [hD, this]
  have hE : E ≠ pz := fun hE => hD (mn_eq_pz f1 (by rw [e, hE, mn_pz]))
  have hcD := cn_ne z1 f1 hD
  -- E = a D with a positive; the contents agree
  have lD := l1 hD; have lE := l2 hE
  have hDl := ld_ne f1 hD; have hEl := ld_ne f2 hE
  have e1 : psc (ld E) D = psc (ld D) E := by
    funext n
    have := congrFun e n
    show ld E * D n = ld D * E n
    simp only [mn, psc] at this
    have h1 : ld D * ld E * (1 / ld D * D n) = ld D * ld E * (1 / ld E * E n) := by rw [this]
    grind
  obtain ⟨x, hx⟩ : ∃ x : Int, ld D = (x : Rat) := z1 _
  obtain ⟨y, hy⟩ : ∃ y : Int, ld E = (y : Rat) := z2 _
  have hx0 : 0 < x := by rw [hx] at lD; exact_mod_cast lD
  have hy0 : 0 < y := by rw [hy] at lE; exact_mod_cast lE
  have e2 : cn (psc (ld E) D) = cn (psc (ld D) E) := by rw [e1]
  rw [hx, hy, cn_psc (by omega) z1 f1, cn_psc (by omega) z2 f2, c1, c2, ← c1] at e2
  have e3 : y.natAbs = x.natAbs := Nat.eq_of_mul_eq_mul_right (Nat.pos_of_ne_zero hcD) e2
  have e4 : x = y := by omega
  have : ld D = ld E := by rw [hx, hy, e4]
  rw [this] at e1
  funext n
  have := congrFun e1 n
  simp only [psc] at this
  grind
theorem zi_quot {F Q D : Nat → Rat} (zF : ZI F) (fF : Fin_ F) (zD : ZI D) (fD : Fin_ D) (hD : D ≠ pz) (fQ : Fin_ Q) (e : F = cv Q D) (hc : cn D ∣ cn F) : ZI Q := by
  obtain ⟨n, hs⟩ := fQ
  have fQ : Fin_ Q := ⟨n, hs⟩
  have zC := clr_zi hs
  have fC := clr_fin (n := n) fQ
  have e1 : psc (((dl n Q : Nat) : Int) : Rat) F = cv (clr n Q) D := by
    rw [e]; unfold clr; rw [psc_cv]; rfl
  have hdl := dl_pos Q n
  have e2 : cn (psc (((dl n Q : Nat) : Int) : Rat) F) = cn (cv (clr n Q) D) := by rw [e1]
  rw [cn_psc (by omega) zF fF, gauss zC zD fC fD, Int.natAbs_natCast] at e2
  obtain ⟨m, hm⟩ := hc
  have hcD := Nat.pos_of_ne_zero (cn_ne zD fD hD)
  have e3 : dl n Q * m = cn (clr n Q) := by
    refine Nat.eq_of_mul_eq_mul_right hcD ?_
    rw [← e2, hm, Nat.mul_assoc, Nat.mul_comm m]
  intro i
  have h1 := cn_dvd fC i
  have h2 : ((dl n Q : Nat) : Int) ∣ (clr n Q i).num := Int.dvd_trans ⟨(m : Int), by rw [← e3]; simp⟩ h1
  obtain ⟨k, hk⟩ := h2
  refine ⟨k, ?_⟩
  have h3 := zC.num i
  rw [hk, Rat.intCast_mul] at h3
  have h4 : clr n Q i = ((dl n Q : Nat) : Rat) * Q i := rfl
  rw [h4] at h3
  have h5 := dl_ne n Q
  have h6 : (((dl n Q : Nat) : Int) : Rat) = ((dl n Q : Nat) : Rat) := rfl
  rw [h6] at h3
  grind
theorem IsZG.zdv {F G D : Nat → Rat} (h : IsZG F G D) (zF : ZI F) (fF : Fin_ F) (hD : D ≠ pz) : Zdv F D := by
  obtain ⟨f1, z1, l1, c1, g1⟩ := h
  obtain ⟨Q, fQ, e⟩ := g1.2.2.1
  have e1 : F = cv (psc (1 / ld D) Q) D := by rw [e]; unfold mn; rw [cv_psc, psc_cv]
  exact ⟨_, zi_quot zF fF z1 f1 hD (fQ.psc _) e1 (by rw [c1]; exact Nat.gcd_dvd_left _ _), fQ.psc _, e1⟩
theorem bez_ex : ∀ (n : Nat) {F G : Nat → Rat}, Fin_ F → Fin_ G → pl G ≤ n → ∃ U V D, Fin_ U ∧ Fin_ V ∧ IsG F G D ∧ pad (cv U F) (cv V G) = D := by
  intro n
  induction n with
  | zero =>
    intro F G fF fG hn
    have : G = pz := (pl_zero fG).1 (by omega)
    subst this
    refine ⟨psc (1 / ld F) pone, pz, mn F, Fin_.psc _ ⟨1, (Sup.pz 0).cs 1⟩, Fin_.pz, IsG.zero fF, ?_⟩
    rw [psc_cv, pone_cv, pz_cv]
    funext m; simp only [pad, pz, mn]; grind
  | succ n ih =>
    intro F G fF fG hn
    by_cases h0 : G = pz
    · exact ih fF fG (by rw [h0, pl_pz]; omega)
    · have hp := pl_pos fG h0
      have hr := pl_le (pr_sup fF fG h0)
      obtain ⟨U, V, D, fU, fV, hg, e⟩ := ih fG (pr_fin fF fG) (by omega)
      refine ⟨V, psb U (cv V (pq F G)), D, fV, fU.psb (fV.cv (pq_fin F G)), hg.of fun E hE => dv_step, ?_⟩
      rw [← e]
      have e1 : cv V F = pad (cv V (cv (pq F G) G)) (cv V (pr F G)) := by
        have h2 : cv V F = cv V (pad (cv (pq F G) G) (pr F G)) := by rw [← pq_pr F G]
        rw [h2, cv_pad]
      rw [e1, psb_cv, cv_assoc]
      funext m; simp only [pad, psb]; grind
theorem IsG.bez {F G D : Nat → Rat} (fF : Fin_ F) (fG : Fin_ G) (h : IsG F G D) : ∃ U V, Fin_ U ∧ Fin_ V ∧ pad (cv U F) (cv V G) = D := by
  obtain ⟨U, V, D', fU, fV, hg, e⟩ := bez_ex (pl G) fF fG (Nat.le_refl _)
  exact ⟨U, V, fU, fV, by rw [h.uniq hg]; exact e⟩
theorem Dv.cvr {D F : Nat → Rat} (h : Dv D F) (H : Nat → Rat) : Dv (Hp.cv D H) (Hp.cv F H) := by
  obtain ⟨Q, fQ, e⟩ := h
  exact ⟨Q, fQ, by rw [e, cv_assoc]⟩
theorem isG_common {F G D H P : Nat → Rat} (fF : Fin_ F) (fG : Fin_ G) (fH : Fin_ H) (h : IsG F G (mn D)) (fD : Fin_ D) {a : Rat} (ha : a ≠ 0) (hP : P = psc a (cv D H)) : IsG (cv F H) (cv G H) (mn P) := by
  have fP : Fin_ P := by rw [hP]; exact (fD.cv fH).psc a
  refine ⟨mn_fin fP, fun hn => mn_ld fP (fun e => hn (by rw [e, mn_pz])), ?_, ?_, fun E hE k1 k2 => ?_⟩
  · have h1 : Dv (cv D H) (cv F H) := ((dv_mn D).trans h.2.2.1).cvr H
    have h2 : Dv (mn P) (cv D H) := by
      rw [hP, mn_psc ha (fD.cv fH)]; exact mn_dv (fD.cv fH)
    exact h2.trans h1
  · have h1 : Dv (cv D H) (cv G H) := ((dv_mn D).trans h.2.2.2.1).cvr H
    have h2 : Dv (mn P) (cv D H) := by
      rw [hP, mn_psc ha (fD.cv fH)]; exact mn_dv (fD.cv fH)
    exact h2.trans h1
  · obtain ⟨U, V, fU, fV, e⟩ := h.bez fF fG
    have h1 : Dv E (cv (mn D) H) := by
      rw [← e, pad_cv, cv_assoc, cv_assoc]
      exact (k1.mul fU).pad (k2.mul fV)
    have h2 : Dv E (cv D H) := by
      obtain ⟨Q, fQ, e2⟩ := mn_dv fD
      rw [e2, cv_assoc]; exact h1.mul fQ
    rw [dv_mn_iff fP, hP, dv_psc_iff ha]; exact h2
theorem IsZG.common {F G D H E : Nat → Rat} (fF : Fin_ F) (fG : Fin_ G) (zF : ZI F) (zG : ZI G) (fH : Fin_ H) (zH : ZI H) (h : IsZG F G D) (k : IsZG (cv F H) (cv G H) E) : E = cv D H ∨ E = psc ((-1 : Int) : Rat) (cv D H) := by
  obtain ⟨f1, z1, l1, c1, g1⟩ := h
  have hcn : ∀ a : Int, a.natAbs = 1 → cn (psc (a : Rat) (cv D H)) = Nat.gcd (cn (cv F H)) (cn (cv G H)) := fun a ha => by
    rw [cn_psc (by omega) (z1.cv zH) (f1.cv fH), ha, Nat.one_mul, gauss z1 zH f1 fH, gauss zF zH fF fH, gauss zG zH fG fH, c1, Nat.gcd_mul_right]
  have key : ∀ a : Int, a.natAbs = 1 → (cv D H ≠ pz → 0 < (a : Rat) * ld (cv D H)) → E = psc (a : Rat) (cv D H) := fun a ha hl => by
    have ha0 : (a : Rat) ≠ 0 := by
      have : a ≠ 0 := by omega
      exact_mod_cast this
    refine k.uniq ⟨(f1.cv fH).psc _, (z1.cv zH).psc a, fun hn => ?_, hcn a ha, isG_common fF fG fH g1 f1 ha0 rfl⟩
    rw [ld_psc ha0 (f1.cv fH)]
    exact hl fun e => hn (by rw [e, psc_pz])
  by_cases hp : 0 < ld (cv D H)
  · refine .inl ?_
    have := key 1 rfl (fun _ => by simpa using hp)
    rwa [show (((1 : Int)) : Rat) = 1 from rfl, psc_one] at this
  · refine .inr (key (-1) rfl (fun hn => ?_))
    have := ld_ne (f1.cv fH) hn
    have e : (((-1 : Int)) : Rat) = -1 := rfl
    rw [e]
    have h2 : ld (cv D H) < 0 := Rat.lt_of_le_of_ne (Rat.not_lt.1 hp) this
    grind
theorem GzSt.run {F0 G0 : Nat → Rat} {D S : Nat} : ∀ (n : Nat) {A B : Nat → Rat}, GzSt F0 G0 D S A B → pl B ≤ n → ∃ A', GzSt F0 G0 D S A' pz := by
  intro n
  induction n with
  | zero =>
    intro A B h hn
    have : B = pz := (pl_zero h.fB).1 (by omega)
    subst this
    exact ⟨A, h⟩
  | succ n ih =>
    intro A B h hn
    by_cases h0 : B = pz
    · subst h0; exact ⟨A, h⟩
    · obtain ⟨h1, h2⟩ := h.step h0 rfl
      exact ih h1 (by omega)
open Classical in
/-- The greatest common divisor over the integers. -/
noncomputable def zgc (F G : Nat → Rat) : Nat → Rat := if h : ∃ D, IsZG F G D then h.choose else pz
theorem zgc_eq {F G D : Nat → Rat} (h : IsZG F G D) : zgc F G = D := by
  have hx : ∃ D, IsZG F G D := ⟨D, h⟩
  unfold zgc
  rw [dif_pos hx]
  exact hx.choose_spec.uniq h
theorem one_le_qsz (q : Rat) : 1 ≤ qsz q := by
  unfold qsz
  have := sz_pos (n := q.den) (by have := q.den_pos; omega)
  omega
theorem zgc_all {F G : Nat → Rat} {S : Nat} (fF : Fin_ F) (fG : Fin_ G) (zF : ZI F) (zG : ZI G) (qF : ∀ i, qsz (F i) ≤ S) (qG : ∀ i, qsz (G i) ≤ S) : IsZG F G (zgc F G) ∧ ∀ i, qsz (zgc F G i) ≤ S + (S + 1) * 2 ^ (pl F + pl G) := by
  obtain ⟨A, h⟩ := (GzSt.start fF fG zF zG qF qG).run (pl (pp G)) (Nat.le_refl _)
  have h1 := h.end_ fF fG zF zG rfl
  have h2 := zgc_eq h1
  rw [h2]
  refine ⟨h1, fun i => ?_⟩
  have h3 := qsz_mul (((Nat.gcd (cn F) (cn G) : Nat)) : Rat) (A i)
  have h4 := (h.room rfl).1 i
  have h5 : qsz (((Nat.gcd (cn F) (cn G) : Nat)) : Rat) ≤ S := by
    show qsz ((((Nat.gcd (cn F) (cn G) : Nat) : Int)) : Rat) ≤ S
    rw [qsz_cast]
    have a1 := one_le_qsz (F 0)
    have a2 := qF 0
    have b1 := cn_sz qF (pl F)
    have b2 : sz (Nat.gcd (cn F) (cn G)) ≤ S := by
      by_cases e : cn F = 0
      · have b3 := cn_sz qG (pl G)
        rw [e, Nat.gcd_zero_left]; exact b3
      · exact Nat.le_trans (sz_mono (Nat.gcd_le_left _ (Nat.pos_of_ne_zero e))) b1
    simp only [Int.natAbs_natCast]
    omega
  show qsz ((((Nat.gcd (cn F) (cn G) : Nat)) : Rat) * A i) ≤ _
  omega
theorem zgc_pl {F G : Nat → Rat} {S : Nat} (fF : Fin_ F) (fG : Fin_ G) (zF : ZI F) (zG : ZI G) (qF : ∀ i, qsz (F i) ≤ S) (qG : ∀ i, qsz (G i) ≤ S) : pl (zgc F G) ≤ max (pl F) (pl G) := by
  have h := (zgc_all fF fG zF zG qF qG).1
  have hm := mn_pl h.1
  by_cases hF : F = pz
  · by_cases hG : G = pz
    · have : cn (zgc F G) = 0 := by rw [h.2.2.2.1, hF, hG, cn_pz]; rfl
      have hz : zgc F G = pz := Classical.byContradiction fun hn => cn_ne h.2.1 h.1 hn this
      rw [hz, pl_pz]; omega
    · have := Dv.le (mn_fin h.1) fG hG h.2.2.2.2.2.2.2.1
      omega
  · have := Dv.le (mn_fin h.1) fF hF h.2.2.2.2.2.2.1
    omega
end Go.Hp
namespace Go.Proofs.YtfacbpnegkjcgaaDoor
open Go.RowKit Go.Hp
set_option maxRecDepth 20000 in
set_option maxHeartbeats 8000000 in
theorem zgcd_z (v u : Value) (l m : List Int) (S M : Nat) (w : World) (hv : HzV 0 w v l) (hu : HzV 0 w u m) (hs : ∀ i, qsz (cz l i) ≤ S) (ht : ∀ i, qsz (cz m i) ≤ S) (hn : l.length ≤ 549755813888) (hm : m.length ≤ 549755813888) (hM : (S + 1) * 2 ^ (pl (cz l) + pl (cz m)) ≤ M) (hB : M + (pl (cz l) + pl (cz m) + 1) * (M + 1) + M ≤ 549755813888) :
    Calls Tryd.prog 13 #[v, u] w (Gives w fun r w' => IsZP 0 w' r (zgc (cz l) (cz m))) := by
  have HV := Lib.hid hv; have HU := Lib.hid hu
  obtain ⟨A0, c0, rfl⟩ := hv.len
  obtain ⟨A1, c1, rfl⟩ := hu.len
  clear hv hu
  have hc1 := pl_le (cz_sup l)
  have hc2 := pl_le (cz_sup m)
  have hSM : S + 1 ≤ M := by
    have h : 0 < 2 ^ (pl (cz l) + pl (cz m)) := Nat.pow_pos (by decide)
    have := Nat.le_mul_of_pos_right (S + 1) h; omega
  have hcn : sz (cn (cz l)) ≤ S ∧ sz (cn (cz m)) ≤ S := ⟨cn_sz hs _, cn_sz ht _⟩
  have hst := GzSt.start (Fin_.cz l) (Fin_.cz m) (ZI.cz l) (ZI.cz m) hs ht
  have hP1 := fun W (x : Ext w W) => primitive_zp _ l W (HV.out.ext x) (by omega)
  have hP2 := fun W (x : Ext w W) => primitive_zp _ m W (HU.out.ext x) (by omega)
  have hC1 := content_zp _ l w HV.out (by omega)
  have hC2 := fun W (x : Ext w W) => content_zp _ m W (HU.out.ext x) (by omega)
  have hz := (show (∀ A, GzSt (cz l) (cz m) (pl (cz l) + pl (cz m)) S A pz → psc ((Nat.gcd (cn (cz l)) (cn (cz m)) : Nat) : Rat) A = zgc (cz l) (cz m)) from
    fun A h => (zgc_eq (h.end_ (Fin_.cz l) (Fin_.cz m) (ZI.cz l) (ZI.cz m) rfl)).symm)
  have hpl : pl (cz l) + pl (cz m) ≤ 1099511627776 := by omega
  obtain ⟨F, hF⟩ : ∃ F, F = cz l := ⟨_, rfl⟩
  obtain ⟨G, hG⟩ : ∃ G, G = cz m := ⟨_, rfl⟩
  rw [← hF] at hcn hC1
  rw [← hG] at hcn
  rw [← hF, ← hG] at hM hB hst hz hpl ⊢
  simp only [← hF] at hP1
  simp only [← hG] at hP2 hC2
  have HC := Lib.hid (And.intro hC1 (And.intro hC2 (And.intro hP1 hP2)))
  have HX := Lib.hid (And.intro hM (And.intro hB (And.intro hz (And.intro hcn hSM))))
  have HSt := Lib.hid (And.intro hst hpl)
  clear hs ht hn hm hM hB hc1 hc2 hSM hcn hst hP1 hP2 hC1 hC2 hz hF hG hpl HV HU
  go_enter Tryd.func13, Tryd.ntmps13
  go_wp2_with fail
  refine Calls.mono HC.out.1 ?_
  rintro e w1 ⟨r1, rfl, hr1, hx⟩
  go_wp2_with fail
  refine Calls.mono (HC.out.2.1 w1 hx) ?_
  rintro e w2 ⟨r2, rfl, hr2, hx2⟩
  have H12 := Lib.hid (And.intro ((hr1.kd hx2.kd).has (by have h1 := HX.out.2.2.2.1.1; have h2 := HX.out.2.2.2.2; have h3 := HX.out.2.1; simp; omega)) (hr2.has (by have h1 := HX.out.2.2.2.1.2; have h2 := HX.out.2.2.2.2; have h3 := HX.out.2.1; simp; omega)))
  replace hx := hx.trans hx2
  clear hr1 hr2 hx2
  go_wp2_with fail
  refine Calls.mono (gcd_z _ _ (cn F : Nat) (cn G : Nat) _ H12.out.1 H12.out.2) ?_
  rintro e w3 ⟨r3, rfl, hr3, hx3⟩
  obtain ⟨b5, A5, n5, c5, rfl⟩ := hr3.cells
  obtain ⟨cc, hcc⟩ : ∃ cc : Nat, cc = Nat.gcd (cn F) (cn G) := ⟨_, rfl⟩
  replace hr3 : IsZ w3 (.agg #[.bool b5, .slice A5 n5 c5]) (cc : Nat) := by rw [hcc]; exact hr3
  obtain ⟨W4, eW4, e4, x4⟩ := Box.made w3 28 #[.bool b5, .slice A5 n5 c5] (by simp [isDig])
  have ec := BoxZ.mk e4 (hr3.kd x4.kd)
  replace hx := (hx.trans hx3).trans x4
  have HCC := Lib.hid hcc
  clear hx3 x4 hr3 e4 H12 hcc
  go_wp2_with fail
  rw [← eW4]
  clear eW4
  generalize w3.heap.size = gc at *
  refine Calls.mono (HC.out.2.2.1 W4 hx) ?_
  rintro e w5 ⟨r5, rfl, hr5, hx5⟩
  have ec5 := ec.ext hx5
  replace hx := hx.trans hx5
  have H5 := Lib.hid (hr5.base_le (Nat.zero_le _)); clear hr5 hx5
  go_wp2_with fail
  refine Calls.mono (HC.out.2.2.2 w5 hx) ?_
  rintro e w6 ⟨r6, rfl, hr6, hx6⟩
  replace ec5 := ec5.ext hx6
  replace hx := hx.trans hx6
  have h5 := H5.out.ext hx6
  have h6 := hr6.base_le (Nat.zero_le _)
  clear hr6 hx6 H5
  go_wp2
  go_loopw [0, 1] (fun fv gv wr => ∃ A B, IsZP 0 wr fv A ∧ IsZP 0 wr gv B ∧ GzSt F G (pl F + pl G) S A B ∧ BoxZ wr gc 28 (cc : Nat) ∧ Ext w wr) (fun _ gv _ => lenV gv)
  case atStart => exact ⟨_, _, h5, h6, HSt.out.1, ec5, hx⟩
  case round =>
    clear h5 h6 ec5 hx ec
    obtain ⟨A, B, hA, hB, hst, ec, hx⟩ := hrel
    obtain ⟨A2, c2, rfl, -⟩ := hA.shape
    obtain ⟨A3, c3, rfl, -⟩ := hB.shape
    have HA := Lib.hid (And.intro hA hB); clear hA hB
    have HS := Lib.hid hst; clear hst
    by_cases h0 : 0 < pl B
    · have hbn : B ≠ pz := fun e => by rw [e, pl_pz] at h0; omega
      have hroom := HS.out.room rfl
      have hpl := HS.out.deg
      have HR := Lib.hid (show (∀ i, qsz (A i) ≤ M) ∧ (∀ i, qsz (B i) ≤ M) ∧ M + (pl A + 1) * (M + 1) + M ≤ 549755813888 ∧ B ≠ pz ∧ pl A ≤ 1099511627776 ∧ pl B ≤ 1099511627776 from by
        refine ⟨fun i => Nat.le_trans (hroom.1 i) HX.out.1, fun i => Nat.le_trans (hroom.2.1 i) HX.out.1, ?_, hbn, by have := HSt.out.2; omega, by have := HSt.out.2; omega⟩
        have h1 := HX.out.2.1
        have h2 : (pl A + 1) * (M + 1) ≤ (pl F + pl G + 1) * (M + 1) := Nat.mul_le_mul_right _ (by omega)
        omega)
      have hst2 := HS.out.step hbn (R := psR A B (pl A + 1 - pl B)) rfl
      have HS2 := Lib.hid (And.intro hst2.1 (And.intro hst2.2 hroom.2.2)); clear hst2 hbn hroom hpl
      go_wp2_with fail
      refine Calls.mono (pdiv_p _ _ A B M _ HA.out.1 HA.out.2 HR.out.1 HR.out.2.1 HR.out.2.2.2.1 (by have h1 := HR.out.2.2.1; have : (pl A + 1) * 1 ≤ (pl A + 1) * (M + 1) := Nat.mul_le_mul_left _ (by omega); omega) (by
        have h1 := HX.out.2.1; have h2 := HS.out.deg
        have : (pl F + pl G + 1) * 1 ≤ (pl F + pl G + 1) * (M + 1) := Nat.mul_le_mul_left _ (by omega); omega) HR.out.2.2.1) ?_
      rintro e w7 ⟨r7, rfl, ⟨qv, rv, rfl, hq, hr⟩, hx7⟩
      have hrr := hr.base_le (b := 0) (Nat.zero_le _)
      have hB7 := HA.out.2.ext hx7
      have ec7 := ec.ext hx7
      replace hx := hx.trans hx7
      have H7 := Lib.hid (And.intro hrr hB7); clear hr hrr hB7 hq hx7 ec
      go_wp2_with fail
      refine Calls.mono (primitive_p _ _ _ H7.out.1 (fun i => by
        have h1 := HS2.out.2.2 i
        have h2 := HX.out.1
        have h3 : (S + 1) * 2 ^ (pl F + pl G - (pl A + pl B) + (pl A + 1 - pl B)) ≤ (S + 1) * 2 ^ (pl F + pl G) * 2 := by
          have e1 : (S + 1) * 2 ^ (pl F + pl G) * 2 = (S + 1) * 2 ^ (pl F + pl G + 1) := by rw [Nat.pow_succ, Nat.mul_assoc]
          rw [e1]
          refine Nat.mul_le_mul_left _ (Nat.pow_le_pow_right (by decide) ?_)
          have := HS.out.deg
          omega
        have h4 := HX.out.2.1
        omega) (by have := psR_top HS.out.fA HS.out.fB HR.out.2.2.2.1; have := HR.out.2.2.2.2.2; omega)) ?_
      rintro e w8 ⟨r8, rfl, hr8, hx8⟩
      have hB8 := H7.out.2.ext hx8
      have hp8 := hr8.base_le (b := 0) (Nat.zero_le _)
      have ec8 := ec7.ext hx8
      replace hx := hx.trans hx8
      obtain ⟨A4, c4, rfl, -⟩ := hr8.shape
      have H8 := Lib.hid (And.intro hB8 hp8); clear hB8 hp8 hr8 hx8 ec7 H7
      go_wp2
      go_roundw
      case rel => exact ⟨_, _, H8.out.1, H8.out.2, HS2.out.1, ec8, hx⟩
      case measure => exact HS2.out.2.1
    · have hbz : B = pz := (pl_zero HS.out.fB).1 (by omega)
      have hroom := HS.out.room rfl
      subst hbz
      have hz := HX.out.2.2.1 A HS.out
      have HZ := Lib.hid (And.intro hz (And.intro hroom.1 (show pl A ≤ 1099511627776 by have := HS.out.deg; have := HSt.out.2; omega))); have h0 : pl pz = 0 := pl_pz
      rw [h0]
      clear hz hroom
      obtain ⟨b, Bv, bn, bc, e8, hb8⟩ := ec
      have Hb := Lib.hid hb8; clear hb8
      obtain ⟨ce80, ce81⟩ := e8.cells2
      have fe8 := e8.frozen
      go_wp2_with fail
      refine Calls.mono (zscale_pp _ _ A (cc : Nat) _ HA.out.1 (fun i => by have h1 := HZ.out.2.1 i; have h2 := HX.out.1; have h3 := HX.out.2.1; omega) (Hb.out.has (by
        rw [HCC.out]
        have h1 := HX.out.2.2.2.1
        have h2 : sz (Nat.gcd (cn F) (cn G)) ≤ S := by
          by_cases e : cn F = 0
          · rw [e, Nat.gcd_zero_left]; exact h1.2
          · exact Nat.le_trans (sz_mono (Nat.gcd_le_left _ (Nat.pos_of_ne_zero e))) h1.1
        have h3 := HX.out.2.2.2.2
        have h4 := HX.out.2.1
        simp only [Int.natAbs_natCast]
        omega)) HZ.out.2.2) ?_
      rintro e w9 ⟨r9, rfl, hr9, hx9⟩
      have h9 : IsZP 0 w9 r9 (zgc F G) := by
        rw [← HZ.out.1, ← HCC.out]; exact hr9
      have H9 := Lib.hid h9; clear h9 hr9
      go_wp2
      go_ret
      exact Gives.mk H9.out (hx.trans hx9)
end Go.Proofs.YtfacbpnegkjcgaaDoor
namespace Go.Hp
/-- The rows' map that is linear in each row, 0 where two rows agree, and 0 at the rows of the identity. -/
structure AltZ (n : Nat) (E : (Nat → Nat → Rat) → Rat) : Prop where
  lin : ∀ (A : Nat → Nat → Rat) (i : Nat), i < n → ∀ (a b : Rat) (u v : Nat → Rat), E (rw_ A i fun c => a * u c + b * v c) = a * E (rw_ A i u) + b * E (rw_ A i v)
  alt : ∀ (A : Nat → Nat → Rat) (i j : Nat), i < n → j < n → i ≠ j → A i = A j → E A = 0
  cong : ∀ (A B : Nat → Nat → Rat), (∀ i j, i < n → j < n → A i j = B i j) → E A = E B
  one : E (fun i j => if i = j then 1 else 0) = 0
theorem php : ∀ (n : Nat) (s : Nat → Nat), (∀ i, i < n + 1 → s i < n) → ∃ i j, i < j ∧ j < n + 1 ∧ s i = s j
  | 0, s, h => absurd (h 0 (by omega)) (by omega)
  | n + 1, s, h => by
    by_cases e : ∃ i, i < n + 1 ∧ s i = s (n + 1)
    · obtain ⟨i, hi, e⟩ := e
      exact ⟨i, n + 1, hi, by omega, e⟩
    · have e' : ∀ i, i < n + 1 → s i ≠ s (n + 1) := fun i hi q => e ⟨i, hi, q⟩
      obtain ⟨i, j, hij, hj, q⟩ := php n (fun i => if s i < s (n + 1) then s i else s i - 1) (fun i hi => by
        have h1 := h i (by omega)
        have h2 := h (n + 1) (by omega)
        have h3 := e' i hi
        show (if s i < s (n + 1) then s i else s i - 1) < n
        split <;> omega)
      refine ⟨i, j, hij, by omega, ?_⟩
      have h1 := e' i (by omega)
      have h2 := e' j hj
      have q' : (if s i < s (n + 1) then s i else s i - 1) = (if s j < s (n + 1) then s j else s j - 1) := q
      split at q' <;> split at q' <;> omega
theorem AltZ.swap {n : Nat} {E : (Nat → Nat → Rat) → Rat} (h : AltZ n E) (A : Nat → Nat → Rat) {i j : Nat} (hi : i < n) (hj : j < n) (hne : i ≠ j) : E (rw_ (rw_ A i (A j)) j (A i)) = - E A := by
  obtain ⟨u, hu⟩ : ∃ u, u = A i := ⟨_, rfl⟩
  obtain ⟨v, hv⟩ : ∃ v, v = A j := ⟨_, rfl⟩
  have comm : ∀ x y : Nat → Rat, rw_ (rw_ A i x) j y = rw_ (rw_ A j y) i x := fun x y => by
    funext r c; unfold rw_
    by_cases a : r = j
    · subst a; rw [if_pos rfl, if_neg (Ne.symm hne), if_pos rfl]
    · rw [if_neg a]
      by_cases b : r = i
      · rw [if_pos b, if_pos b]
      · rw [if_neg b, if_neg b, if_neg a]
  have z : ∀ x : Nat → Rat, E (rw_ (rw_ A i x) j x) = 0 := fun x => h.alt _ i j hi hj hne (by
    funext c
    show (if i = j then x c else if i = i then x c else A i c) = (if j = j then x c else _)
    rw [if_neg hne, if_pos rfl, if_pos rfl])
  have l2 : ∀ x a b (y1 y2 : Nat → Rat), E (rw_ (rw_ A i x) j fun c => a * y1 c + b * y2 c) = a * E (rw_ (rw_ A i x) j y1) + b * E (rw_ (rw_ A i x) j y2) := fun x a b y1 y2 => h.lin _ j hj a b y1 y2
  have l1 : ∀ y a b (x1 x2 : Nat → Rat), E (rw_ (rw_ A i fun c => a * x1 c + b * x2 c) j y) = a * E (rw_ (rw_ A i x1) j y) + b * E (rw_ (rw_ A i x2) j y) := fun y a b x1 x2 => by
    rw [comm, comm, comm]; exact h.lin _ i hi a b x1 x2
  have key := z (fun c => 1 * u c + 1 * v c)
  rw [l1, l2, l2, z u, z v] at key
  have hA : rw_ (rw_ A i u) j v = A := by rw [hu, rw_self, hv, rw_self]
  rw [hA] at key
  rw [← hu, ← hv]
  grind
theorem AltZ.sum {n : Nat} {E : (Nat → Nat → Rat) → Rat} (h : AltZ n E) (A : Nat → Nat → Rat) {i : Nat} (hi : i < n) (t : Nat → Rat) (f : Nat → Nat → Rat) : ∀ N, E (rw_ A i fun c => sm N fun k => t k * f k c) = sm N fun k => t k * E (rw_ A i (f k))
  | 0 => by
    have := h.lin A i hi 0 0 (fun _ => 0) (fun _ => 0)
    have e : (fun c => sm 0 fun k => t k * f k c) = fun c : Nat => (0 : Rat) * (0 : Rat) + 0 * 0 := by funext c; rw [sm_zero]; grind
    rw [e, this, sm_zero]; grind
  | N + 1 => by
    have e : (fun c => sm (N + 1) fun k => t k * f k c) = fun c => 1 * (sm N fun k => t k * f k c) + t N * f N c := by funext c; rw [sm_succ]; grind
    rw [e, h.lin A i hi, AltZ.sum h A hi t f N, sm_succ]; grind
/-- The row with one 1. -/
def er (c : Nat) : Nat → Rat := fun k => if k = c then 1 else 0
theorem AltZ.perm {n : Nat} {E : (Nat → Nat → Rat) → Rat} (h : AltZ n E) : ∀ (d : Nat) (A : Nat → Nat → Rat) (s : Nat → Nat) (m : Nat), n = m + d → (∀ i, i < n → s i < n ∧ A i = er (s i)) → (∀ i, i < m → s i = i) → E A = 0
  | 0, A, s, m, hd, hA, hs => by
    rw [← h.one]
    refine h.cong _ _ fun i j hi hj => ?_
    rw [(hA i hi).2, hs i (by omega)]
    show (if j = i then (1 : Rat) else 0) = if i = j then 1 else 0
    by_cases e : i = j
    · rw [if_pos e, if_pos e.symm]
    · rw [if_neg e, if_neg (Ne.symm e)]
  | d + 1, A, s, m, hd, hA, hs => by
    by_cases hinj : ∃ i j, i < n ∧ j < n ∧ i ≠ j ∧ s i = s j
    · obtain ⟨i, j, hi, hj, hne, e⟩ := hinj
      exact h.alt A i j hi hj hne (by rw [(hA i hi).2, (hA j hj).2, e])
    · have hinj' : ∀ i j, i < n → j < n → s i = s j → i = j := fun i j hi hj e => Classical.byContradiction fun hne => hinj ⟨i, j, hi, hj, hne, e⟩
      have hex : ∃ j, j < n ∧ s j = m := by
        refine Classical.byContradiction fun hno => ?_
        have hno' : ∀ j, j < n → s j ≠ m := fun j hj e => hno ⟨j, hj, e⟩
        obtain ⟨n', rfl⟩ : ∃ n', n = n' + 1 := ⟨n - 1, by omega⟩
        obtain ⟨i, j, hij, hj, q⟩ := php n' (fun i => if s i < m then s i else s i - 1) (fun i hi => by
          have h1 := (hA i hi).1
          have h2 := hno' i hi
          show (if s i < m then s i else s i - 1) < n'
          split <;> omega)
        have h1 := hno' i (by omega)
        have h2 := hno' j hj
        have : s i = s j := by
          have q' : (if s i < m then s i else s i - 1) = (if s j < m then s j else s j - 1) := q
          split at q' <;> split at q' <;> omega
        have := hinj' i j (by omega) hj this
        omega
      obtain ⟨j, hj, e⟩ := hex
      have hjm : m ≤ j := by
        rcases Nat.lt_or_ge j m with a | a
        · have := hs j a; omega
        · exact a
      by_cases hjm' : j = m
      · subst hjm'
        refine AltZ.perm h d A s (j + 1) (by omega) hA fun i hi => ?_
        rcases Nat.lt_or_ge i j with a | a
        · exact hs i a
        · obtain rfl : i = j := by omega
          exact e
      · have h2 := AltZ.perm h d (rw_ (rw_ A m (A j)) j (A m)) (fun i => if i = m then s j else if i = j then s m else s i) (m + 1) (by omega) (fun i hi => by
          by_cases a : i = m
          · subst a
            simp only [if_pos]
            refine ⟨by rw [e]; exact hi, ?_⟩
            funext c
            show (if i = j then A i c else if i = i then A j c else A i c) = _
            rw [if_neg (Ne.symm hjm'), if_pos rfl, (hA j hj).2]
          · by_cases b : i = j
            · subst b
              rw [if_neg a, if_pos rfl]
              refine ⟨(hA m (by omega)).1, ?_⟩
              funext c
              show (if i = i then A m c else _) = _
              rw [if_pos rfl, (hA m (by omega)).2]
            · rw [if_neg a, if_neg b]
              refine ⟨(hA i hi).1, ?_⟩
              funext c
              show (if i = j then A m c else if i = m then A j c else A i c) = _
              rw [if_neg b, if_neg a, (hA i hi).2]) (fun i hi => by
          by_cases a : i = m
          · simp only [if_pos a]; rw [e, a]
          · simp only [if_neg a]
            rw [if_neg (by omega)]; exact hs i (by omega))
        have h3 := h.swap A (i := m) (j := j) (by omega) hj (Ne.symm hjm')
        rw [h2] at h3
        grind
theorem row_er (v : Nat → Rat) (n c : Nat) (h : c < n) : v c = sm n fun k => v k * er k c := by
  rw [sm_one (f := fun k => v k * er k c) h (fun i _ hne => by show v i * (if c = i then 1 else 0) = 0; rw [if_neg (Ne.symm hne)]; grind)]
  show v c = v c * (if c = c then 1 else 0)
  rw [if_pos rfl]; grind
theorem AltZ.all {n : Nat} {E : (Nat → Nat → Rat) → Rat} (h : AltZ n E) : ∀ (m : Nat), m ≤ n → ∀ (A : Nat → Nat → Rat), (∀ i, m ≤ i → i < n → ∃ c, c < n ∧ A i = er c) → E A = 0
  | 0, _, A, hA => by
    have hA' : ∀ i, ∃ c, i < n → c < n ∧ A i = er c := fun i => by
      by_cases hi : i < n
      · obtain ⟨c, hc⟩ := hA i (Nat.zero_le _) hi; exact ⟨c, fun _ => hc⟩
      · exact ⟨0, fun h => absurd h hi⟩
    exact h.perm n A (fun i => Classical.choose (hA' i)) 0 (by omega) (fun i hi => Classical.choose_spec (hA' i) hi) (fun i hi => by omega)
  | m + 1, hm, A, hA => by
    have e : E A = E (rw_ A m fun c => sm n fun k => A m k * er k c) := by
      refine h.cong _ _ fun i j hi hj => ?_
      unfold rw_
      split
      · rename_i e; rw [e]; exact row_er _ _ _ hj
      · rfl
    rw [e, h.sum A (by omega)]
    rw [show sm n (fun k => A m k * E (rw_ A m (er k))) = sm n fun _ => 0 from sm_congr fun k hk => by
      rw [AltZ.all h m (by omega) (rw_ A m (er k)) fun i hi hin => ?_]
      · grind
      · by_cases a : i = m
        · exact ⟨k, hk, by subst a; funext c; show (if i = i then er k c else _) = _; rw [if_pos rfl]⟩
        · obtain ⟨c, hc1, hc2⟩ := hA i (by omega) hin
          exact ⟨c, hc1, by rw [← hc2]; funext x; show (if i = m then er k x else A i x) = _; rw [if_neg a]⟩]
    exact sm_nil n
/-- The product of matrices. -/
def mm (n : Nat) (A B : Nat → Nat → Rat) : Nat → Nat → Rat := fun i j => sm n fun k => A i k * B k j
theorem det_id (n : Nat) : det n (fun i j => if i = j then 1 else 0) = 1 := by
  induction n with
  | zero => rfl
  | succ n ih =>
    rw [det_col (k := 0) (by omega) (fun i hi hne => by rw [if_neg (by omega)])]
    have e : minor 0 (fun i j => if i = j then (1 : Rat) else 0) = fun i j => if i = j then 1 else 0 := by
      funext r c
      show (if sk 0 r = c + 1 then (1 : Rat) else 0) = _
      rw [sk_0]
      by_cases a : r = c
      · rw [if_pos (by omega), if_pos a]
      · rw [if_neg (by omega), if_neg a]
    rw [e, ih]; rw [sg_zero]; grind
theorem mm_rw (n : Nat) (A B : Nat → Nat → Rat) (i : Nat) (v : Nat → Rat) : mm n (rw_ A i v) B = rw_ (mm n A B) i (fun j => sm n fun k => v k * B k j) := by
  funext r c
  unfold mm rw_
  by_cases e : r = i
  · simp only [if_pos e]
  · simp only [if_neg e]
theorem det_mul (n : Nat) (A B : Nat → Nat → Rat) : det n (mm n A B) = det n A * det n B := by
  have hE : AltZ n (fun A => det n (mm n A B) - det n A * det n B) := by
    refine ⟨fun A i hi a b u v => ?_, fun A i j hi hj hne e => ?_, fun A A' e => ?_, ?_⟩
    · show det n (mm n (rw_ A i _) B) - _ = _
      rw [mm_rw, mm_rw, mm_rw, det_lin A hi]
      have e : (fun j => sm n fun k => (a * u k + b * v k) * B k j) = fun j => a * (sm n fun k => u k * B k j) + b * (sm n fun k => v k * B k j) := by
        funext j
        rw [← sm_mul, ← sm_mul, ← sm_add]
        exact sm_congr fun k _ => by grind
      rw [e, det_lin _ hi]; grind
    · show det n (mm n A B) - det n A * det n B = 0
      rw [det_equal hi hj hne e, det_equal (A := mm n A B) hi hj hne (by funext c; show sm n (fun k => A i k * B k c) = sm n (fun k => A j k * B k c); rw [e])]
      grind
    · show det n (mm n A B) - det n A * det n B = det n (mm n A' B) - det n A' * det n B
      rw [det_congr (B := A') e, det_congr (A := mm n A B) (B := mm n A' B) fun i j hi hj => sm_congr fun k hk => by rw [e i k hi hk]]
    · show det n (mm n _ B) - _ = 0
      rw [det_id, det_congr (A := mm n (fun i j => if i = j then 1 else 0) B) (B := B) fun i j hi hj => by
        show sm n (fun k => (if i = k then 1 else 0) * B k j) = B i j
        rw [sm_one (f := fun k => (if i = k then (1 : Rat) else 0) * B k j) hi (fun k _ hne => by show (if i = k then (1 : Rat) else 0) * B k j = 0; rw [if_neg (Ne.symm hne)]; grind)]
        show (if i = i then (1 : Rat) else 0) * B i j = _
        rw [if_pos rfl]; grind]
      grind
  have := hE.all n (Nat.le_refl _) A (fun i h1 h2 => by omega)
  grind
end Go.Hp
namespace Go.Hp
theorem sm_rev (f : Nat → Rat) : ∀ n, sm (n + 1) f = sm (n + 1) fun i => f (n - i)
  | 0 => by rw [sm_succ, sm_succ, sm_zero, sm_zero]
  | n + 1 => by
    rw [sm_succ, sm_rev f n, sm_front (n + 1)]
    rw [show sm (n + 1) (fun i => f (n + 1 - (i + 1))) = sm (n + 1) (fun i => f (n - i)) from sm_congr fun i _ => by congr 1; omega]
    rw [Nat.sub_zero]; grind
/-- A shifted product of two rows of coefficients. -/
theorem conv {N p q j : Nat} {X Y : Nat → Rat} (hp : p < N) (hX : Sup (p + 1) X) :
    sm N (fun c => (if c ≤ p then X (p - c) else 0) * (if j ≤ q + c then Y (q + c - j) else 0)) = if j ≤ p + q then cv X Y (p + q - j) else 0 := by
  have h1 : sm N (fun c => (if c ≤ p then X (p - c) else 0) * (if j ≤ q + c then Y (q + c - j) else 0)) = sm (p + 1) (fun c => (if c ≤ p then X (p - c) else 0) * (if j ≤ q + c then Y (q + c - j) else 0)) :=
    sm_tail (fun i hi => by rw [if_neg (by omega)]; grind) (by omega)
  rw [h1, sm_rev]
  by_cases hj : j ≤ p + q
  · rw [if_pos hj, cv_at hX]
    refine sm_congr fun i hi => ?_
    rw [if_pos (by omega), show p - (p - i) = i from by omega]
    by_cases a : i ≤ p + q - j
    · rw [if_pos (by omega), if_pos a]; congr 2; omega
    · rw [if_neg (by omega), if_neg a]
  · rw [if_neg hj]
    rw [show sm (p + 1) (fun i => (if p - i ≤ p then X (p - (p - i)) else 0) * (if j ≤ q + (p - i) then Y (q + (p - i) - j) else 0)) = sm (p + 1) fun _ => 0 from sm_congr fun i hi => by
      rw [if_neg (show ¬ j ≤ q + (p - i) by omega)]; grind]
    exact sm_nil _
/-- Beside the matrix S of n rows the identity. -/
def bd (n : Nat) (S : Nat → Nat → Rat) : Nat → Nat → Rat := fun i c => if i < n then (if c < n then S i c else 0) else if i = c then 1 else 0
theorem det_bd : ∀ (n k : Nat) (S : Nat → Nat → Rat), det (n + k) (bd n S) = det n S
  | 0, k, S => by
    rw [Nat.zero_add, det_zero, ← det_id k]
    exact det_congr fun i j _ _ => by unfold bd; rw [if_neg (by omega)]
  | n + 1, k, S => by
    rw [show n + 1 + k = (n + k) + 1 from by omega, det_succ, det_succ]
    have h1 : sm (n + k + 1) (fun i => sg i * bd (n + 1) S i 0 * det (n + k) (minor i (bd (n + 1) S))) = sm (n + 1) (fun i => sg i * bd (n + 1) S i 0 * det (n + k) (minor i (bd (n + 1) S))) := by
      have key : ∀ b, n + 1 ≤ b → sm b (fun i => sg i * bd (n + 1) S i 0 * det (n + k) (minor i (bd (n + 1) S))) = sm (n + 1) (fun i => sg i * bd (n + 1) S i 0 * det (n + k) (minor i (bd (n + 1) S))) := fun b hb =>
        sm_tail (fun i hi => by unfold bd; rw [if_neg (by omega), if_neg (by omega)]; grind) hb
      exact key _ (by omega)
    rw [h1]
    refine sm_congr fun i hi => ?_
    have e1 : bd (n + 1) S i 0 = S i 0 := by unfold bd; rw [if_pos hi, if_pos (by omega)]
    have e2 : det (n + k) (minor i (bd (n + 1) S)) = det (n + k) (bd n (minor i S)) := by
      refine det_congr fun r c _ _ => ?_
      unfold minor bd sk
      by_cases a : r < i
      · simp only [if_pos a]
        rw [if_pos (show r < n + 1 by omega), if_pos (show r < n by omega)]
        by_cases b : c < n
        · rw [if_pos (show c + 1 < n + 1 by omega), if_pos b]
        · rw [if_neg (show ¬ c + 1 < n + 1 by omega), if_neg b]
      · simp only [if_neg a]
        by_cases d : r < n
        · rw [if_pos (show r + 1 < n + 1 by omega), if_pos d]
          by_cases b : c < n
          · rw [if_pos (show c + 1 < n + 1 by omega), if_pos b]
          · rw [if_neg (show ¬ c + 1 < n + 1 by omega), if_neg b]
        · rw [if_neg (show ¬ r + 1 < n + 1 by omega), if_neg d]
          by_cases b : r = c
          · rw [if_pos (by omega), if_pos b]
          · rw [if_neg (by omega), if_neg b]
    rw [e1, e2, det_bd n k (minor i S)]
/-- The rows of G, then those of two identities, exchanged. -/
def gx (n k m : Nat) (G : Nat → Rat) : Nat → Nat → Rat := fun i c =>
  if i < k then (if c < n + k then (if c ≤ n + i then G (n + i - c) else 0) else 0)
  else if i < k + m then (if c = n + i then 1 else 0) else (if c + m = i then 1 else 0)
theorem det_gx {n m : Nat} {G : Nat → Rat} (hG : Sup (n + 1) G) : ∀ k, det (k + m + n) (gx n k m G) = sg (m * n) * G n ^ k
  | 0 => by
    have h1 : det (m + n) (syl n pone m (mono m 1)) = sg (m * n) * rsf m (mono m 1) n pone := by
      rw [show m + n = n + m from by omega]
      exact rsf_sym (m := m) (n := n) (F := mono m 1) (G := pone) (mono_sup m 1) (((Sup.pz 0).cs 1).mono (by omega))
    have h2 : rsf m (mono m 1) n pone = 1 := by
      refine (det_congr (B := fun i j => if i = j then 1 else 0) fun i j _ _ => ?_).trans (det_id (m + n))
      unfold syl
      by_cases a : i < n
      · rw [if_pos a]
        by_cases b : j ≤ m + i
        · rw [if_pos b]; unfold mono
          by_cases c : i = j
          · rw [if_pos (by omega), if_pos c]
          · rw [if_neg (by omega), if_neg c]
        · rw [if_neg b, if_neg (by omega)]
      · rw [if_neg a]
        by_cases b : j ≤ i
        · rw [if_pos b]
          by_cases c : i = j
          · subst c; rw [Nat.sub_self, if_pos rfl]; rfl
          · rw [if_neg c]
            obtain ⟨d, hd⟩ : ∃ d, i - j = d + 1 := ⟨i - j - 1, by omega⟩
            rw [hd]; rfl
        · rw [if_neg b, if_neg (by omega)]
    rw [h2, Rat.mul_one] at h1
    rw [Nat.zero_add, Rat.pow_zero, Rat.mul_one, ← h1]
    refine det_congr fun i j _ _ => ?_
    unfold gx syl
    rw [if_neg (by omega)]
    by_cases a : i < m
    · rw [if_pos (by omega), if_pos a]
      by_cases b : j = n + i
      · rw [if_pos b, if_pos (by omega), show n + i - j = 0 from by omega]; rfl
      · rw [if_neg b]
        by_cases c : j ≤ n + i
        · rw [if_pos c]
          obtain ⟨d, hd⟩ : ∃ d, n + i - j = d + 1 := ⟨n + i - j - 1, by omega⟩
          rw [hd]; rfl
        · rw [if_neg c]
    · rw [if_neg (by omega), if_neg a]
      by_cases b : j + m = i
      · rw [if_pos b, if_pos (by omega)]; unfold mono; rw [if_pos (by omega)]
      · rw [if_neg b]
        by_cases c : j ≤ i
        · rw [if_pos c]; unfold mono; rw [if_neg (by omega)]
        · rw [if_neg c]
  | k + 1 => by
    rw [show k + 1 + m + n = (k + m + n) + 1 from by omega, det_col (k := 0) (by omega) (fun i hi hne => by
      unfold gx
      by_cases a : i < k + 1
      · rw [if_pos a, if_pos (by omega), if_pos (by omega)]; exact hG _ (by omega)
      · rw [if_neg a]
        by_cases b : i < k + 1 + m
        · rw [if_pos b, if_neg (by omega)]
        · rw [if_neg b, if_neg (by omega)])]
    have e1 : gx n (k + 1) m G 0 0 = G n := by unfold gx; rw [if_pos (by omega), if_pos (by omega), if_pos (by omega)]; rfl
    have e2 : det (k + m + n) (minor 0 (gx n (k + 1) m G)) = det (k + m + n) (gx n k m G) := by
      refine det_congr fun r c _ _ => ?_
      show gx n (k + 1) m G (sk 0 r) (c + 1) = _
      rw [sk_0]
      unfold gx
      by_cases a : r < k
      · rw [if_pos (by omega), if_pos a]
        by_cases b : c < n + k
        · rw [if_pos (by omega), if_pos b]
          by_cases d : c ≤ n + r
          · rw [if_pos (by omega), if_pos d]; congr 1; omega
          · rw [if_neg (by omega), if_neg d]
        · rw [if_neg (by omega), if_neg b]
      · rw [if_neg (by omega), if_neg a]
        by_cases b : r < k + m
        · rw [if_pos (by omega), if_pos b]
          by_cases d : c = n + r
          · rw [if_pos (by omega), if_pos d]
          · rw [if_neg (by omega), if_neg d]
        · rw [if_neg (by omega), if_neg b]
          by_cases d : c + m = r
          · rw [if_pos (by omega), if_pos d]
          · rw [if_neg (by omega), if_neg d]
    rw [e1, e2, det_gx hG k, sg_zero, Rat.pow_succ]; grind
theorem sm_cut {N : Nat} {f : Nat → Rat} {a : Nat} (ha : a ≤ N) (h : ∀ i, a ≤ i → i < N → f i = 0) : sm N f = sm a f := by
  obtain ⟨d, rfl⟩ : ∃ d, N = a + d := ⟨N - a, by omega⟩
  induction d with
  | zero => rfl
  | succ d ih => rw [← Nat.add_assoc, sm_succ, h (a + d) (by omega) (by omega), ih (by omega) (fun i h1 h2 => h i h1 (by omega))]; grind
theorem mm_eq {m n k : Nat} {F G H : Nat → Rat} (hF : Sup (m + 1) F) (hG : Sup (n + 1) G) (hH : Sup (k + 1) H) (i j : Nat) (hi : i < k + m + n) (hj : j < k + m + n) :
    mm (k + m + n) (bd (m + k) (syl m F k H)) (syl n G (m + k) F) i j = mm (k + m + n) (gx n k m G) (syl m F (n + k) (cv G H)) i j := by
  unfold mm
  by_cases a : i < k
  · -- u' F G
    have l1 : sm (k + m + n) (fun c => bd (m + k) (syl m F k H) i c * syl n G (m + k) F c j) = sm (m + k) (fun c => (if c ≤ m + i then F (m + i - c) else 0) * (if j ≤ n + c then G (n + c - j) else 0)) := by
      rw [sm_cut (a := m + k) (by omega) (fun c h1 h2 => by unfold bd; rw [if_pos (show i < m + k by omega), if_neg (show ¬ c < m + k by omega)]; grind)]
      refine sm_congr fun c hc => ?_
      unfold bd syl
      rw [if_pos (show i < m + k by omega), if_pos hc, if_pos a, if_pos hc]
    have l2 : sm (k + m + n) (fun c => gx n k m G i c * syl m F (n + k) (cv G H) c j) = sm (n + k) (fun c => (if c ≤ n + i then G (n + i - c) else 0) * (if j ≤ m + c then F (m + c - j) else 0)) := by
      rw [sm_cut (a := n + k) (by omega) (fun c h1 h2 => by unfold gx; rw [if_pos a, if_neg (show ¬ c < n + k by omega)]; grind)]
      refine sm_congr fun c hc => ?_
      unfold gx syl
      rw [if_pos a, if_pos hc, if_pos hc]
    rw [l1, l2, conv (by omega) (hF.mono (by omega)), conv (by omega) (hG.mono (by omega)), cv_comm G F]
    by_cases b : j ≤ m + i + n
    · rw [if_pos b, if_pos (by omega)]; congr 1; omega
    · rw [if_neg b, if_neg (by omega)]
  · by_cases b : i < k + m
    · have l1 : sm (k + m + n) (fun c => bd (m + k) (syl m F k H) i c * syl n G (m + k) F c j) = sm (m + k) (fun c => (if c ≤ i then H (i - c) else 0) * (if j ≤ n + c then G (n + c - j) else 0)) := by
        rw [sm_cut (a := m + k) (by omega) (fun c h1 h2 => by unfold bd; rw [if_pos (show i < m + k by omega), if_neg (show ¬ c < m + k by omega)]; grind)]
        refine sm_congr fun c hc => ?_
        unfold bd syl
        rw [if_pos (show i < m + k by omega), if_pos hc, if_neg a, if_pos hc]
      have l2 : sm (k + m + n) (fun c => gx n k m G i c * syl m F (n + k) (cv G H) c j) = if j ≤ n + i then cv G H (n + i - j) else 0 := by
        rw [sm_one (k := n + i) (by omega) (fun c hc hne => by unfold gx; rw [if_neg a, if_pos b, if_neg hne]; grind)]
        unfold gx syl
        rw [if_neg a, if_pos b, if_pos rfl, if_neg (show ¬ n + i < n + k by omega)]; grind
      rw [l1, l2, conv (by omega) (hH.mono (by omega)), cv_comm H G]
      by_cases d : j ≤ i + n
      · rw [if_pos d, if_pos (by omega)]; congr 1; omega
      · rw [if_neg d, if_neg (by omega)]
    · have l1 : sm (k + m + n) (fun c => bd (m + k) (syl m F k H) i c * syl n G (m + k) F c j) = if j ≤ i then F (i - j) else 0 := by
        rw [sm_one (k := i) hi (fun c hc hne => by unfold bd; rw [if_neg (show ¬ i < m + k by omega), if_neg (Ne.symm hne)]; grind)]
        unfold bd syl
        rw [if_neg (show ¬ i < m + k by omega), if_pos rfl, if_neg (show ¬ i < m + k by omega)]; grind
      have l2 : sm (k + m + n) (fun c => gx n k m G i c * syl m F (n + k) (cv G H) c j) = if j ≤ i then F (i - j) else 0 := by
        rw [sm_one (k := i - m) (by omega) (fun c hc hne => by unfold gx; rw [if_neg a, if_neg b, if_neg (by omega)]; grind)]
        unfold gx syl
        rw [if_neg a, if_neg b, if_pos (by omega), if_pos (show i - m < n + k by omega)]
        by_cases d : j ≤ i
        · rw [if_pos (by omega), if_pos d, show m + (i - m) - j = i - j from by omega]; grind
        · rw [if_neg (by omega), if_neg d]; grind
      rw [l1, l2]
theorem rsf_mul {m n k : Nat} {F G H : Nat → Rat} (hF : Sup (m + 1) F) (hG : Sup (n + 1) G) (hH : Sup (k + 1) H) (h0 : G n ≠ 0) : rsf m F (n + k) (cv G H) = rsf m F n G * rsf m F k H := by
  have e : det (k + m + n) (mm (k + m + n) (bd (m + k) (syl m F k H)) (syl n G (m + k) F)) = det (k + m + n) (mm (k + m + n) (gx n k m G) (syl m F (n + k) (cv G H))) :=
    det_congr fun i j hi hj => mm_eq hF hG hH i j hi hj
  rw [det_mul, det_mul, det_gx hG] at e
  have e1 : det (k + m + n) (bd (m + k) (syl m F k H)) = rsf m F k H := by
    rw [show k + m + n = (m + k) + n from by omega]; exact det_bd _ _ _
  have e2 : det (k + m + n) (syl n G (m + k) F) = sg (m * n) * G n ^ k * rsf m F n G := by
    have h1 : rsf n G (m + k) F = sg ((m + k) * n) * rsf (m + k) F n G := rsf_sym (hF.mono (by omega)) hG
    have h2 := rsf_down (r := m) (n := n) (R := F) (G := G) hF hG k
    have h3 : det (k + m + n) (syl n G (m + k) F) = rsf n G (m + k) F := by unfold rsf; rw [show n + (m + k) = k + m + n from by omega]
    rw [h3, h1, h2]
    have h4 : sg ((m + k) * n) * sg (n * k) = sg (m * n) := by
      rw [Nat.add_mul, sg_add, Nat.mul_comm k n]
      have := sg_sq (n * k)
      rw [Rat.mul_assoc, this, Rat.mul_one]
    rw [← h4]; grind
  have e3 : det (k + m + n) (syl m F (n + k) (cv G H)) = rsf m F (n + k) (cv G H) := by unfold rsf; rw [show m + (n + k) = k + m + n from by omega]
  rw [e1, e2, e3] at e
  have n1 : sg (m * n) ≠ 0 := fun h => by have := sg_sq (m * n); rw [h] at this; grind
  have n2 : G n ^ k ≠ 0 := pow_ne h0 k
  have n3 : sg (m * n) * G n ^ k ≠ 0 := fun h => by
    rcases Rat.mul_eq_zero.1 h with h | h
    · exact n1 h
    · exact n2 h
  have e4 : sg (m * n) * G n ^ k * (rsf m F (n + k) (cv G H)) = sg (m * n) * G n ^ k * (rsf m F n G * rsf m F k H) := by rw [← e]; grind
  have e5 : sg (m * n) * G n ^ k * (rsf m F (n + k) (cv G H) - rsf m F n G * rsf m F k H) = 0 := by grind
  rcases Rat.mul_eq_zero.1 e5 with h | h
  · exact absurd h n3
  · grind
theorem res_mul {F G H : Nat → Rat} (fF : Fin_ F) (fG : Fin_ G) (fH : Fin_ H) : res F (cv G H) = res F G * res F H := by
  by_cases hF : F = pz
  · rw [hF]; unfold res; rw [if_pos (.inl pl_pz), if_pos (.inl pl_pz)]; grind
  by_cases hG : G = pz
  · rw [hG, pz_cv]; unfold res; rw [if_pos (.inr pl_pz)]; grind
  by_cases hH : H = pz
  · rw [hH, cv_pz]; unfold res; rw [if_pos (.inr pl_pz)]; grind
  have hc : cv G H ≠ pz := fun e => (cv_eq_zero fG fH e).elim hG hH
  rw [res_eq fF (fG.cv fH) hF hc, res_eq fF fG hF hG, res_eq fF fH hF hH, pl_cv fG fH hG hH]
  have p1 := pl_pos fG hG
  have p2 := pl_pos fH hH
  rw [show pl G + pl H - 1 - 1 = (pl G - 1) + (pl H - 1) from by omega]
  exact rsf_mul (sup_top fF) (sup_top fG) (sup_top fH) (pl_top fG p1)
/-- The resultant is 0 exactly for a common divisor that is not constant. -/
theorem res_zero_iff {F G D : Nat → Rat} (fF : Fin_ F) (fG : Fin_ G) (hF : F ≠ pz) (hG : G ≠ pz) (hD : IsG F G D) : res F G = 0 ↔ 1 < pl D := by
  have fD := hD.1
  have hDn : D ≠ pz := fun e => by
    have := hD.2.2.1
    rw [e] at this
    exact hF (dv_pz this)
  have pD := pl_pos fD hDn
  constructor
  · intro h
    refine Classical.byContradiction fun hn => ?_
    have hp1 : pl D = 1 := by omega
    obtain ⟨U, V, fU, fV, e⟩ := hD.bez fF fG
    -- U F + V G = D, a constant
    have h1 : res F (cv V G) = 0 := by rw [res_mul fF fV fG, h]; grind
    have hsD : Sup 1 D := by rw [← hp1]; exact pl_sup fD
    have hd0 : D 0 ≠ 0 := by have := pl_top fD pD; rwa [hp1] at this
    -- V G = D - U F
    have e2 : cv V G = pad D (cv (psc (-1) U) F) := by
      rw [psc_cv, ← e]; funext n; simp only [pad, psc]; grind
    obtain ⟨N, hN1, hN2⟩ : ∃ N, Sup (N + 1) (cv V G) ∧ Sup (N - (pl F - 1) + 1) (psc (-1) U) ∧ pl F - 1 ≤ N := by
      obtain ⟨a, ha⟩ := fV.cv fG
      obtain ⟨b, hb⟩ := fU.psc (-1)
      exact ⟨a + b + pl F, ha.mono (by omega), hb.mono (by omega), by omega⟩
    have h2 : rsf (pl F - 1) F N (cv V G) = F (pl F - 1) ^ N * D 0 ^ 0 * 1 ∨ True := .inr trivial
    have hlF : F (pl F - 1) ≠ 0 := pl_top fF (pl_pos fF hF)
    have h3 : rsf (pl F - 1) F N (cv V G) = rsf (pl F - 1) F N D := by
      rw [e2]; exact rsf_red' hN2.2 hN2.1
    have up : ∀ (N r : Nat) (R : Nat → Rat), Sup (r + 1) R → r ≤ N → rsf (pl F - 1) F N R = F (pl F - 1) ^ (N - r) * rsf (pl F - 1) F r R := by
      intro N r R hR hr
      obtain ⟨d, rfl⟩ : ∃ d, N = r + d := ⟨N - r, by omega⟩
      clear hr
      induction d with
      | zero => rw [Nat.add_zero, Nat.sub_self, Rat.pow_zero, Rat.one_mul]
      | succ d ih =>
        rw [← Nat.add_assoc]
        have hs : rsf (pl F - 1) F (r + d + 1) R = F (pl F - 1) * rsf (pl F - 1) F (r + d) R := by
          obtain ⟨q, hq⟩ : ∃ q, q = pl F - 1 := ⟨_, rfl⟩
          rw [← hq]
          exact rsf_g0 (m := q) (n := r + d) (by rw [hq]; exact sup_top fF) (.inr (hR.mono (by omega)))
        rw [hs, ih, show r + d + 1 - r = (r + d - r) + 1 from by omega, Rat.pow_succ]; grind
    have h4 : rsf (pl F - 1) F N D = F (pl F - 1) ^ N * D 0 ^ (pl F - 1) := by
      rw [up N 0 D hsD (Nat.zero_le _), Nat.sub_zero, rsf_gc F hsD]
    have h5 : rsf (pl F - 1) F N (cv V G) ≠ 0 := by
      rw [h3, h4]
      intro h
      rcases Rat.mul_eq_zero.1 h with h | h
      · exact pow_ne hlF _ h
      · exact pow_ne hd0 _ h
    by_cases hV : cv V G = pz
    · rw [hV] at h5
      have : rsf (pl F - 1) F N pz = F (pl F - 1) ^ N * rsf (pl F - 1) F 0 pz := by rw [up N 0 pz (Sup.pz _) (Nat.zero_le _), Nat.sub_zero]
      by_cases hpF : pl F = 1
      · -- then D divides, and V G = D - U F with everything constant: V = 0 means G = 0 or V = 0
        have hVz : V = pz := (cv_eq_zero fV fG hV).resolve_right hG
        have e3 : cv U F = D := by rw [← e, hV]; funext n; simp only [pad, pz]; grind
        -- the resultant of a constant with G is a power of the constant
        rw [res_eq fF fG hF hG, hpF, Nat.sub_self, rsf_fc (by rw [← hpF]; exact pl_sup fF)] at h
        rw [hpF] at hlF
        exact pow_ne hlF _ h
      · rw [this, rsf_gc F (Sup.pz 1)] at h5
        have : (pz 0 : Rat) ^ (pl F - 1) = 0 := by
          obtain ⟨q, hq⟩ : ∃ q, pl F - 1 = q + 1 := ⟨pl F - 2, by have := pl_pos fF hF; omega⟩
          rw [hq, Rat.pow_succ]; show _ * (0 : Rat) = 0; grind
        rw [this] at h5
        exact h5 (by grind)
    · have h6 := h1
      rw [res_eq fF (fV.cv fG) hF hV] at h6
      have hle : pl (cv V G) - 1 ≤ N := by have := pl_le hN1; omega
      rw [up N (pl (cv V G) - 1) (cv V G) (sup_top (fV.cv fG)) hle, h6] at h5
      exact h5 (by grind)
  · intro hp
    obtain ⟨Q, fQ, e⟩ := hD.2.2.1
    obtain ⟨P, fP, e2⟩ := hD.2.2.2.1
    have hQ : Q ≠ pz := fun h => hF (by rw [e, h, pz_cv])
    have h1 : res F D = 0 := by
      rw [res_swap fF fD hF hDn]
      have : res D F = 0 := by
        rw [res_eq fD fF hDn hF]
        have hpl := pl_cv fQ fD hQ hDn
        rw [← e] at hpl
        have pQ := pl_pos fQ hQ
        have e3 : F = pad pz (cv Q D) := by rw [e]; funext n; simp only [pad, pz]; grind
        have h2 : rsf (pl D - 1) D (pl F - 1) (pad pz (cv Q D)) = rsf (pl D - 1) D (pl F - 1) pz := rsf_red' (by omega) ((pl_sup fQ).mono (by omega))
        have h3 : rsf (pl D - 1) D (pl F - 1) pz = 0 := by
          have h4 : rsf (pl F - 1) pz (pl D - 1) D = sg ((pl D - 1) * (pl F - 1)) * rsf (pl D - 1) D (pl F - 1) pz := rsf_sym (sup_top fD) (Sup.pz _)
          rw [rsf_pz D (by omega)] at h4
          have n1 : sg ((pl D - 1) * (pl F - 1)) ≠ 0 := fun h => by have := sg_sq ((pl D - 1) * (pl F - 1)); rw [h] at this; grind
          rcases Rat.mul_eq_zero.1 h4.symm with h | h
          · exact absurd h n1
          · exact h
        rw [← e3] at h2
        rw [h2, h3]
      rw [this]; grind
    rw [e2, res_mul fF fP fD, h1]; grind
end Go.Hp
namespace Go.Hp
/-- An integer of at most s digits. -/
def Zs_ (s : Nat) (q : Rat) : Prop := ∃ z : Int, q = (z : Rat) ∧ z.natAbs < bp s
theorem Zs_.mul {s t : Nat} {p q : Rat} (h : Zs_ s p) (k : Zs_ t q) : Zs_ (s + t) (p * q) := by
  obtain ⟨x, rfl, hx⟩ := h
  obtain ⟨y, rfl, hy⟩ := k
  refine ⟨x * y, (Rat.intCast_mul x y).symm, ?_⟩
  rw [Int.natAbs_mul, bp_add]
  exact Nat.mul_lt_mul'' hx hy
theorem Zs_.sg {s : Nat} {q : Rat} (h : Zs_ s q) (i : Nat) : Zs_ s (Hp.sg i * q) := by
  obtain ⟨x, rfl, hx⟩ := h
  unfold Hp.sg
  split
  · exact ⟨x, by grind, hx⟩
  · exact ⟨-x, by rw [Rat.intCast_neg]; grind, by rw [Int.natAbs_neg]; exact hx⟩
theorem sm_zs {s : Nat} {f : Nat → Rat} : ∀ {k : Nat}, (∀ i, i < k → Zs_ s (f i)) → ∃ z : Int, sm k f = (z : Rat) ∧ z.natAbs ≤ k * bp s
  | 0, _ => ⟨0, rfl, by simp⟩
  | k + 1, h => by
    obtain ⟨z, e, hz⟩ := sm_zs (k := k) fun i hi => h i (by omega)
    obtain ⟨y, e2, hy⟩ := h k (by omega)
    refine ⟨z + y, by rw [sm_succ, e, e2, Rat.intCast_add], ?_⟩
    have := Int.natAbs_add_le z y
    rw [Nat.succ_mul]; omega
theorem Zs_.up {s t : Nat} {q : Rat} (h : Zs_ s q) (k : s ≤ t) : Zs_ t q := by
  obtain ⟨x, rfl, hx⟩ := h
  exact ⟨x, rfl, Nat.lt_of_lt_of_le hx (bp_le k)⟩
theorem det_zs {s : Nat} : ∀ {n : Nat} {A : Nat → Nat → Rat}, n < 4294967295 → (∀ i j, Zs_ s (A i j)) → Zs_ (n * (s + 1) + 1) (det n A)
  | 0, A, _, _ => ⟨1, rfl, by show 1 < bp (0 * (s + 1) + 1); rw [Nat.zero_mul, Nat.zero_add]; decide⟩
  | n + 1, A, hn, h => by
    rw [det_succ]
    have h1 : ∀ i, i < n + 1 → Zs_ (s + (n * (s + 1) + 1)) (sg i * A i 0 * det n (minor i A)) := fun i _ => by
      have h2 : Zs_ (n * (s + 1) + 1) (det n (minor i A)) := det_zs (n := n) (by omega) fun r c => h _ _
      have h3 := ((h i 0).sg i).mul h2
      exact h3
    obtain ⟨z, e, hz⟩ := sm_zs h1
    refine ⟨z, e, Nat.lt_of_le_of_lt hz ?_⟩
    rw [show (n + 1) * (s + 1) + 1 = s + (n * (s + 1) + 1) + 1 from by rw [Nat.succ_mul]; omega, bp_succ]
    have hp : 0 < bp (s + (n * (s + 1) + 1)) := bp_pos _
    calc (n + 1) * bp (s + (n * (s + 1) + 1)) < 4294967296 * bp (s + (n * (s + 1) + 1)) := Nat.mul_lt_mul_of_pos_right (by omega) hp
      _ = _ := by rw [Nat.mul_comm]
theorem zs_of {q : Rat} {s : Nat} (h : ∃ z : Int, q = (z : Rat)) (k : qsz q ≤ s) : Zs_ s q := by
  obtain ⟨z, rfl⟩ := h
  rw [qsz_cast] at k
  exact ⟨z, rfl, sz_le_iff.1 (by omega)⟩
theorem Zs_.zero (s : Nat) : Zs_ s 0 := ⟨0, rfl, bp_pos s⟩
theorem res_sz {F G : Nat → Rat} {S : Nat} (zF : ZI F) (zG : ZI G) (qF : ∀ i, qsz (F i) ≤ S) (qG : ∀ i, qsz (G i) ≤ S) (hn : pl F + pl G < 4294967295) : sz (res F G).num.natAbs ≤ (pl F + pl G) * (S + 1) + 1 := by
  have key : Zs_ ((pl F + pl G) * (S + 1) + 1) (res F G) := by
    unfold res
    split
    · exact Zs_.zero _
    · unfold rsf
      refine (det_zs (s := S) (by omega) fun i j => ?_).up (by
        have : (pl F - 1 + (pl G - 1)) * (S + 1) ≤ (pl F + pl G) * (S + 1) := Nat.mul_le_mul_right _ (by omega)
        omega)
      unfold syl
      split
      · split
        · exact zs_of (zF _) (qF _)
        · exact Zs_.zero _
      · split
        · exact zs_of (zG _) (qG _)
        · exact Zs_.zero _
  obtain ⟨z, e, hz⟩ := key
  rw [e]
  exact sz_le_iff.2 hz
theorem res_num_mul {F G H : Nat → Rat} (fF : Fin_ F) (fG : Fin_ G) (fH : Fin_ H) (zF : ZI F) (zG : ZI G) (zH : ZI H) : (res F (cv G H)).num = (res F G).num * (res F H).num := by
  obtain ⟨x, hx⟩ := res_int zF zG
  obtain ⟨y, hy⟩ := res_int zF zH
  rw [res_mul fF fG fH, hx, hy, num_mul]; rfl
theorem res_num_swap {F G : Nat → Rat} (fF : Fin_ F) (fG : Fin_ G) (zF : ZI F) (zG : ZI G) (hF : F ≠ pz) (hG : G ≠ pz) : (res F G).num = sgz ((pl F - 1) * (pl G - 1)) (res G F).num := by
  obtain ⟨x, hx⟩ := res_int zG zF
  have h := res_swap fF fG hF hG
  rw [hx, ← sgz_q] at h
  rw [h, hx]; rfl
end Go.Hp
namespace Go.Hp
theorem zi_cd {F : Nat → Rat} {s : Nat} (z : ZI F) (h : ∀ i, qsz (F i) ≤ s) : CD s F := by
  have h1 := one_le_qsz (F 0)
  have h2 := h 0
  refine ⟨1, bp s - 1, ⟨by omega, fun i => ⟨(F i).num, ?_, ?_⟩⟩, ?_, ?_⟩
  · have e : ((1 : Nat) : Rat) = 1 := rfl
    rw [e, ← z.num i]; grind
  · have h3 := Nat.le_trans (qsz_nm (F i)) (h i)
    have h4 := sz_le_iff.1 h3
    omega
  · have : sz 1 = 1 := by decide
    omega
  · have : 0 < bp s := by have := sz_le_iff.1 (show sz 0 ≤ s by have : sz 0 = 0 := by decide
                                                                omega); omega
    exact sz_le_of_lt (by omega)
theorem cvz_qsz {F G : Nat → Rat} {n s t : Nat} (zF : ZI F) (zG : ZI G) (hs : Sup n F) (hn : n < 4294967296) (h : ∀ i, qsz (F i) ≤ s) (k : ∀ i, qsz (G i) ≤ t) (i : Nat) : qsz (cv F G i) ≤ s + t + 1 :=
  (CD.cv hs hn (zi_cd zF h) (zi_cd zG k)).elem i
end Go.Hp
namespace Go.Proofs.YtfacbpnegkjcgaaDoor
open Go.RowKit Go.Hp
set_option maxRecDepth 20000 in
set_option maxHeartbeats 16000000 in
theorem zmultiplies_law (v0 v1 v2 : Value) (l0 l1 l2 : List RawI) (w : World) (h0 : ZPolyV w v0 l0) (h1 : ZPolyV w v1 l1) (h2 : ZPolyV w v2 l2) :
    Calls Tryd.prog 3 #[v0, v1, v2] w (Gives w fun r _ => r = .bool true) := by
  have H0 := Lib.hid h0; have H1 := Lib.hid h1; have H2 := Lib.hid h2
  obtain ⟨A0, c0, rfl, k1, k2⟩ := h0.len
  obtain ⟨A1, c1, rfl, k3, k4⟩ := h1.len
  obtain ⟨A2, c2, rfl, k5, k6⟩ := h2.len
  clear h0 h1 h2
  go_enter Tryd.func3, Tryd.ntmps3
  go_wp2_with fail
  refine Calls.mono (awake_z _) ?_
  rintro e w1 ⟨r, rfl, rfl, hx⟩
  go_wp2_with fail
  refine Calls.mono (zlong_b 8 2 w1.heap.size 3 [(_, l0), (_, l1), (_, l2)] _ (by decide) (by decide) (by simp) (by simp) (listsZ_three w1 _ (H0.out.ext hx) (H1.out.ext hx) (H2.out.ext hx) rfl)) ?_
  rintro e w2 ⟨rfl, b, rfl, hb⟩
  replace hx := hx.alloc (.cells #[.slice A0 l0.length c0, .slice A1 l1.length c1, .slice A2 l2.length c2] 23)
  have Hb := Lib.hid hb; clear hb
  generalize w1.alloc (.cells #[.slice A0 l0.length c0, .slice A1 l1.length c1, .slice A2 l2.length c2] 23) = wb at hx ⊢
  cases b with
  | true =>
    go_wp2
    go_ret
    exact Gives.mk rfl hx
  | false =>
    obtain ⟨hl0, hs0⟩ := Hb.out (by trivial) (.slice A0 l0.length c0, l0) (by simp)
    obtain ⟨hl1, hs1⟩ := Hb.out (by trivial) (.slice A1 l1.length c1, l1) (by simp)
    obtain ⟨hl2, hs2⟩ := Hb.out (by trivial) (.slice A2 l2.length c2, l2) (by simp)
    simp only at hl0 hs0 hl1 hs1 hl2 hs2
    have P0 := Lib.hid (H0.out.has hs0).1; have P1 := Lib.hid (H1.out.has hs1).1; have P2 := Lib.hid (H2.out.has hs2).1
    have HC := Lib.hid (And.intro (H0.out.qsz hs0) (And.intro (H1.out.qsz hs1) (H2.out.qsz hs2)))
    have hll0 : (l0.map zOf).length = l0.length := by simp
    have hll1 : (l1.map zOf).length = l1.length := by simp
    have hll2 : (l2.map zOf).length = l2.length := by simp
    obtain ⟨m0, hm0⟩ : ∃ m0, m0 = l0.map zOf := ⟨_, rfl⟩
    obtain ⟨m1, hm1⟩ : ∃ m1, m1 = l1.map zOf := ⟨_, rfl⟩
    obtain ⟨m2, hm2⟩ : ∃ m2, m2 = l2.map zOf := ⟨_, rfl⟩
    rw [← hm0] at P0 HC hll0
    rw [← hm1] at P1 HC hll1
    rw [← hm2] at P2 HC hll2
    rw [← hll0] at hl0 k1 P0 ⊢
    rw [← hll1] at hl1 k3 P1 ⊢
    rw [← hll2] at hl2 k5 P2 ⊢
    clear hs0 hs1 hs2 hm0 hm1 hm2 hll0 hll1 hll2 Hb H0 H1 H2
    have s1 : Sup 8 (cz m1) := (cz_sup m1).mono (by omega)
    have s2 : Sup 8 (cz m2) := (cz_sup m2).mono (by omega)
    have p0 : pl (cz m0) ≤ 8 := Nat.le_trans (pl_le (cz_sup m0)) hl0
    have p1 : pl (cz m1) ≤ 8 := pl_le s1
    have p2 : pl (cz m2) ≤ 8 := pl_le s2
    have q12 := cvz_qsz (ZI.cz m1) (ZI.cz m2) s1 (by decide) HC.out.2.1 HC.out.2.2
    have p12 : pl (cv (cz m1) (cz m2)) ≤ 15 := pl_le ((s1.cv s2).mono (by omega))
    have rmul := res_num_mul (Fin_.cz m0) (Fin_.cz m1) (Fin_.cz m2) (ZI.cz m0) (ZI.cz m1) (ZI.cz m2)
    have rs1 := res_sz (ZI.cz m0) (ZI.cz m1) HC.out.1 HC.out.2.1 (by omega)
    have rs2 := res_sz (ZI.cz m0) (ZI.cz m2) HC.out.1 HC.out.2.2 (by omega)
    have rs3 := res_sz (ZI.cz m1) (ZI.cz m0) HC.out.2.1 HC.out.1 (by omega)
    have hBb : ∀ a b : Nat, a ≤ 8 → b ≤ 8 → 8 + 8 * ((a + b + 1) * ((a + b + 1) * ((2 + 1) * 2 ^ (a + b)))) ≤ 1099511627776 := fun a b ha hb => by
      have e1 : 2 ^ (a + b) ≤ 2 ^ 16 := Nat.pow_le_pow_right (by decide) (by omega)
      have e2 : (a + b + 1) * ((a + b + 1) * ((2 + 1) * 2 ^ (a + b))) ≤ 17 * (17 * ((2 + 1) * 2 ^ 16)) := Nat.mul_le_mul (by omega) (Nat.mul_le_mul (by omega) (Nat.mul_le_mul_left _ e1))
      omega
    have hBc : 8 + 8 * ((pl (cz m0) + pl (cv (cz m1) (cz m2)) + 1) * ((pl (cz m0) + pl (cv (cz m1) (cz m2)) + 1) * ((5 + 1) * 2 ^ (pl (cz m0) + pl (cv (cz m1) (cz m2)))))) ≤ 1099511627776 := by
      have e1 : 2 ^ (pl (cz m0) + pl (cv (cz m1) (cz m2))) ≤ 2 ^ 23 := Nat.pow_le_pow_right (by decide) (by omega)
      have e2 : (pl (cz m0) + pl (cv (cz m1) (cz m2)) + 1) * ((pl (cz m0) + pl (cv (cz m1) (cz m2)) + 1) * ((5 + 1) * 2 ^ (pl (cz m0) + pl (cv (cz m1) (cz m2))))) ≤ 24 * (24 * ((5 + 1) * 2 ^ 23)) := Nat.mul_le_mul (by omega) (Nat.mul_le_mul (by omega) (Nat.mul_le_mul_left _ e1))
      omega
    have hres : ∀ W (x : Ext w W), (Calls Tryd.prog 7 #[.slice A0 m0.length c0, .slice A1 m1.length c1] W (Gives W fun r w' => IsZ w' r (res (cz m0) (cz m1)).num)) ∧ (Calls Tryd.prog 7 #[.slice A0 m0.length c0, .slice A2 m2.length c2] W (Gives W fun r w' => IsZ w' r (res (cz m0) (cz m2)).num)) ∧ (Calls Tryd.prog 7 #[.slice A1 m1.length c1, .slice A0 m0.length c0] W (Gives W fun r w' => IsZ w' r (res (cz m1) (cz m0)).num)) := fun W x =>
      ⟨resultant_z _ _ m0 m1 2 W (P0.out.ext x) (P1.out.ext x) HC.out.1 HC.out.2.1 (by omega) (by omega) (hBb _ _ p0 p1), resultant_z _ _ m0 m2 2 W (P0.out.ext x) (P2.out.ext x) HC.out.1 HC.out.2.2 (by omega) (by omega) (hBb _ _ p0 p2), resultant_z _ _ m1 m0 2 W (P1.out.ext x) (P0.out.ext x) HC.out.2.1 HC.out.1 (by omega) (by omega) (hBb _ _ p1 p0)⟩
    obtain ⟨Mg, hMg⟩ : ∃ Mg : Nat, Mg = 196608 := ⟨_, rfl⟩
    have hgcd : ∀ W (x : Ext w W), Calls Tryd.prog 13 #[.slice A0 m0.length c0, .slice A1 m1.length c1] W (Gives W fun r w' => IsZP 0 w' r (zgc (cz m0) (cz m1))) := fun W x => by
      have hpow : 2 ^ (pl (cz m0) + pl (cz m1)) ≤ 2 ^ 16 := Nat.pow_le_pow_right (by decide) (by omega)
      have e1 : (pl (cz m0) + pl (cz m1) + 1) * (Mg + 1) ≤ 17 * (Mg + 1) := Nat.mul_le_mul_right _ (by omega)
      exact zgcd_z _ _ m0 m1 2 Mg W (P0.out.ext x) (P1.out.ext x) HC.out.1 HC.out.2.1 (by omega) (by omega) (by omega) (by omega)
    have hZ := zgc_all (Fin_.cz m0) (Fin_.cz m1) (ZI.cz m0) (ZI.cz m1) HC.out.1 HC.out.2.1
    have hZp := zgc_pl (Fin_.cz m0) (Fin_.cz m1) (ZI.cz m0) (ZI.cz m1) HC.out.1 HC.out.2.1
    have hZq : ∀ i, qsz (zgc (cz m0) (cz m1) i) ≤ 1000000 := fun i => by
      have h1 := hZ.2 i
      have hpow : 2 ^ (pl (cz m0) + pl (cz m1)) ≤ 2 ^ 16 := Nat.pow_le_pow_right (by decide) (by omega)
      omega
    have hdeg : ∀ W (x : Ext w W), (Calls Tryd.prog 11 #[.slice A0 m0.length c0] W (Gives W fun r _ => r = .int .i64 ((pl (cz m0) : Int) - 1))) ∧ (Calls Tryd.prog 11 #[.slice A1 m1.length c1] W (Gives W fun r _ => r = .int .i64 ((pl (cz m1) : Int) - 1))) := fun W x =>
      ⟨degree_rz _ m0 W (P0.out.ext x) (by omega), degree_rz _ m1 W (P1.out.ext x) (by omega)⟩
    have hmulc : ∀ W (x : Ext w W), Calls Tryd.prog 9 #[.slice A1 m1.length c1, .slice A2 m2.length c2] W (Gives W fun r w' => IsZP 0 w' r (cv (cz m1) (cz m2))) := fun W x =>
      Gives.imp (zmul_p _ _ m1 m2 2 2 W (P1.out.ext x) (P2.out.ext x) HC.out.2.1 HC.out.2.2 (by omega) (by omega) (by have : (m1.length + 1) * (2 + 2 + 1) ≤ 9 * 5 := Nat.mul_le_mul_right _ (by omega); omega)) fun _ _ h => h.base_le (Nat.zero_le _)
    have hrc : ∀ W (x : Ext w W) v, IsZP 0 W v (cv (cz m1) (cz m2)) → Calls Tryd.prog 7 #[.slice A0 m0.length c0, v] W (Gives W fun r w' => IsZ w' r (res (cz m0) (cv (cz m1) (cz m2))).num) := fun W x v hv => by
      obtain ⟨l, g1, g2, -, g4⟩ := hv.hz (fun i => by have := q12 i; omega)
      rw [← g4]
      exact resultant_z _ _ m0 l 5 W (P0.out.ext x) g1 (fun i => by have := HC.out.1 i; omega) (by rw [g4]; exact q12) (by omega) (by omega) (by rw [g4]; exact hBc)
    have hfF := Fin_.cz m0; have hfG := Fin_.cz m1; have zF := ZI.cz m0; have zG := ZI.cz m1
    have hzi : cz m0 ≠ pz → cz m1 ≠ pz → ((res (cz m0) (cz m1)).num = sgz ((pl (cz m0) - 1) * (pl (cz m1) - 1)) (res (cz m1) (cz m0)).num ∧ (res (cz m0) (cz m1) = 0 ↔ 1 < pl (zgc (cz m0) (cz m1)))) := fun n0 n1 =>
      ⟨res_num_swap hfF hfG zF zG n0 n1, by rw [res_zero_iff hfF hfG n0 n1 hZ.1.2.2.2.2, mn_pl hZ.1.1]⟩
    obtain ⟨F, hF⟩ : ∃ F, F = cz m0 := ⟨_, rfl⟩
    obtain ⟨G, hG⟩ : ∃ G, G = cz m1 := ⟨_, rfl⟩
    obtain ⟨Hh, hHh⟩ : ∃ Hh, Hh = cz m2 := ⟨_, rfl⟩
    simp only [← hF, ← hG, ← hHh] at rmul rs1 rs2 rs3 hres hgcd hdeg hmulc hrc hzi hfF hfG zF zG p0 p1 p2 hZq hZp
    have HR := Lib.hid (And.intro hres (And.intro hgcd (And.intro hdeg (And.intro hmulc hrc))))
    have HS := Lib.hid (show sz (res F G).num.natAbs ≤ 1000 ∧ sz (res F Hh).num.natAbs ≤ 1000 ∧ sz (res G F).num.natAbs ≤ 1000 ∧ (res F (cv G Hh)).num = (res F G).num * (res F Hh).num from by
      have e1 : (pl F + pl G) * (2 + 1) ≤ 16 * 3 := Nat.mul_le_mul_right _ (by omega)
      have e2 : (pl F + pl Hh) * (2 + 1) ≤ 16 * 3 := Nat.mul_le_mul_right _ (by omega)
      have e3 : (pl G + pl F) * (2 + 1) ≤ 16 * 3 := Nat.mul_le_mul_right _ (by omega)
      exact ⟨by omega, by omega, by omega, rmul⟩)
    have HZ := Lib.hid (And.intro hzi (And.intro hfF (And.intro hfG (And.intro zF (And.intro zG (And.intro hZq (show pl (zgc F G) ≤ 8 by omega)))))))
    have Hp := Lib.hid (And.intro p0 p1)
    clear rmul rs1 rs2 rs3 hres hgcd hdeg hmulc hrc hzi hfF hfG zF zG hBb hBc q12 p12 s1 s2 hZ hZp hZq hF hG hHh hMg P0 P1 P2 HC p0 p1 p2
    go_wp2_with fail
    refine Calls.mono (HR.out.1 _ hx).1 ?_
    rintro e w3 ⟨r3, rfl, hr3, hx3⟩
    obtain ⟨b5, A5, n5, c5, rfl⟩ := hr3.cells
    replace hx := hx.trans hx3
    have H3 := Lib.hid hr3; clear hr3 hx3
    go_wp2_with fail
    refine Calls.mono (HR.out.1 _ hx).2.1 ?_
    rintro e w4 ⟨r4, rfl, hr4, hx4⟩
    obtain ⟨b6, A6, n6, c6, rfl⟩ := hr4.cells
    have eA := (Box.new w4 28 #[.bool b5, .slice A5 n5 c5] (by simp [isDig])).alloc (.cells #[.bool b6, .slice A6 n6 c6] 28)
    have eB := Box.new (w4.alloc (.cells #[.bool b5, .slice A5 n5 c5] 28)) 28 #[.bool b6, .slice A6 n6 c6] (by simp [isDig])
    rw [World.size_alloc] at eB
    have x5 := ((Ext.refl w4).alloc (.cells #[.bool b5, .slice A5 n5 c5] 28)).alloc (.cells #[.bool b6, .slice A6 n6 c6] 28)
    have HA := Lib.hid (H3.out.kd (hx4.trans x5).kd); have HB := Lib.hid (hr4.kd x5.kd)
    replace hx := hx.trans (hx4.trans x5)
    clear hr4 hx4 x5 H3
    go_upto_region 6 with (fail)
    obtain ⟨gA, hgA⟩ : ∃ gA, gA = w4.heap.size := ⟨_, rfl⟩
    rw [← hgA] at eA eB ⊢
    clear hgA
    generalize (w4.alloc (.cells #[.bool b5, .slice A5 n5 c5] 28)).alloc (.cells #[.bool b6, .slice A6 n6 c6] 28) = W5 at *
    obtain ⟨ceA0, ceA1⟩ := eA.cells2
    have feA := eA.frozen
    obtain ⟨ceB0, ceB1⟩ := eB.cells2
    have feB := eB.frozen
    go_wp2_with fail
    refine wp_region_par (k := 9) (D := [26, 27, 28, 29, 30, 31, 32, 33, 34]) (T := [[], [], [], [1, 2], [0, 1, 2, 3], [], [], [0, 1, 2, 3, 4, 5, 6], [0, 1, 2, 3, 4, 5, 6, 7], [0, 1, 2, 3, 4, 5, 6, 7, 8]]) (EK := [0, 1, 2, 7, 8]) (EV := [?e1x0, ?e1x1, ?e1x2, ?e1x3, ?e1x4]) (VL := [(kv ?v1x0), (kv ?v1x1), (kv ?v1x2), (fun γ => γ 3), (fun γ => γ 4), (kv ?v1x5), (kv ?v1x6), (fun γ => γ 7), (kv (.bool true))]) (FL := fun γ w' => [True, True, True, IsZP 0 w' (γ 3) (cv G Hh), IsZ w' (γ 4) (res F (cv G Hh)).num, True, True, IsZ w' (γ 7) (res F (cv G Hh)).num, True]) ?hE1 (by kernel_rfl) (by kernel_rfl) (by rfl) (by kernel_rfl) ?hloc1 ?hmono1 ?hstep1 ?htail1
    case hE1 => refine ⟨?_, ?_, ?_, ?_, ?_, trivial⟩ <;> (simp only [List.getElem?_toArray, List.getElem?_cons_succ, List.getElem?_cons_zero]; rfl)
    case hstep1 =>
      refine ⟨⟨⟨⟨⟨⟨⟨⟨⟨trivial, ?_⟩, ?_⟩, ?_⟩, ?_⟩, ?_⟩, ?_⟩, ?_⟩, ?_⟩, ?_⟩
      · intro γ w' he hf; clear hf; refine ⟨trivial, ?_⟩; intro R hR
        have hc := he.cells
        go_simp
        (try go_ints); (try (rw [if_neg (by omega)])); (try (rw [if_pos (by omega)])); (try go_simp); (try go_ints)
        refine hR _ _ (Ext.refl _) ?_ trivial
        rfl
      · intro γ w' he hf; clear hf; refine ⟨trivial, ?_⟩; intro R hR
        have hc := he.cells
        go_simp
        (try go_ints); (try (rw [if_neg (by omega)])); (try (rw [if_pos (by omega)])); (try go_simp); (try go_ints)
        refine hR _ _ (Ext.refl _) ?_ trivial
        rfl
      · intro γ w' he hf; clear hf; refine ⟨trivial, ?_⟩; intro R hR
        have hc := he.cells
        go_simp
        (try go_ints); (try (rw [if_neg (by omega)])); (try (rw [if_pos (by omega)])); (try go_simp); (try go_ints)
        refine hR _ _ (Ext.refl _) ?_ trivial
        rfl
      · intro γ w' he hf; clear hf; refine ⟨trivial, ?_⟩; intro R hR
        go_simp
        refine Calls.mono (show Calls _ _ _ w' (Gives w' fun r w'' => IsZP 0 w'' (r) (cv G Hh)) from HR.out.2.2.2.1 w' (hx.trans he)) ?_
        rintro e w2 ⟨v, rfl, hv, hx⟩
        exact ⟨v, rfl, hR v w2 hx rfl hv⟩
      · intro γ w' he hf; have f3 : IsZP 0 w' (γ 3) (cv G Hh) := hf 3 (by decide); clear hf; refine ⟨trivial, ?_⟩; intro R hR
        go_simp
        refine Calls.mono (show Calls _ _ _ w' (Gives w' fun r w'' => IsZ w'' (r) (res F (cv G Hh)).num) from HR.out.2.2.2.2 w' (hx.trans he) _ f3) ?_
        rintro e w2 ⟨v, rfl, hv, hx⟩
        exact ⟨v, rfl, hR v w2 hx rfl hv⟩
      · intro γ w' he hf; clear hf; refine ⟨trivial, ?_⟩; intro R hR
        have hc := he.cells
        have cq0 := he.cell ceA0
        have cq1 := he.cell ceA1
        have cq2 := he.cell ceB0
        have cq3 := he.cell ceB1
        go_simp
        (try go_ints); (try (rw [if_neg (by omega)])); (try (rw [if_pos (by omega)])); (try go_simp); (try go_ints)
        refine hR _ _ (Ext.refl _) ?_ trivial
        rfl
      · intro γ w' he hf; clear hf; refine ⟨trivial, ?_⟩; intro R hR
        have hc := he.cells
        have cq0 := he.cell ceA0
        have cq1 := he.cell ceA1
        have cq2 := he.cell ceB0
        have cq3 := he.cell ceB1
        go_simp
        (try go_ints); (try (rw [if_neg (by omega)])); (try (rw [if_pos (by omega)])); (try go_simp); (try go_ints)
        refine hR _ _ (Ext.refl _) ?_ trivial
        rfl
      · intro γ w' he hf; have f3 : IsZP 0 w' (γ 3) (cv G Hh) := hf 3 (by decide); have f4 : IsZ w' (γ 4) (res F (cv G Hh)).num := hf 4 (by decide); clear hf; refine ⟨trivial, ?_⟩; intro R hR
        go_simp
        refine Calls.mono (show Calls _ _ _ w' (Gives w' fun r w'' => IsZ w'' (r) (res F (cv G Hh)).num) from HS.out.2.2.2 ▸ mul_r _ _ _ _ w' ((HA.out.kd he.kd).has (by have := HS.out.1; omega)) ((HB.out.kd he.kd).has (by have := HS.out.2.1; omega)) (by have := HS.out.1; omega) (by have := HS.out.2.1; omega)) ?_
        rintro e w2 ⟨v, rfl, hv, hx⟩
        exact ⟨v, rfl, hR v w2 hx rfl hv⟩
      · intro γ w' he hf; have f3 : IsZP 0 w' (γ 3) (cv G Hh) := hf 3 (by decide); have f4 : IsZ w' (γ 4) (res F (cv G Hh)).num := hf 4 (by decide); have f7 : IsZ w' (γ 7) (res F (cv G Hh)).num := hf 7 (by decide); clear hf; refine ⟨trivial, ?_⟩; intro R hR
        go_simp
        refine Calls.mono (show Calls _ _ _ w' (Gives w' fun r _ => r = .bool true) from sameint_t _ _ _ w' f4 f7) ?_
        rintro e w2 ⟨v, rfl, rfl, hx⟩
        exact ⟨_, rfl, hR _ w2 hx rfl trivial⟩
    case hloc1 =>
      exact ⟨⟨⟨⟨⟨⟨⟨⟨⟨trivial, (fun γ γ' h => ⟨rfl, fun _ => rfl⟩)⟩, (fun γ γ' h => ⟨rfl, fun _ => rfl⟩)⟩, (fun γ γ' h => ⟨rfl, fun _ => rfl⟩)⟩, (fun γ γ' h => ⟨h 3 rfl, fun w' => (congrArg (fun a => IsZP 0 w' (a) (cv G Hh)) (h 3 rfl))⟩)⟩, (fun γ γ' h => ⟨h 4 rfl, fun w' => (congrArg (fun a => IsZ w' (a) (res F (cv G Hh)).num) (h 4 rfl))⟩)⟩, (fun γ γ' h => ⟨rfl, fun _ => rfl⟩)⟩, (fun γ γ' h => ⟨rfl, fun _ => rfl⟩)⟩, (fun γ γ' h => ⟨h 7 rfl, fun w' => (congrArg (fun a => IsZ w' (a) (res F (cv G Hh)).num) (h 7 rfl))⟩)⟩, (fun γ γ' h => ⟨rfl, fun _ => rfl⟩)⟩
    case hmono1 =>
      exact ⟨⟨⟨⟨⟨⟨⟨⟨⟨trivial, (fun γ wA w' e h => h)⟩, (fun γ wA w' e h => h)⟩, (fun γ wA w' e h => h)⟩, (fun γ wA w' e h => (show IsZP 0 wA (γ 3) (cv G Hh) from h).ext e)⟩, (fun γ wA w' e h => (show IsZ wA (γ 4) (res F (cv G Hh)).num from h).ext e)⟩, (fun γ wA w' e h => h)⟩, (fun γ wA w' e h => h)⟩, (fun γ wA w' e h => (show IsZ wA (γ 7) (res F (cv G Hh)).num from h).ext e)⟩, (fun γ wA w' e h => h)⟩
    intro γ w7 hx7 hF
    have p3 : IsZP 0 w7 (γ 3) (cv G Hh) := Each.get hF 3 (by decide)
    have p4 : IsZ w7 (γ 4) (res F (cv G Hh)).num := Each.get hF 4 (by decide)
    have p7 : IsZ w7 (γ 7) (res F (cv G Hh)).num := Each.get hF 7 (by decide)
    clear hF
    simp only [fillAll, gV, kv, List.getD_cons_zero, List.getD_cons_succ, Act.put, List.setIfInBounds_toArray, List.set_cons_zero, List.set_cons_succ, List.toList_toArray, List.drop_succ_cons, List.drop_zero, List.drop_nil, Nat.zero_add, Nat.reduceAdd]
    generalize γ 3 = g3 at *
    generalize γ 4 = g4 at *
    generalize γ 7 = g7 at *
    clear γ
    clear p3 p4 p7 ceA0 ceA1 feA ceB0 ceB1 feB eB HB
    replace eA := eA.ext hx7
    have HA' := Lib.hid (HA.out.kd hx7.kd); clear HA
    replace hx := hx.trans hx7
    clear hx7
    go_wp2_with fail
    refine Calls.mono (HR.out.2.2.1 _ hx).1 ?_
    rintro e w8 ⟨r8, rfl, rfl, hx8⟩
    replace eA := eA.ext hx8
    have HA := Lib.hid (HA'.out.kd hx8.kd); clear HA'
    replace hx := hx.trans hx8
    clear hx8
    go_wp2_with fail
    refine Calls.mono (HR.out.2.2.1 _ hx).2 ?_
    rintro e w9 ⟨r9, rfl, rfl, hx9⟩
    replace eA := eA.ext hx9
    have HA' := Lib.hid (HA.out.kd hx9.kd); clear HA
    replace hx := hx.trans hx9
    clear hx9
    go_wp2_with fail
    refine Calls.mono (HR.out.1 _ hx).2.2 ?_
    rintro e w10 ⟨r10, rfl, hr10, hx10⟩
    obtain ⟨b7, A7, n7, c7, rfl⟩ := hr10.cells
    obtain ⟨W11, eW11, eC, x11⟩ := Box.made w10 28 #[.bool b7, .slice A7 n7 c7] (by simp [isDig])
    have hneA := eA.lt
    have hszC := hx10.size
    have hszW := hx.size
    replace eA := eA.ext (hx10.trans x11)
    have HA := Lib.hid (HA'.out.kd (hx10.trans x11).kd)
    have HCc := Lib.hid (hr10.kd x11.kd)
    replace hx := hx.trans (hx10.trans x11)
    clear hr10 hx10 x11 HA'
    go_upto_region 10 with (fail)
    rw [← eW11]
    clear eW11
    generalize w10.heap.size = gC at *
    have hAC : gA ≠ gC := by omega
    by_cases hF0 : pl F = 0
    · have hFz := (pl_zero HZ.out.2.1).1 hF0
      have e1 : ((pl F : Int) - 1) = -1 := by omega
      have r1 : (res F G).num = 0 := by rw [hFz, res_pzl]; rfl
      have r2 : (res G F).num = 0 := by rw [hFz, res_pzr]; rfl
      have HRz := Lib.hid (And.intro r1 r2); clear hFz r1 r2 hF0
      rw [e1]
      clear e1
      obtain ⟨ceA0, ceA1⟩ := eA.cells2
      have feA := eA.frozen
      obtain ⟨ceC0, ceC1⟩ := eC.cells2
      have feC := eC.frozen
      go_wp2_with fail
      refine Calls.mono (sameint_t _ _ (res F G).num _ HA.out (HRz.out.1 ▸ HRz.out.2 ▸ HCc.out)) ?_
      rintro e w30 ⟨r30, rfl, rfl, hx30⟩
      have HA2 := Lib.hid (HA.out.kd hx30.kd)
      replace eA := eA.ext hx30
      replace hx := hx.trans hx30
      clear hx30 ceA0 ceA1 feA ceC0 ceC1 feC eC
      obtain ⟨ceA0, ceA1⟩ := eA.cells2
      have feA := eA.frozen
      go_wp2_with fail
      refine Calls.mono (sign_r _ (res F G).num _ (HA2.out.has (by have := HS.out.1; omega))) ?_
      rintro e w31 ⟨r31, rfl, rfl, hx31⟩
      replace hx := hx.trans hx31
      rw [HRz.out.1]
      go_wp2
      go_ret
      exact Gives.mk (by rfl) hx
    · obtain ⟨p, hp⟩ : ∃ p, pl F = p + 1 := ⟨pl F - 1, by omega⟩
      have e1 : ((pl F : Int) - 1) = (p : Nat) := by omega
      rw [e1]
      clear e1
      by_cases hG0 : pl G = 0
      · have hGz := (pl_zero HZ.out.2.2.1).1 hG0
        have e2 : ((pl G : Int) - 1) = -1 := by omega
        have r1 : (res F G).num = 0 := by rw [hGz, res_pzr]; rfl
        have r2 : (res G F).num = 0 := by rw [hGz, res_pzl]; rfl
        have HRz := Lib.hid (And.intro r1 r2); clear hGz r1 r2 hG0 hp hF0
        rw [e2]
        clear e2
        by_cases hp0 : 0 < p
        · skip
          obtain ⟨ceA0, ceA1⟩ := eA.cells2
          have feA := eA.frozen
          obtain ⟨ceC0, ceC1⟩ := eC.cells2
          have feC := eC.frozen
          go_wp2_with fail
          refine Calls.mono (sameint_t _ _ (res F G).num _ HA.out (HRz.out.1 ▸ HRz.out.2 ▸ HCc.out)) ?_
          rintro e w30 ⟨r30, rfl, rfl, hx30⟩
          have HA2 := Lib.hid (HA.out.kd hx30.kd)
          replace eA := eA.ext hx30
          replace hx := hx.trans hx30
          clear hx30 ceA0 ceA1 feA ceC0 ceC1 feC eC
          obtain ⟨ceA0, ceA1⟩ := eA.cells2
          have feA := eA.frozen
          go_wp2_with fail
          refine Calls.mono (sign_r _ (res F G).num _ (HA2.out.has (by have := HS.out.1; omega))) ?_
          rintro e w31 ⟨r31, rfl, rfl, hx31⟩
          replace hx := hx.trans hx31
          rw [HRz.out.1]
          go_wp2
          go_ret
          exact Gives.mk (by rfl) hx
        · obtain rfl : p = 0 := by omega
          obtain ⟨ceA0, ceA1⟩ := eA.cells2
          have feA := eA.frozen
          obtain ⟨ceC0, ceC1⟩ := eC.cells2
          have feC := eC.frozen
          go_wp2_with fail
          refine Calls.mono (sameint_t _ _ (res F G).num _ HA.out (HRz.out.1 ▸ HRz.out.2 ▸ HCc.out)) ?_
          rintro e w30 ⟨r30, rfl, rfl, hx30⟩
          have HA2 := Lib.hid (HA.out.kd hx30.kd)
          replace eA := eA.ext hx30
          replace hx := hx.trans hx30
          clear hx30 ceA0 ceA1 feA ceC0 ceC1 feC eC
          obtain ⟨ceA0, ceA1⟩ := eA.cells2
          have feA := eA.frozen
          go_wp2_with fail
          refine Calls.mono (sign_r _ (res F G).num _ (HA2.out.has (by have := HS.out.1; omega))) ?_
          rintro e w31 ⟨r31, rfl, rfl, hx31⟩
          replace hx := hx.trans hx31
          rw [HRz.out.1]
          go_wp2
          go_ret
          exact Gives.mk (by rfl) hx
      · obtain ⟨q, hq⟩ : ∃ q, pl G = q + 1 := ⟨pl G - 1, by omega⟩
        have e2 : ((pl G : Int) - 1) = (q : Nat) := by omega
        rw [e2]
        clear e2
        have nF : F ≠ pz := fun e => hF0 (by rw [e, pl_pz])
        have nG : G ≠ pz := fun e => hG0 (by rw [e, pl_pz])
        have hzz := HZ.out.1 nF nG
        rw [hp, hq, Nat.add_sub_cancel, Nat.add_sub_cancel] at hzz
        have HNz := Lib.hid (show (res F G).num = sgz (p * q) (res G F).num ∧ (res F G = 0 → 1 < pl (zgc F G)) ∧ (1 < pl (zgc F G) → res F G = 0) from ⟨hzz.1, hzz.2.1, hzz.2.2⟩)
        have hp8 : p ≤ 8 := by have := Hp.out.1; omega
        have hq8 : q ≤ 8 := by have := Hp.out.2; omega
        have hpq : (p : Int) * q ≤ 64 := by
          have : p * q ≤ 8 * 8 := Nat.mul_le_mul hp8 hq8
          have e : ((p * q : Nat) : Int) = (p : Int) * q := Int.natCast_mul p q
          omega
        have hpq0 : 0 ≤ (p : Int) * q := by
          have e : ((p * q : Nat) : Int) = (p : Int) * q := Int.natCast_mul p q
          omega
        clear hzz nF nG hF0 hG0 hp hq
        have htm : ∀ b, (decide (p * q % 2 = 1) = b) → (((p : Int) * q) % 2 == 1) = b := fun b hb => by
          rw [← Int.natCast_mul, ← hb]
          by_cases h : p * q % 2 = 1
          · rw [decide_eq_true h]; exact beq_iff_eq.2 (by omega)
          · rw [decide_eq_false h]; exact Bool.eq_false_iff.2 fun e => h (by have := beq_iff_eq.1 e; omega)
        have Htm := Lib.hid htm; clear htm
        by_cases hp0 : 0 < p
        · by_cases hq0 : 0 < q
          · by_cases ho : p * q % 2 = 1
            · have hbo := Htm.out true (by simpa using ho)
              have hsg : (res F G).num = -(res G F).num := by rw [HNz.out.1]; unfold sgz; rw [if_pos ho]
              have HSg := Lib.hid hsg; clear hsg ho
              obtain ⟨ceC0, ceC1⟩ := eC.cells2
              have feC := eC.frozen
              go_wp2_with fail
              refine Calls.mono (neg_r _ (res G F).num _ (HCc.out.has (by have := HS.out.2.2.1; omega))) ?_
              rintro e w12 ⟨r12, rfl, hr12, hx12⟩
              obtain ⟨b8, A8, n8, c8, rfl⟩ := hr12.cells
              rw [← HSg.out] at hr12
              have ha12 := HA.out.kd hx12.kd
              clear ceC0 ceC1 feC HA HCc
              replace eA := eA.ext hx12
              replace eC := eC.ext hx12
              replace hx := hx.trans hx12
              clear hx12
              have Ha12 := Lib.hid ha12; clear ha12
              obtain ⟨ceC0, ceC1⟩ := eC.cells2
              have feC := eC.frozen
              go_upto_region 12 with (fail)
              have ha12 := Ha12.out
              obtain ⟨W13, eW, eC', U⟩ := eC.put2 (.bool b8) (.slice A8 n8 c8) rfl rfl
              rw [← eW]
              clear eW eC
              replace hr12 := hr12.kd U.kd
              replace ha12 := ha12.kd U.kd
              replace eA := eA.upd U (by simp <;> omega)
              replace hx := U.from_ hx (by simp <;> omega)
              have eC := eC'
              clear U eC'
              have HCd := Lib.hid hr12
              have HA := Lib.hid ha12
              clear hr12 ha12 Ha12
              go_wp2_with fail
              refine Calls.mono (HR.out.2.1 _ hx) ?_
              rintro e w20 ⟨r20, rfl, hr20, hx20⟩
              obtain ⟨A20, c20, rfl, -⟩ := hr20.shape
              replace eA := eA.ext hx20
              replace eC := eC.ext hx20
              have HA2' := Lib.hid (HA.out.kd hx20.kd)
              have HCe := Lib.hid (HCd.out.kd hx20.kd)
              replace hx := hx.trans hx20
              obtain ⟨dl, g1, g2, -, g4⟩ := hr20.hz (fun i => by have := HZ.out.2.2.2.2.2.1 i; omega)
              have HDl := Lib.hid (And.intro g1 (And.intro g2 g4)); clear g1 g2 g4 hr20 hx20 HA HCd
              go_wp2_with fail
              refine Calls.mono (degree_rz _ dl _ HDl.out.1 (by have := HDl.out.2.1; have := HZ.out.2.2.2.2.2.2; omega)) ?_
              rintro e w21 ⟨r21, rfl, rfl, hx21⟩
              rw [HDl.out.2.2]
              replace eA := eA.ext hx21
              replace eC := eC.ext hx21
              have HA := Lib.hid (HA2'.out.kd hx21.kd)
              have HCd := Lib.hid (HCe.out.kd hx21.kd)
              replace hx := hx.trans hx21
              clear hx21 HA2' HCe
              by_cases hd : 1 < pl (zgc F G)
              · have hdd : decide ((0 : Int) < (pl (zgc F G) : Int) - 1) = true := decide_eq_true (by omega)
                have hr0 : (res F G).num = 0 := by rw [HNz.out.2.2 hd]; rfl
                have hpn : decide ((p : Int) < 0) = false := decide_eq_false (by omega); have hqn : decide ((q : Int) < 0) = false := decide_eq_false (by omega)
                have hgn : decide ((1 : Int) < (pl (zgc F G) : Int)) = true := decide_eq_true (by omega)
                have HRz := Lib.hid hr0; clear hr0
                obtain ⟨ceA0, ceA1⟩ := eA.cells2
                have feA := eA.frozen
                obtain ⟨ceC0, ceC1⟩ := eC.cells2
                have feC := eC.frozen
                go_wp2_with fail
                refine Calls.mono (sameint_t _ _ (res F G).num _ HA.out HCd.out) ?_
                rintro e w30 ⟨r30, rfl, rfl, hx30⟩
                have HA2 := Lib.hid (HA.out.kd hx30.kd)
                replace eA := eA.ext hx30
                replace hx := hx.trans hx30
                clear hx30 ceA0 ceA1 feA ceC0 ceC1 feC eC
                obtain ⟨ceA0, ceA1⟩ := eA.cells2
                have feA := eA.frozen
                go_wp2_with fail
                refine Calls.mono (sign_r _ (res F G).num _ (HA2.out.has (by have := HS.out.1; omega))) ?_
                rintro e w31 ⟨r31, rfl, rfl, hx31⟩
                replace hx := hx.trans hx31
                rw [HRz.out]
                go_wp2
                go_ret
                exact Gives.mk (by rfl) hx
              · have hdd : decide ((0 : Int) < (pl (zgc F G) : Int) - 1) = false := decide_eq_false (by omega)
                have hr0 : (res F G).num ≠ 0 := fun e => hd (HNz.out.2.1 (by
                  obtain ⟨x, hx⟩ := res_int HZ.out.2.2.2.1 HZ.out.2.2.2.2.1
                  rw [hx] at e ⊢
                  have : x = 0 := e
                  rw [this]; rfl))
                have hpn : decide ((p : Int) < 0) = false := decide_eq_false (by omega); have hqn : decide ((q : Int) < 0) = false := decide_eq_false (by omega)
                have hgn : decide ((1 : Int) < (pl (zgc F G) : Int)) = false := decide_eq_false (by omega)
                have HRz := Lib.hid hr0; clear hr0
                obtain ⟨ceA0, ceA1⟩ := eA.cells2
                have feA := eA.frozen
                obtain ⟨ceC0, ceC1⟩ := eC.cells2
                have feC := eC.frozen
                go_wp2_with fail
                refine Calls.mono (sameint_t _ _ (res F G).num _ HA.out HCd.out) ?_
                rintro e w30 ⟨r30, rfl, rfl, hx30⟩
                have HA2 := Lib.hid (HA.out.kd hx30.kd)
                replace eA := eA.ext hx30
                replace hx := hx.trans hx30
                clear hx30 ceA0 ceA1 feA ceC0 ceC1 feC eC
                obtain ⟨ceA0, ceA1⟩ := eA.cells2
                have feA := eA.frozen
                go_wp2_with fail
                refine Calls.mono (sign_r _ (res F G).num _ (HA2.out.has (by have := HS.out.1; omega))) ?_
                rintro e w31 ⟨r31, rfl, rfl, hx31⟩
                replace hx := hx.trans hx31
                have hsb : ((res F G).num.sign == 0) = false := by have h1 : (res F G).num.sign ≠ 0 := fun e => HRz.out (Int.sign_eq_zero_iff_zero.1 e); simpa using h1
                go_wp2
                go_ret
                exact Gives.mk (by rfl) hx
            · have hbo := Htm.out false (by simpa using ho)
              have hsg : (res F G).num = (res G F).num := by rw [HNz.out.1]; unfold sgz; rw [if_neg ho]
              have HCd := Lib.hid (show IsZ W11 (.agg #[.bool b7, .slice A7 n7 c7]) (res F G).num from hsg ▸ HCc.out); clear hsg ho HCc
              go_wp2_with fail
              refine Calls.mono (HR.out.2.1 _ hx) ?_
              rintro e w20 ⟨r20, rfl, hr20, hx20⟩
              obtain ⟨A20, c20, rfl, -⟩ := hr20.shape
              replace eA := eA.ext hx20
              replace eC := eC.ext hx20
              have HA2' := Lib.hid (HA.out.kd hx20.kd)
              have HCe := Lib.hid (HCd.out.kd hx20.kd)
              replace hx := hx.trans hx20
              obtain ⟨dl, g1, g2, -, g4⟩ := hr20.hz (fun i => by have := HZ.out.2.2.2.2.2.1 i; omega)
              have HDl := Lib.hid (And.intro g1 (And.intro g2 g4)); clear g1 g2 g4 hr20 hx20 HA HCd
              go_wp2_with fail
              refine Calls.mono (degree_rz _ dl _ HDl.out.1 (by have := HDl.out.2.1; have := HZ.out.2.2.2.2.2.2; omega)) ?_
              rintro e w21 ⟨r21, rfl, rfl, hx21⟩
              rw [HDl.out.2.2]
              replace eA := eA.ext hx21
              replace eC := eC.ext hx21
              have HA := Lib.hid (HA2'.out.kd hx21.kd)
              have HCd := Lib.hid (HCe.out.kd hx21.kd)
              replace hx := hx.trans hx21
              clear hx21 HA2' HCe
              by_cases hd : 1 < pl (zgc F G)
              · have hdd : decide ((0 : Int) < (pl (zgc F G) : Int) - 1) = true := decide_eq_true (by omega)
                have hr0 : (res F G).num = 0 := by rw [HNz.out.2.2 hd]; rfl
                have hpn : decide ((p : Int) < 0) = false := decide_eq_false (by omega); have hqn : decide ((q : Int) < 0) = false := decide_eq_false (by omega)
                have hgn : decide ((1 : Int) < (pl (zgc F G) : Int)) = true := decide_eq_true (by omega)
                have HRz := Lib.hid hr0; clear hr0
                obtain ⟨ceA0, ceA1⟩ := eA.cells2
                have feA := eA.frozen
                obtain ⟨ceC0, ceC1⟩ := eC.cells2
                have feC := eC.frozen
                go_wp2_with fail
                refine Calls.mono (sameint_t _ _ (res F G).num _ HA.out HCd.out) ?_
                rintro e w30 ⟨r30, rfl, rfl, hx30⟩
                have HA2 := Lib.hid (HA.out.kd hx30.kd)
                replace eA := eA.ext hx30
                replace hx := hx.trans hx30
                clear hx30 ceA0 ceA1 feA ceC0 ceC1 feC eC
                obtain ⟨ceA0, ceA1⟩ := eA.cells2
                have feA := eA.frozen
                go_wp2_with fail
                refine Calls.mono (sign_r _ (res F G).num _ (HA2.out.has (by have := HS.out.1; omega))) ?_
                rintro e w31 ⟨r31, rfl, rfl, hx31⟩
                replace hx := hx.trans hx31
                rw [HRz.out]
                go_wp2
                go_ret
                exact Gives.mk (by rfl) hx
              · have hdd : decide ((0 : Int) < (pl (zgc F G) : Int) - 1) = false := decide_eq_false (by omega)
                have hr0 : (res F G).num ≠ 0 := fun e => hd (HNz.out.2.1 (by
                  obtain ⟨x, hx⟩ := res_int HZ.out.2.2.2.1 HZ.out.2.2.2.2.1
                  rw [hx] at e ⊢
                  have : x = 0 := e
                  rw [this]; rfl))
                have hpn : decide ((p : Int) < 0) = false := decide_eq_false (by omega); have hqn : decide ((q : Int) < 0) = false := decide_eq_false (by omega)
                have hgn : decide ((1 : Int) < (pl (zgc F G) : Int)) = false := decide_eq_false (by omega)
                have HRz := Lib.hid hr0; clear hr0
                obtain ⟨ceA0, ceA1⟩ := eA.cells2
                have feA := eA.frozen
                obtain ⟨ceC0, ceC1⟩ := eC.cells2
                have feC := eC.frozen
                go_wp2_with fail
                refine Calls.mono (sameint_t _ _ (res F G).num _ HA.out HCd.out) ?_
                rintro e w30 ⟨r30, rfl, rfl, hx30⟩
                have HA2 := Lib.hid (HA.out.kd hx30.kd)
                replace eA := eA.ext hx30
                replace hx := hx.trans hx30
                clear hx30 ceA0 ceA1 feA ceC0 ceC1 feC eC
                obtain ⟨ceA0, ceA1⟩ := eA.cells2
                have feA := eA.frozen
                go_wp2_with fail
                refine Calls.mono (sign_r _ (res F G).num _ (HA2.out.has (by have := HS.out.1; omega))) ?_
                rintro e w31 ⟨r31, rfl, rfl, hx31⟩
                replace hx := hx.trans hx31
                have hsb : ((res F G).num.sign == 0) = false := by have h1 : (res F G).num.sign ≠ 0 := fun e => HRz.out (Int.sign_eq_zero_iff_zero.1 e); simpa using h1
                go_wp2
                go_ret
                exact Gives.mk (by rfl) hx
          · obtain rfl : q = 0 := by omega
            have hsg : (res F G).num = (res G F).num := by rw [HNz.out.1]; unfold sgz; rw [if_neg (by omega)]
            have HCd := Lib.hid (show IsZ W11 (.agg #[.bool b7, .slice A7 n7 c7]) (res F G).num from hsg ▸ HCc.out); clear hsg HCc
            go_wp2_with fail
            refine Calls.mono (HR.out.2.1 _ hx) ?_
            rintro e w20 ⟨r20, rfl, hr20, hx20⟩
            obtain ⟨A20, c20, rfl, -⟩ := hr20.shape
            replace eA := eA.ext hx20
            replace eC := eC.ext hx20
            have HA2' := Lib.hid (HA.out.kd hx20.kd)
            have HCe := Lib.hid (HCd.out.kd hx20.kd)
            replace hx := hx.trans hx20
            obtain ⟨dl, g1, g2, -, g4⟩ := hr20.hz (fun i => by have := HZ.out.2.2.2.2.2.1 i; omega)
            have HDl := Lib.hid (And.intro g1 (And.intro g2 g4)); clear g1 g2 g4 hr20 hx20 HA HCd
            go_wp2_with fail
            refine Calls.mono (degree_rz _ dl _ HDl.out.1 (by have := HDl.out.2.1; have := HZ.out.2.2.2.2.2.2; omega)) ?_
            rintro e w21 ⟨r21, rfl, rfl, hx21⟩
            rw [HDl.out.2.2]
            replace eA := eA.ext hx21
            replace eC := eC.ext hx21
            have HA := Lib.hid (HA2'.out.kd hx21.kd)
            have HCd := Lib.hid (HCe.out.kd hx21.kd)
            replace hx := hx.trans hx21
            clear hx21 HA2' HCe
            by_cases hd : 1 < pl (zgc F G)
            · have hdd : decide ((0 : Int) < (pl (zgc F G) : Int) - 1) = true := decide_eq_true (by omega)
              have hr0 : (res F G).num = 0 := by rw [HNz.out.2.2 hd]; rfl
              have hpn : decide ((p : Int) < 0) = false := decide_eq_false (by omega)
              have hgn : decide ((1 : Int) < (pl (zgc F G) : Int)) = true := decide_eq_true (by omega)
              have HRz := Lib.hid hr0; clear hr0
              obtain ⟨ceA0, ceA1⟩ := eA.cells2
              have feA := eA.frozen
              obtain ⟨ceC0, ceC1⟩ := eC.cells2
              have feC := eC.frozen
              go_wp2_with fail
              refine Calls.mono (sameint_t _ _ (res F G).num _ HA.out HCd.out) ?_
              rintro e w30 ⟨r30, rfl, rfl, hx30⟩
              have HA2 := Lib.hid (HA.out.kd hx30.kd)
              replace eA := eA.ext hx30
              replace hx := hx.trans hx30
              clear hx30 ceA0 ceA1 feA ceC0 ceC1 feC eC
              obtain ⟨ceA0, ceA1⟩ := eA.cells2
              have feA := eA.frozen
              go_wp2_with fail
              refine Calls.mono (sign_r _ (res F G).num _ (HA2.out.has (by have := HS.out.1; omega))) ?_
              rintro e w31 ⟨r31, rfl, rfl, hx31⟩
              replace hx := hx.trans hx31
              rw [HRz.out]
              go_wp2
              go_ret
              exact Gives.mk (by rfl) hx
            · have hdd : decide ((0 : Int) < (pl (zgc F G) : Int) - 1) = false := decide_eq_false (by omega)
              have hr0 : (res F G).num ≠ 0 := fun e => hd (HNz.out.2.1 (by
                obtain ⟨x, hx⟩ := res_int HZ.out.2.2.2.1 HZ.out.2.2.2.2.1
                rw [hx] at e ⊢
                have : x = 0 := e
                rw [this]; rfl))
              have hpn : decide ((p : Int) < 0) = false := decide_eq_false (by omega)
              have hgn : decide ((1 : Int) < (pl (zgc F G) : Int)) = false := decide_eq_false (by omega)
              have HRz := Lib.hid hr0; clear hr0
              obtain ⟨ceA0, ceA1⟩ := eA.cells2
              have feA := eA.frozen
              obtain ⟨ceC0, ceC1⟩ := eC.cells2
              have feC := eC.frozen
              go_wp2_with fail
              refine Calls.mono (sameint_t _ _ (res F G).num _ HA.out HCd.out) ?_
              rintro e w30 ⟨r30, rfl, rfl, hx30⟩
              have HA2 := Lib.hid (HA.out.kd hx30.kd)
              replace eA := eA.ext hx30
              replace hx := hx.trans hx30
              clear hx30 ceA0 ceA1 feA ceC0 ceC1 feC eC
              obtain ⟨ceA0, ceA1⟩ := eA.cells2
              have feA := eA.frozen
              go_wp2_with fail
              refine Calls.mono (sign_r _ (res F G).num _ (HA2.out.has (by have := HS.out.1; omega))) ?_
              rintro e w31 ⟨r31, rfl, rfl, hx31⟩
              replace hx := hx.trans hx31
              have hsb : ((res F G).num.sign == 0) = false := by have h1 : (res F G).num.sign ≠ 0 := fun e => HRz.out (Int.sign_eq_zero_iff_zero.1 e); simpa using h1
              go_wp2
              go_ret
              exact Gives.mk (by rfl) hx
        · obtain rfl : p = 0 := by omega
          have hsg : (res F G).num = (res G F).num := by rw [HNz.out.1]; unfold sgz; rw [if_neg (by omega)]
          have HCd := Lib.hid (show IsZ W11 (.agg #[.bool b7, .slice A7 n7 c7]) (res F G).num from hsg ▸ HCc.out); clear hsg HCc
          go_wp2_with fail
          refine Calls.mono (HR.out.2.1 _ hx) ?_
          rintro e w20 ⟨r20, rfl, hr20, hx20⟩
          obtain ⟨A20, c20, rfl, -⟩ := hr20.shape
          replace eA := eA.ext hx20
          replace eC := eC.ext hx20
          have HA2' := Lib.hid (HA.out.kd hx20.kd)
          have HCe := Lib.hid (HCd.out.kd hx20.kd)
          replace hx := hx.trans hx20
          obtain ⟨dl, g1, g2, -, g4⟩ := hr20.hz (fun i => by have := HZ.out.2.2.2.2.2.1 i; omega)
          have HDl := Lib.hid (And.intro g1 (And.intro g2 g4)); clear g1 g2 g4 hr20 hx20 HA HCd
          go_wp2_with fail
          refine Calls.mono (degree_rz _ dl _ HDl.out.1 (by have := HDl.out.2.1; have := HZ.out.2.2.2.2.2.2; omega)) ?_
          rintro e w21 ⟨r21, rfl, rfl, hx21⟩
          rw [HDl.out.2.2]
          replace eA := eA.ext hx21
          replace eC := eC.ext hx21
          have HA := Lib.hid (HA2'.out.kd hx21.kd)
          have HCd := Lib.hid (HCe.out.kd hx21.kd)
          replace hx := hx.trans hx21
          clear hx21 HA2' HCe
          by_cases hd : 1 < pl (zgc F G)
          · have hdd : decide ((0 : Int) < (pl (zgc F G) : Int) - 1) = true := decide_eq_true (by omega)
            have hr0 : (res F G).num = 0 := by rw [HNz.out.2.2 hd]; rfl
            skip
            have hgn : decide ((1 : Int) < (pl (zgc F G) : Int)) = true := decide_eq_true (by omega)
            have HRz := Lib.hid hr0; clear hr0
            obtain ⟨ceA0, ceA1⟩ := eA.cells2
            have feA := eA.frozen
            obtain ⟨ceC0, ceC1⟩ := eC.cells2
            have feC := eC.frozen
            go_wp2_with fail
            refine Calls.mono (sameint_t _ _ (res F G).num _ HA.out HCd.out) ?_
            rintro e w30 ⟨r30, rfl, rfl, hx30⟩
            have HA2 := Lib.hid (HA.out.kd hx30.kd)
            replace eA := eA.ext hx30
            replace hx := hx.trans hx30
            clear hx30 ceA0 ceA1 feA ceC0 ceC1 feC eC
            obtain ⟨ceA0, ceA1⟩ := eA.cells2
            have feA := eA.frozen
            go_wp2_with fail
            refine Calls.mono (sign_r _ (res F G).num _ (HA2.out.has (by have := HS.out.1; omega))) ?_
            rintro e w31 ⟨r31, rfl, rfl, hx31⟩
            replace hx := hx.trans hx31
            rw [HRz.out]
            go_wp2
            go_ret
            exact Gives.mk (by rfl) hx
          · have hdd : decide ((0 : Int) < (pl (zgc F G) : Int) - 1) = false := decide_eq_false (by omega)
            have hr0 : (res F G).num ≠ 0 := fun e => hd (HNz.out.2.1 (by
              obtain ⟨x, hx⟩ := res_int HZ.out.2.2.2.1 HZ.out.2.2.2.2.1
              rw [hx] at e ⊢
              have : x = 0 := e
              rw [this]; rfl))
            skip
            have hgn : decide ((1 : Int) < (pl (zgc F G) : Int)) = false := decide_eq_false (by omega)
            have HRz := Lib.hid hr0; clear hr0
            obtain ⟨ceA0, ceA1⟩ := eA.cells2
            have feA := eA.frozen
            obtain ⟨ceC0, ceC1⟩ := eC.cells2
            have feC := eC.frozen
            go_wp2_with fail
            refine Calls.mono (sameint_t _ _ (res F G).num _ HA.out HCd.out) ?_
            rintro e w30 ⟨r30, rfl, rfl, hx30⟩
            have HA2 := Lib.hid (HA.out.kd hx30.kd)
            replace eA := eA.ext hx30
            replace hx := hx.trans hx30
            clear hx30 ceA0 ceA1 feA ceC0 ceC1 feC eC
            obtain ⟨ceA0, ceA1⟩ := eA.cells2
            have feA := eA.frozen
            go_wp2_with fail
            refine Calls.mono (sign_r _ (res F G).num _ (HA2.out.has (by have := HS.out.1; omega))) ?_
            rintro e w31 ⟨r31, rfl, rfl, hx31⟩
            replace hx := hx.trans hx31
            have hsb : ((res F G).num.sign == 0) = false := by have h1 : (res F G).num.sign ≠ 0 := fun e => HRz.out (Int.sign_eq_zero_iff_zero.1 e); simpa using h1
            go_wp2
            go_ret
            exact Gives.mk (by rfl) hx
end Go.Proofs.YtfacbpnegkjcgaaDoor
namespace Go.Proofs.YtfacbpnegkjcgaaDoor
open Go.ChangeShapes Go.WideShapes Go.ChangeAt Go.RowKit Go.Hp
open Go.ChangeMaps (open_string shut_string)
theorem own_ : ownKnob Tryd.prog.godebug = none := by kernel_rfl
theorem laidOut_ : laidOutB Tryd.prog = true := by kernel_rfl
theorem zpolyMultiplies_door (os : Os) (args : Array Value) : laidMetH Tryd.prog [("math/bits.deBruijn32tab", Rows.laid_math_bits_deBruijn32tab), ("math/bits.deBruijn64tab", Rows.laid_math_bits_deBruijn64tab), ("internal/strconv.uint64pow10", Rows.laid_internal_strconv_uint64pow10)] ((World.doorLaid Tryd.prog 400 os).forCall (fun _ _ => 0) ⟨#[], args, []⟩).memory :=
  laidMetH_of_parts3 (fuel := 8) (laidMet_of_run' 8 (by kernel_rfl) (by kernel_rfl)) (by kernel_rfl) (by kernel_rfl)
set_option maxRecDepth 100000 in
theorem zpolyMultiplies_lifted (os : Os) (started : os.Started) (H : Type) (enc : TypeId × Value → H) :
    ReturnsInHanded {} Tryd.checked os 3 .any (fun w args => (Rows.zpolyMultipliesSpec.pre enc Tryd.prog Tryd.f3 [] false w args ∧ laidMetH Tryd.prog [("math/bits.deBruijn32tab", Rows.laid_math_bits_deBruijn32tab), ("math/bits.deBruijn64tab", Rows.laid_math_bits_deBruijn64tab), ("internal/strconv.uint64pow10", Rows.laid_internal_strconv_uint64pow10)] w) ∧ sizedMet enc Tryd.prog Tryd.f3 (OpenSpec.ofChange Rows.zpolyMultipliesSpec) false w args)
      (Rows.zpolyMultipliesSpec.post enc Tryd.prog Tryd.f3 false true false false) := by
  refine returnsInHanded_of_change_and (C := Tryd.checked) (X := fun w _ => laidMetH Tryd.prog [("math/bits.deBruijn32tab", Rows.laid_math_bits_deBruijn32tab), ("math/bits.deBruijn64tab", Rows.laid_math_bits_deBruijn64tab), ("internal/strconv.uint64pow10", Rows.laid_internal_strconv_uint64pow10)] w) (fun _ _ _ hh h => h.of_heap hh) own_ started (by kernel_rfl) Tryd.func3
    (ChangeSpec.witness_shaped (enc := enc) (C := Tryd.checked) (os := os) (X := fun w _ => laidMetH Tryd.prog [("math/bits.deBruijn32tab", Rows.laid_math_bits_deBruijn32tab), ("math/bits.deBruijn64tab", Rows.laid_math_bits_deBruijn64tab), ("internal/strconv.uint64pow10", Rows.laid_internal_strconv_uint64pow10)] w) false (World.doorLaid Tryd.prog 400 os) #[.slice none 0 0, .slice none 0 0, .slice none 0 0] 8 rfl (World.shaped_of_RefB (by kernel_rfl) (by kernel_rfl)) (by kernel_rfl) (by kernel_rfl) (by kernel_rfl) (zpolyMultiplies_door os _)) ?_
  intro W base args ds gs before hval0 hW _ _ hL _
  clear hL
  have hval : ∀ (j : Nat) t v, Tryd.f3.params[j]? = some t → args[j]? = some v → Value.okWide Tryd.prog W .any base t v := hval0
  have hW' := hW
  obtain ⟨p, q, hA0, hV, rfl, hfz, hnd⟩ := hW
  have hA : DataW.TrodAll enc Tryd.prog W 0 (fun _ => true) true Tryd.f3.params.toList args.toList ds p := hA0
  rw [Tryd.params3] at hA hval
  obtain ⟨v0, v1, v2, d0, d1, d2, p0, p1, p2, hargs, rfl, rfl, h0, h1, h2⟩ := trodAll_three hA
  obtain rfl : args = #[v0, v1, v2] := by cases args; simp_all
  obtain ⟨rfl, rfl⟩ := trodVars_none hV
  have lt0 : ∀ x ∈ p0, x.block < W.heap.size := by obtain ⟨m, hm⟩ := h0; exact DataW.trod_lt m _ _ _ hm
  have lt1 : ∀ x ∈ p1, x.block < W.heap.size := by obtain ⟨m, hm⟩ := h1; exact DataW.trod_lt m _ _ _ hm
  have lt2 : ∀ x ∈ p2, x.block < W.heap.size := by obtain ⟨m, hm⟩ := h2; exact DataW.trod_lt m _ _ _ hm
  obtain ⟨l0, w0⟩ : ∃ l, ZPolyV W v0 l := by obtain ⟨m, hm⟩ := h0; exact open_zpoly Tryd.underlying23 hm (okWide_slice Tryd.underlying23 (hval 0 23 v0 rfl rfl))
  obtain ⟨l1, w1⟩ : ∃ l, ZPolyV W v1 l := by obtain ⟨m, hm⟩ := h1; exact open_zpoly Tryd.underlying23 hm (okWide_slice Tryd.underlying23 (hval 1 23 v1 rfl rfl))
  obtain ⟨l2, w2⟩ : ∃ l, ZPolyV W v2 l := by obtain ⟨m, hm⟩ := h2; exact open_zpoly Tryd.underlying23 hm (okWide_slice Tryd.underlying23 (hval 2 23 v2 rfl rfl))
  clear hA0 hval0
  refine (zmultiplies_law v0 v1 v2 l0 l1 l2 W w0 w1 w2).mono fun e W' ⟨v, he, hv, bel⟩ => ?_
  subst he hv
  exact ⟨_, rfl, _, _, _, [], _, [], hW', trodAll_mk1 (shut_bool Tryd.underlying4 _), (trodAll_cons_mk (Below.trod laidOut_ (by kernel_rfl) (of_decide_eq_true (by kernel_rfl)) h0 bel lt0) (trodAll_cons_mk (Below.trod laidOut_ (by kernel_rfl) (of_decide_eq_true (by kernel_rfl)) h1 bel lt1) (trodAll_cons_mk (Below.trod laidOut_ (by kernel_rfl) (of_decide_eq_true (by kernel_rfl)) h2 bel lt2) trodAll_mk0))), rfl, bel.frame _, fun h => by cases h⟩
theorem zpolyMultiplies_over : Rows.zpolyMultipliesRow.holds Tryd.pinned (OpenSpec.ofChange Rows.zpolyMultipliesSpec) :=
  OpenClaim.holds_of_wide 3 Tryd.f3 rfl rfl rfl rfl rfl rfl rfl ⟨rfl, rfl, rfl, rfl, rfl⟩ rfl rfl rfl rfl rfl (by kernel_rfl) Tryd.func3 (by kernel_rfl)
    (of_decide_eq_true (by kernel_rfl)) (by unfold Func.isWrapper; first | (rw [if_pos (by decide +kernel)]; kernel_rfl) | (rw [if_neg (by decide +kernel)]; exact ⟨rfl, rfl⟩))
    (fun os started H enc _ => zpolyMultiplies_lifted os started H enc)
theorem zpolyMultiplies_proved : Rows.ZpolyMultipliesSaid := zpolyMultiplies_over
theorem zpolyMultiplies_card : Rows.ZpolyMultipliesCardSaid :=
  Claim7.holds_tied_plain_at .later [] [.data, .data, .data] true _ false
    zpolyMultiplies_over (fun _ h => by cases h) (by kernel_rfl) (fun _ h => by cases h) zpolyMultiplies_row_tie rfl ⟨rfl, rfl⟩ (by kernel_rfl) rfl
    (fun f fn hf hfn => by
      obtain rfl : f = 3 := Option.some.inj ((show Tryd.prog.funcNamed "halfplane/halfplanelaw05.ZpolyMultiplies" = some 3 by kernel_rfl).symm.trans hf) |>.symm
      obtain rfl : fn = Tryd.f3 := (Option.some.inj (Tryd.func3.symm.trans hfn)).symm
      exact ⟨by kernel_rfl, fun j t ht => by
        rw [Tryd.params3] at ht
        have hm : t ∈ [23] := by simpa using Array.mem_of_getElem? ht
        have hall : ([23].all fun u => !Tryd.prog.wantsStandIn u) = true := by kernel_rfl
        exact (show Tryd.prog.wantsStandIn t = false by simpa using List.all_eq_true.1 hall t hm)⟩)
    (by kernel_rfl)
end Go.Proofs.YtfacbpnegkjcgaaDoor
