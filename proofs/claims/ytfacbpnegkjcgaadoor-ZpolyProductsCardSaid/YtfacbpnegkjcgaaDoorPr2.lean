/- Lemmas: The walks of the inner functions of bigint: digits. The walks of the inner functions of bigint: products and quotients of digits. The walk of bigint.digit: one digit of a long quotient. The walk of bigint.divide. The contracts of the inner functions of bigint, over numbers. The contracts of bigint's functions, over integers. The contracts of bigint's functions: addition, multiplication. The contracts of bigint's functions: division. The contracts of bigint's functions: the greatest common divisor. The contracts of bigint's functions: Gcd, Exact. The contracts of rational's functions. The walks of zpoly: trimmed, Normal, Degree. Contents and primitive polynomials. Plain. The product, place by place. Plain. Pseudo-division of polynomials over the integers; arrays that are rewritten place by place. Plain. The contracts of bigint's functions: subtraction. The walks of zpoly: Add, Sub, Scale. Clearing denominators; primitive polynomials are their own primitive part. Plain. Gauss: the content of a product. Plain. Determinants by expansion along the first column. Plain. Resultants: Sylvester's determinant with formal degrees. Plain. The resultant by pseudo-division: the state of the rounds. Plain. The walks of the reference's integers: trim, Norm, signed, Neg, Abs, Sign. The contracts of the reference's integers: Norm, signed, Of, Sign, Neg, Abs, Same. -/
import Derived.Test.YtfacbpnegkjcgaaDoorPr1
import Derived.BigQuiet
import Derived.Deep.QuietTactic
import Derived.Deep.DeepCutAuto
import Derived.Deep.CutBlock
set_option linter.unusedVariables false
set_option linter.unusedSimpArgs false
namespace Go.Proofs.YtfacbpnegkjcgaaDoor
open Go.RowKit Go.Hp
set_option maxHeartbeats 400000 in
/-- bigint.trimmed: the digits without leading zeros, in their place. -/
theorem trimmed_eq (A : Option Addr) (c : Nat) (ds : List Nat) (w : World) (hl : ds.length ≤ c) (hc : c ≤ 9223372036854775807) (hA : DigAt w A ds) :
  Calls Tryd.prog 53 #[.slice A ds.length c] w fun e w' => e = .returned (.slice A (trim ds).length c) ∧ w = w' := by
 obtain ⟨hd, hA⟩ := hA
 go_enter Tryd.func53, Tryd.ntmps53
 go_wp2
 go_loop [0] (fun v => ∃ m : Nat, m ≤ ds.length ∧ v = .slice A m c ∧ ∀ j, m ≤ j → (h : j < ds.length) → ds[j] = 0) (fun v => match v with | .slice _ m _ => m | _ => 0)
 case atStart => exact ⟨ds.length, Nat.le_refl _, rfl, fun j h1 h2 => by omega⟩
 case round =>
  obtain ⟨m, hm, rfl, hz⟩ := hrel
  by_cases h0 : 0 < m
  ·obtain ⟨m, rfl⟩ : ∃ k, m = k + 1 := ⟨m - 1, by omega⟩
   obtain ⟨a, rfl, hcell⟩ := hA (by omega)
   have hcm := hcell m (by omega)
   by_cases hd0 : ds[m]'(by omega) = 0
   ·have hb : (((ds[m]'(by omega) : Nat) : Int) == 0) = true := by simp [hd0]
    clear hcell hA
    go_wp2
    go_round
    case rel => exact ⟨m, by omega, rfl, fun j h1 h2 => by
     rcases Nat.eq_or_lt_of_le h1 with e | e
     ·subst e; exact hd0
     ·exact hz j (by omega) h2⟩
    case measure => simp
   ·have hb : (((ds[m]'(by omega) : Nat) : Int) == 0) = false := by simp; omega
    clear hA
    go_wp2
    go_ret
    have ht := trim_take hm hz (fun h _ => by simpa using hd0)
    have hlen : (trim ds).length = m + 1 := by rw [← ht]; simp; omega
    exact ⟨by rw [hlen]; rfl, rfl⟩
  ·obtain rfl : m = 0 := by omega
   go_wp2
   go_ret
   have ht := trim_take hm hz (fun h hh => by omega)
   have hlen : (trim ds).length = 0 := by rw [← ht]; rfl
   exact ⟨by rw [hlen]; rfl, rfl⟩
theorem trimmed_any (v : Value) (ds : List Nat) (w : World) (h : DigV w v ds) : Calls Tryd.prog 53 #[v] w (Gives w fun r w' => DigV w' r (trim ds)) := by
 obtain ⟨A, c, rfl, hl, hc, hA⟩ := h
 refine (trimmed_eq A c ds w hl hc hA).mono ?_
 rintro e w' ⟨rfl, rfl⟩
 exact Gives.mk ⟨A, c, rfl, by have := trim_len ds; omega, hc, hA.trim⟩ (Ext.refl _)
theorem dig_at {w : World} {A : Option Addr} {ds : List Nat} (h : DigAt w A ds) {k : Nat} (hk : k < ds.length) : ∃ a, A = some a ∧ w.cell? (a.add k) = some (.int .u32 (dg ds k : Nat)) := by
 obtain ⟨a, e, hc⟩ := h.2 (by omega)
 exact ⟨a, e, by rw [hc k hk, dg_lt hk]⟩
set_option maxHeartbeats 1000000 in
theorem plus_any (v u : Value) (ds es : List Nat) (w : World) (hv : DigV w v ds) (hu : DigV w u es) (hn : ds.length ≤ 4398046511104) (hm : es.length ≤ 4398046511104) :
  Calls Tryd.prog 70 #[v, u] w (Gives w fun r w' => ∃ l, DigV w' r l ∧ nv l = nv ds + nv es ∧ l.length = max ds.length es.length + 1) := by
 obtain ⟨A, p1, rfl, hl, hc, hA⟩ := hv
 obtain ⟨E, p2, rfl, hl', hc', hE⟩ := hu
 by_cases hlt : ds.length < es.length
 ·have hb0 : decide (ds.length < es.length) = true := by simp; omega --@1 --@2   · have hb0 : decide (ds.length < es.length) = false := by simp; omega
  have hmk := fun W => make_u32 (es.length + 1) ((es.length : Int) + 1) (by omega) (by omega) W
  go_enter Tryd.func70, Tryd.ntmps70
  go_wp2
  go_loopw [6, 23] (fun cv iv wr => ∃ (k c0 : Nat) (l : List Nat), k ≤ es.length ∧ iv = .int .i64 k ∧ cv = .int .u32 c0 ∧ c0 ≤ 1 ∧ l.length = es.length + 1 ∧ DBlk wr w.heap.size 57 l ∧ Digs l ∧ nv (l.take k) + c0 * bp k = nv (es.take k) + nv (ds.take k) ∧ Ext w wr) (fun _ iv _ => es.length - (intOf iv).toNat)
  case atStart => exact ⟨0, 0, _, Nat.zero_le _, rfl, rfl, Nat.zero_le _, List.length_replicate, DBlk.new _ _ _, Digs.zeros _, by simp [nv_nil], (Ext.refl w).alloc _⟩
  case round =>
   obtain ⟨k, c0, l, hk, rfl, rfl, hc0, hll, hblk, hdl, hval, hx⟩ := hrel
   have hfz := hblk.frozen k
   have hcl := hblk.celld (i := k) (by omega)
   by_cases hkl : k < es.length
   ·obtain ⟨a, rfl, hca⟩ := dig_at hE hkl
    have hca := hx.cell hca
    have x1 := dg_bound hE.1 k
    have y1 := dg_bound hA.1 k
    generalize hxx : dg es k = x at *
    generalize hyy : dg ds k = y at *
    have Hx := Lib.hid hxx; clear hxx
    have Hy := Lib.hid hyy; clear hyy
    have Hv := Lib.hid hval; clear hval
    have Hll := Lib.hid hll; clear hll
    by_cases hke : k < ds.length
    ·obtain ⟨b, rfl, hcb⟩ := dig_at hA hke
     rw [Hy.out] at hcb
     have hcb := hx.cell hcb
     go_wp2_with (go_at_call 82; refine (add32_any _ _ _ _ (by omega) (by omega) (by omega) (by omega) (by omega) (by omega)).mono ?_; rintro e w' ⟨rfl, rfl⟩)
     go_roundw
     case rel =>
      refine ⟨k + 1, (x + y + c0) / 4294967296, l.set k ((x + y + c0) % 4294967296), by omega, by go_num, by go_num, by omega, by simpa using Hll.out, hblk.setI _ _ (by omega), hdl.set (by omega) _, ?_, hx.setCell _ _ (Nat.le_refl _)⟩
      rw [nv_take_set (by have := Hll.out; omega), nv_take_dg, nv_take_dg, Hx.out, Hy.out, bp_succ]
      exact add_step Hv.out
     case measure => simp [intOf]; omega
    ·obtain rfl : y = 0 := by rw [← Hy.out]; exact dg_ge (by omega)
     go_wp2_with (go_at_call 82; refine (add32_any _ _ _ _ (by omega) (by omega) (by omega) (by omega) (by omega) (by omega)).mono ?_; rintro e w' ⟨rfl, rfl⟩)
     go_roundw
     case rel =>
      refine ⟨k + 1, (x + 0 + c0) / 4294967296, l.set k ((x + 0 + c0) % 4294967296), by omega, by go_num, by go_num, by omega, by simpa using Hll.out, hblk.setI _ _ (by omega), hdl.set (by omega) _, ?_, hx.setCell _ _ (Nat.le_refl _)⟩
      rw [nv_take_set (by have := Hll.out; omega), nv_take_dg, nv_take_dg, Hx.out, Hy.out, bp_succ]
      exact add_step Hv.out
     case measure => simp [intOf]; omega
   ·obtain rfl : k = es.length := by omega
    have Hll := Lib.hid hll; clear hll
    go_wp2
    go_ret
    have hll := Hll.out
    have hb := hblk.setI es.length c0 (z := (c0 : Int)) rfl
    have hnv : nv (l.set es.length c0) = nv ds + nv es := by
     have h1 := nv_take_set (l := l) (k := es.length) (d := c0) (by omega)
     rw [List.take_of_length_le (by simp; omega)] at h1
     rw [h1, Nat.mul_comm, hval, List.take_of_length_le (Nat.le_refl _), List.take_of_length_le (by omega)]
     omega
    refine Gives.mk ⟨l.set es.length c0, ?_, by omega, by simp [hll]; omega⟩ (hx.setCell _ _ (Nat.le_refl _))
    have hq := hb.digv (hdl.set (by omega) _) (c := es.length + 1) (by simp [hll]) (by omega)
    rw [List.length_set, hll] at hq
    exact hq
 ·have hb0 : decide (ds.length < es.length) = false := by simp; omega
  have hmk := fun W => make_u32 (ds.length + 1) ((ds.length : Int) + 1) (by omega) (by omega) W
  go_enter Tryd.func70, Tryd.ntmps70
  go_wp2
  go_loopw [6, 23] (fun cv iv wr => ∃ (k c0 : Nat) (l : List Nat), k ≤ ds.length ∧ iv = .int .i64 k ∧ cv = .int .u32 c0 ∧ c0 ≤ 1 ∧ l.length = ds.length + 1 ∧ DBlk wr w.heap.size 57 l ∧ Digs l ∧ nv (l.take k) + c0 * bp k = nv (ds.take k) + nv (es.take k) ∧ Ext w wr) (fun _ iv _ => ds.length - (intOf iv).toNat)
  case atStart => exact ⟨0, 0, _, Nat.zero_le _, rfl, rfl, Nat.zero_le _, List.length_replicate, DBlk.new _ _ _, Digs.zeros _, by simp [nv_nil], (Ext.refl w).alloc _⟩
  case round =>
   obtain ⟨k, c0, l, hk, rfl, rfl, hc0, hll, hblk, hdl, hval, hx⟩ := hrel
   have hfz := hblk.frozen k
   have hcl := hblk.celld (i := k) (by omega)
   by_cases hkl : k < ds.length
   ·obtain ⟨a, rfl, hca⟩ := dig_at hA hkl
    have hca := hx.cell hca
    have x1 := dg_bound hA.1 k
    have y1 := dg_bound hE.1 k
    generalize hxx : dg ds k = x at *
    generalize hyy : dg es k = y at *
    have Hx := Lib.hid hxx; clear hxx
    have Hy := Lib.hid hyy; clear hyy
    have Hv := Lib.hid hval; clear hval
    have Hll := Lib.hid hll; clear hll
    by_cases hke : k < es.length
    ·obtain ⟨b, rfl, hcb⟩ := dig_at hE hke
     rw [Hy.out] at hcb
     have hcb := hx.cell hcb
     go_wp2_with (go_at_call 82; refine (add32_any _ _ _ _ (by omega) (by omega) (by omega) (by omega) (by omega) (by omega)).mono ?_; rintro e w' ⟨rfl, rfl⟩)
     go_roundw
     case rel =>
      refine ⟨k + 1, (x + y + c0) / 4294967296, l.set k ((x + y + c0) % 4294967296), by omega, by go_num, by go_num, by omega, by simpa using Hll.out, hblk.setI _ _ (by omega), hdl.set (by omega) _, ?_, hx.setCell _ _ (Nat.le_refl _)⟩
      rw [nv_take_set (by have := Hll.out; omega), nv_take_dg, nv_take_dg, Hx.out, Hy.out, bp_succ]
      exact add_step Hv.out
     case measure => simp [intOf]; omega
    ·obtain rfl : y = 0 := by rw [← Hy.out]; exact dg_ge (by omega)
     go_wp2_with (go_at_call 82; refine (add32_any _ _ _ _ (by omega) (by omega) (by omega) (by omega) (by omega) (by omega)).mono ?_; rintro e w' ⟨rfl, rfl⟩)
     go_roundw
     case rel =>
      refine ⟨k + 1, (x + 0 + c0) / 4294967296, l.set k ((x + 0 + c0) % 4294967296), by omega, by go_num, by go_num, by omega, by simpa using Hll.out, hblk.setI _ _ (by omega), hdl.set (by omega) _, ?_, hx.setCell _ _ (Nat.le_refl _)⟩
      rw [nv_take_set (by have := Hll.out; omega), nv_take_dg, nv_take_dg, Hx.out, Hy.out, bp_succ]
      exact add_step Hv.out
     case measure => simp [intOf]; omega
   ·obtain rfl : k = ds.length := by omega
    have Hll := Lib.hid hll; clear hll
    go_wp2
    go_ret
    have hll := Hll.out
    have hb := hblk.setI ds.length c0 (z := (c0 : Int)) rfl
    have hnv : nv (l.set ds.length c0) = nv es + nv ds := by
     have h1 := nv_take_set (l := l) (k := ds.length) (d := c0) (by omega)
     rw [List.take_of_length_le (by simp; omega)] at h1
     rw [h1, Nat.mul_comm, hval, List.take_of_length_le (Nat.le_refl _), List.take_of_length_le (by omega)]
     omega
    refine Gives.mk ⟨l.set ds.length c0, ?_, by omega, by simp [hll]; omega⟩ (hx.setCell _ _ (Nat.le_refl _))
    have hq := hb.digv (hdl.set (by omega) _) (c := ds.length + 1) (by simp [hll]) (by omega)
    rw [List.length_set, hll] at hq
    exact hq
theorem sub_step (L X Y p : Nat) (b x y : Nat) (hx : x < 4294967296) (hy : y < 4294967296) (hb : b ≤ 1) (h : L + Y = X + b * p) :
  L + p * ((x + 4294967296 - y - b) % 4294967296) + (Y + p * y) = X + p * x + (if x < y + b then 1 else 0) * (4294967296 * p) := by
 have e : (x + 4294967296 - y - b) % 4294967296 + y + b = x + (if x < y + b then 1 else 0) * 4294967296 := by
  by_cases hc : x < y + b
  ·rw [if_pos hc]; omega
  ·rw [if_neg hc]; omega
 generalize (x + 4294967296 - y - b) % 4294967296 = r at *
 generalize (if x < y + b then 1 else 0) = q at *
 have e2 : p * (r + y + b) = p * (x + q * 4294967296) := by rw [e]
 grind
set_option maxHeartbeats 1000000 in
theorem less_any (v u : Value) (ds es : List Nat) (w : World) (hv : DigV w v ds) (hu : DigV w u es) (hn : ds.length ≤ 4398046511104) (hle : es.length ≤ ds.length) (hge : nv es ≤ nv ds) :
  Calls Tryd.prog 71 #[v, u] w (Gives w fun r w' => ∃ l, DigV w' r l ∧ nv l = nv ds - nv es ∧ l.length = ds.length) := by
 obtain ⟨A, p1, rfl, hl, hc, hA⟩ := hv
 obtain ⟨E, p2, rfl, hl', hc', hE⟩ := hu
 have hmk := fun W => make_u32 ds.length (ds.length : Int) (by omega) (by omega) W
 go_enter Tryd.func71, Tryd.ntmps71
 go_wp2
 go_loopw [6, 15] (fun cv iv wr => ∃ (k c0 : Nat) (l : List Nat), k ≤ ds.length ∧ iv = .int .i64 k ∧ cv = .int .u32 c0 ∧ c0 ≤ 1 ∧ l.length = ds.length ∧ DBlk wr w.heap.size 57 l ∧ Digs l ∧ nv (l.take k) + nv (es.take k) = nv (ds.take k) + c0 * bp k ∧ Ext w wr) (fun _ iv _ => ds.length - (intOf iv).toNat)
 case atStart => exact ⟨0, 0, _, Nat.zero_le _, rfl, rfl, Nat.zero_le _, List.length_replicate, DBlk.new _ _ _, Digs.zeros _, by simp [nv_nil], (Ext.refl w).alloc _⟩
 case round =>
  obtain ⟨k, c0, l, hk, rfl, rfl, hc0, hll, hblk, hdl, hval, hx⟩ := hrel
  have hfz := hblk.frozen k
  by_cases hkl : k < ds.length
  ·have hcl := hblk.celld (i := k) (by omega)
   obtain ⟨a, rfl, hca⟩ := dig_at hA hkl
   have hca := hx.cell hca
   have x1 := dg_bound hA.1 k
   have y1 := dg_bound hE.1 k
   generalize hxx : dg ds k = x at *
   generalize hyy : dg es k = y at *
   have Hx := Lib.hid hxx; clear hxx
   have Hy := Lib.hid hyy; clear hyy
   have Hv := Lib.hid hval; clear hval
   have Hll := Lib.hid hll; clear hll
   have fin : ∀ z, z = y → nv ((l.set k ((x + 4294967296 - z - c0) % 4294967296)).take (k + 1)) + nv (es.take (k + 1)) = nv (ds.take (k + 1)) + (if x < z + c0 then 1 else 0) * bp (k + 1) := by
    rintro z rfl
    rw [nv_take_set (by have := Hll.out; omega), nv_take_dg, nv_take_dg, Hx.out, Hy.out, bp_succ]
    exact sub_step _ _ _ _ _ _ _ x1 y1 hc0 Hv.out
   have Hfin := Lib.hid fin; clear fin
   by_cases hke : k < es.length
   ·obtain ⟨b, rfl, hcb⟩ := dig_at hE hke
    rw [Hy.out] at hcb
    have hcb := hx.cell hcb
    have hbm := bor_mem x y c0
    go_wp2_with (go_at_call 83; refine (sub32_any _ _ _ _ (by omega) (by omega) (by omega) (by omega) (by omega) (by omega)).mono ?_; rintro e w' ⟨rfl, rfl⟩)
    go_roundw
    case rel =>
     refine ⟨k + 1, if x < y + c0 then 1 else 0, l.set k ((x + 4294967296 - y - c0) % 4294967296), by omega, by go_num, ?_, by split <;> omega, by simpa using Hll.out, hblk.setI _ _ (by omega), hdl.set (by omega) _, Hfin.out y rfl, hx.setCell _ _ (Nat.le_refl _)⟩
     unfold bor; split <;> split <;> first | rfl | omega
    case measure => simp [intOf]; omega
   ·obtain rfl : y = 0 := by rw [← Hy.out]; exact dg_ge (by omega)
    have hbm := bor_mem x 0 c0
    go_wp2_with (go_at_call 83; refine (sub32_any _ _ _ _ (by omega) (by omega) (by omega) (by omega) (by omega) (by omega)).mono ?_; rintro e w' ⟨rfl, rfl⟩)
    go_roundw
    case rel =>
     refine ⟨k + 1, if x < 0 + c0 then 1 else 0, l.set k ((x + 4294967296 - 0 - c0) % 4294967296), by omega, by go_num, ?_, by split <;> omega, by simpa using Hll.out, hblk.setI _ _ (by omega), hdl.set (by omega) _, Hfin.out 0 rfl, hx.setCell _ _ (Nat.le_refl _)⟩
     unfold bor; split <;> split <;> first | rfl | omega
    case measure => simp [intOf]; omega
  ·obtain rfl : k = ds.length := by omega
   have Hll := Lib.hid hll; clear hll
   go_wp2
   go_ret
   have hll := Hll.out
   rw [List.take_of_length_le (by omega), List.take_of_length_le hle, List.take_of_length_le (Nat.le_refl _)] at hval
   have hb := nv_lt hdl
   have hc00 : c0 = 0 := by
    rcases Nat.eq_zero_or_pos c0 with h | h
    ·exact h
    ·obtain rfl : c0 = 1 := by omega
     rw [hll] at hb
     omega
   subst hc00
   refine Gives.mk ⟨l, ?_, by omega, hll⟩ hx
   have hq := hblk.digv hdl (c := ds.length) (by omega) (by omega)
   rw [hll] at hq
   exact hq
theorem dblk_lit1 {w : World} {g : Nat} {t : TypeId} {a : Nat} (h : w.heap[g]? = some (.cells #[.int .u32 (a : Nat)] t (0, 0))) : DBlk w g t [a] := h
theorem dblk_lit2 {w : World} {g : Nat} {t : TypeId} {a b : Nat} (h : w.heap[g]? = some (.cells #[.int .u32 (a : Nat), .int .u32 (b : Nat)] t (0, 0))) : DBlk w g t [a, b] := h
set_option maxHeartbeats 400000 in
theorem wide_any (n : Nat) (x : Int) (hxn : x = n) (w : World) (hn : n < 18446744073709551616) :
  Calls Tryd.prog 51 #[.int .u64 x] w (Gives w fun r w' => ∃ l, DigV w' r l ∧ nv l = n ∧ Top l ∧ l.length ≤ 2) := by
 have h0 : 0 ≤ x := by omega
 have h1 : x < 18446744073709551616 := by omega
 have Hx := Lib.hid hxn; clear hxn
 by_cases c0 : x = 0
 ·subst c0
  go_enter Tryd.func51, Tryd.ntmps51
  go_wp2
  go_ret
  refine Gives.mk ⟨[], ⟨none, 0, rfl, by simp, by omega, Digs.nil, fun h => by simp at h⟩, ?_, Top.nil, by simp⟩ (Ext.refl _)
  have := Hx.out
  simp only [nv_nil]; omega
 ·have b0 : (x == 0) = false := by simpa using c0
  have Hc := Lib.hid c0; clear c0
  by_cases c1 : x < 4294967296
  ·go_enter Tryd.func51, Tryd.ntmps51
   go_wp2
   go_ret
   have hx := Hx.out; have hc := Hc.out
   refine Gives.mk ⟨[n], ?_, by simp [nv_cons, nv_nil], ?_, by simp⟩ ((Ext.refl _).alloc _)
   ·have hb : DBlk (w.alloc (.cells #[.int .u32 x] 57)) w.heap.size 57 [n] := by
     rw [hx]; exact dblk_lit1 (heap_alloc_new w _)
    exact hb.digv (Digs.cons (by omega) Digs.nil) (c := 1) (by simp) (by omega)
   ·intro _; simp; omega
  ·go_enter Tryd.func51, Tryd.ntmps51
   go_wp2
   go_ret
   have hx := Hx.out
   refine Gives.mk ⟨[n % 4294967296, n / 4294967296], ?_, by simp [nv_cons, nv_nil]; omega, ?_, by simp⟩ ((Ext.refl _).alloc _)
   ·have hb : DBlk (w.alloc (.cells #[.int .u32 (x % 4294967296), .int .u32 (x / 4294967296)] 57)) w.heap.size 57 [n % 4294967296, n / 4294967296] := by
     have e : x % 4294967296 = ((n % 4294967296 : Nat) : Int) := by omega
     have e' : x / 4294967296 = ((n / 4294967296 : Nat) : Int) := by omega
     rw [e, e']; exact dblk_lit2 (heap_alloc_new w _)
    exact hb.digv (Digs.cons (by omega) (Digs.cons (by omega) Digs.nil)) (c := 2) (by simp) (by omega)
   ·intro _; simp; omega
theorem or_shift' (h l : Int) (hh : 0 ≤ h) (hh' : h < 4294967296) (hl : 0 ≤ l) (hl' : l < 4294967296) : bits .or .u64 (h * 4294967296) l = l + 4294967296 * h := by rw [or_shift h l hh hh' hl hl']; omega
set_option maxHeartbeats 400000 in
theorem word_any (v : Value) (ds : List Nat) (w : World) (hv : DigV w v ds) (hl : ds.length ≤ 2) :
  Calls Tryd.prog 73 #[v] w (Gives w fun r _ => r = .int .u64 (nv ds : Nat)) := by
 obtain ⟨A, c, rfl, hlc, hc, hd, hA⟩ := hv
 match ds, hl, hlc, hd, hA with
 | [], _, hlc, hd, hA =>
  clear hd hA
  go_enter Tryd.func73, Tryd.ntmps73
  go_wp2
  go_ret
  exact Gives.mk rfl (Ext.refl _)
 | [a], _, hlc, hd, hA =>
  obtain ⟨p, rfl, hcell⟩ := hA (by simp)
  have c0 : w.cell? p = some (.int .u32 (a : Nat)) := hcell 0 (by simp)
  have ha := hd a (by simp)
  clear hcell hA hd
  go_enter Tryd.func73, Tryd.ntmps73
  go_wp2
  go_ret
  refine Gives.mk ?_ (Ext.refl _)
  simp [nv_cons, nv_nil]
 | [a, b], _, hlc, hd, hA =>
  obtain ⟨p, rfl, hcell⟩ := hA (by simp)
  have c0 : w.cell? p = some (.int .u32 (a : Nat)) := hcell 0 (by simp)
  have c1 : w.cell? ⟨p.block, p.off + 1, none⟩ = some (.int .u32 (b : Nat)) := hcell 1 (by simp)
  have ha := hd a (by simp)
  have hb := hd b (by simp)
  have ho := or_shift' b a (by omega) (by omega) (by omega) (by omega)
  clear hcell hA hd
  go_enter Tryd.func73, Tryd.ntmps73
  go_wp2
  refine wp_region_par (k := 9) (D := [13, 14, 15, 16, 17, 18, 19, 20, 21]) (T := [[], [0], [0, 1], [0, 1, 2], [0, 1, 2, 3], [], [5], [5, 6], [5, 6, 7], [0, 1, 2, 3, 4, 5, 6, 7, 8], [0, 1, 2, 3, 4, 5, 6, 7, 8, 9]]) (EK := [0]) (EV := [?e1x0]) (VL := [(kv ?v1x0), (kv ?v1x1), (kv ?v1x2), (kv ?v1x3), (kv ?v1x4), (kv ?v1x5), (kv ?v1x6), (kv ?v1x7), (kv ?v1x8)]) (FL := fun γ w' => [True, True, True, True, True, True, True, True, True]) ?hE1 (by kernel_rfl) (by kernel_rfl) (by rfl) (by kernel_rfl) ?hloc1 ?hmono1 ?hstep1 ?htail1
  case hE1 => refine ⟨?_, trivial⟩ <;> (simp only [List.getElem?_toArray, List.getElem?_cons_succ, List.getElem?_cons_zero]; rfl)
  case hstep1 =>
   refine ⟨⟨⟨⟨⟨⟨⟨⟨⟨trivial, ?_⟩, ?_⟩, ?_⟩, ?_⟩, ?_⟩, ?_⟩, ?_⟩, ?_⟩, ?_⟩
   iterate 9 focus
    intro γ w' he hf; clear hf; refine ⟨by trivial, ?_⟩; intro R hR; have hc := he.cells
    have cq0 := he.cell c0
    have cq1 := he.cell c1
    go_simp; (try go_ints); (try (rw [if_neg (by omega)])); (try (rw [if_pos (by omega)])); (try go_simp); (try go_ints)
    refine hR _ _ (Ext.refl _) ?_ trivial; rfl
  case hloc1 =>
   exact ⟨⟨⟨⟨⟨⟨⟨⟨⟨trivial, (fun γ γ' h => ⟨rfl, fun _ => rfl⟩)⟩, (fun γ γ' h => ⟨rfl, fun _ => rfl⟩)⟩, (fun γ γ' h => ⟨rfl, fun _ => rfl⟩)⟩, (fun γ γ' h => ⟨rfl, fun _ => rfl⟩)⟩, (fun γ γ' h => ⟨rfl, fun _ => rfl⟩)⟩, (fun γ γ' h => ⟨rfl, fun _ => rfl⟩)⟩, (fun γ γ' h => ⟨rfl, fun _ => rfl⟩)⟩, (fun γ γ' h => ⟨rfl, fun _ => rfl⟩)⟩, (fun γ γ' h => ⟨rfl, fun _ => rfl⟩)⟩
  case hmono1 =>
   exact ⟨⟨⟨⟨⟨⟨⟨⟨⟨trivial, (fun γ wA w' e h => h)⟩, (fun γ wA w' e h => h)⟩, (fun γ wA w' e h => h)⟩, (fun γ wA w' e h => h)⟩, (fun γ wA w' e h => h)⟩, (fun γ wA w' e h => h)⟩, (fun γ wA w' e h => h)⟩, (fun γ wA w' e h => h)⟩, (fun γ wA w' e h => h)⟩
  intro γ w1 hx1 hF
  clear hF
  simp only [fillAll, gV, kv, List.getD_cons_zero, List.getD_cons_succ, Act.put, List.setIfInBounds_toArray, List.set_cons_zero, List.set_cons_succ, List.toList_toArray, List.drop_succ_cons, List.drop_zero, List.drop_nil, Nat.zero_add, Nat.reduceAdd]
  clear γ
  go_wp2
  go_ret
  refine Gives.mk ?_ hx1
  simp [nv_cons, nv_nil]
def cmp (x y : Nat) : Int := ((x : Int) - y).sign
theorem cmp_lt {x y : Nat} (h : x < y) : cmp x y = -1 := Int.sign_eq_neg_one_of_neg (by omega)
theorem cmp_gt {x y : Nat} (h : y < x) : cmp x y = 1 := Int.sign_eq_one_of_pos (by omega)
theorem cmp_eq {x y : Nat} (h : x = y) : cmp x y = 0 := by subst h; unfold cmp; rw [Int.sub_self]; rfl
theorem top_differs {ds es : List Nat} (hd : Digs ds) (he : Digs es) {k : Nat} (hk : k < ds.length) (hk' : k < es.length) (h : nv (ds.drop (k + 1)) = nv (es.drop (k + 1))) (hlt : dg ds k < dg es k) : nv ds < nv es := by
 have h1 := nv_split ds k (by omega)
 have h2 := nv_split es k (by omega)
 rw [nv_drop hk] at h1
 rw [nv_drop hk'] at h2
 rw [dg_lt hk, dg_lt hk'] at hlt
 have l1 := nv_lt (hd.take k)
 rw [List.length_take, Nat.min_eq_left (by omega)] at l1
 rw [h1, h2, h]
 have : bp k * (ds[k] + 1 + 4294967296 * nv (es.drop (k + 1))) ≤ bp k * (es[k] + 4294967296 * nv (es.drop (k + 1))) := Nat.mul_le_mul_left _ (by omega)
 generalize nv (es.drop (k + 1)) = M at *
 simp only [Nat.mul_add, Nat.mul_one] at this ⊢
 omega
set_option maxHeartbeats 1000000 in
theorem compare_any (v u : Value) (ds es : List Nat) (w : World) (hv : DigV w v ds) (hu : DigV w u es) (htd : Top ds) (hte : Top es) (hn : ds.length ≤ 4398046511104) (hm : es.length ≤ 4398046511104) :
  Calls Tryd.prog 72 #[v, u] w (Gives w fun r _ => r = .int .i64 (cmp (nv ds) (nv es))) := by
 obtain ⟨A, p1, rfl, hl, hc, hA⟩ := hv
 obtain ⟨E, p2, rfl, hl', hc', hE⟩ := hu
 by_cases hne : ds.length = es.length
 ·have hb0 : ((ds.length : Int) != es.length) = false := by simp [hne]
  have Hne := Lib.hid hne; clear hne
  have hle : es.length ≤ ds.length := by have := Hne.out; omega
  go_enter Tryd.func72, Tryd.ntmps72
  go_wp2
  go_loopw [5] (fun iv wr => ∃ k : Nat, k ≤ ds.length ∧ (∃ q : Int, q + 1 = k ∧ iv = .int .i64 q) ∧ nv (ds.drop k) = nv (es.drop k) ∧ Ext w wr) (fun iv _ => (intOf iv + 1).toNat)
  case atStart => exact ⟨ds.length, Nat.le_refl _, ⟨_, by omega, rfl⟩, by rw [List.drop_length, List.drop_of_length_le hle], Ext.refl _⟩
  case round =>
   obtain ⟨k, hk, ⟨q, hq, rfl⟩, hval, hx⟩ := hrel
   have Hv := Lib.hid hval; clear hval
   by_cases hk0 : 0 < k
   ·obtain ⟨k, rfl⟩ : ∃ j, k = j + 1 := ⟨k - 1, by omega⟩
    obtain rfl : q = (k : Int) := by omega
    clear hq
    have hke : k < es.length := by have := Hne.out; omega
    obtain ⟨a, rfl, hca⟩ := dig_at hA (k := k) (by omega)
    obtain ⟨b, rfl, hcb⟩ := dig_at hE (k := k) hke
    replace hca := hx.cell hca
    replace hcb := hx.cell hcb
    have x1 := dg_bound hA.1 k
    have y1 := dg_bound hE.1 k
    generalize hxx : dg ds k = x at *
    generalize hyy : dg es k = y at *
    have Hx := Lib.hid hxx; clear hxx
    have Hy := Lib.hid hyy; clear hyy
    rcases Nat.lt_trichotomy x y with hlt | heq | hgt
    ·have b1 : ((x : Int) != y) = true := by simp; omega
     have b2 : decide ((x : Int) < y) = true := by simp; omega
     go_wp2
     refine wp_region_par (k := 8) (D := [24, 25, 26, 27, 28, 29, 30, 31]) (T := [[], [], [0, 1], [0, 1, 2], [], [], [4, 5], [4, 5, 6], [0, 1, 2, 3, 4, 5, 6, 7]]) (EK := [0, 5, 1]) (EV := [?e2x0, ?e2x1, ?e2x2]) (VL := [(kv ?v2x0), (kv ?v2x1), (kv ?v2x2), (kv ?v2x3), (kv ?v2x4), (kv ?v2x5), (kv ?v2x6), (kv ?v2x7)]) (FL := fun γ w' => [True, True, True, True, True, True, True, True]) ?hE2 (by kernel_rfl) (by kernel_rfl) (by rfl) (by kernel_rfl) ?hloc2 ?hmono2 ?hstep2 ?htail2
     case hE2 => refine ⟨?_, ?_, ?_, trivial⟩ <;> (simp only [List.getElem?_toArray, List.getElem?_cons_succ, List.getElem?_cons_zero]; rfl)
     case hstep2 =>
      refine ⟨⟨⟨⟨⟨⟨⟨⟨trivial, ?_⟩, ?_⟩, ?_⟩, ?_⟩, ?_⟩, ?_⟩, ?_⟩, ?_⟩
      iterate 8 focus
       intro γ w' he hf; clear hf; refine ⟨by trivial, ?_⟩; intro R hR; have hc := he.cells
       have cq0 := he.cell hca
       have cq1 := he.cell hcb
       go_simp; (try go_ints); (try (rw [if_neg (by omega)])); (try (rw [if_pos (by omega)])); (try go_simp); (try go_ints)
       refine hR _ _ (Ext.refl _) ?_ trivial; rfl
     case hloc2 =>
      exact ⟨⟨⟨⟨⟨⟨⟨⟨trivial, (fun γ γ' h => ⟨rfl, fun _ => rfl⟩)⟩, (fun γ γ' h => ⟨rfl, fun _ => rfl⟩)⟩, (fun γ γ' h => ⟨rfl, fun _ => rfl⟩)⟩, (fun γ γ' h => ⟨rfl, fun _ => rfl⟩)⟩, (fun γ γ' h => ⟨rfl, fun _ => rfl⟩)⟩, (fun γ γ' h => ⟨rfl, fun _ => rfl⟩)⟩, (fun γ γ' h => ⟨rfl, fun _ => rfl⟩)⟩, (fun γ γ' h => ⟨rfl, fun _ => rfl⟩)⟩
     case hmono2 =>
      exact ⟨⟨⟨⟨⟨⟨⟨⟨trivial, (fun γ wA w' e h => h)⟩, (fun γ wA w' e h => h)⟩, (fun γ wA w' e h => h)⟩, (fun γ wA w' e h => h)⟩, (fun γ wA w' e h => h)⟩, (fun γ wA w' e h => h)⟩, (fun γ wA w' e h => h)⟩, (fun γ wA w' e h => h)⟩
     intro γ w1 hx1 hF
     clear hF
     simp only [fillAll, gV, kv, List.getD_cons_zero, List.getD_cons_succ, Act.put, List.setIfInBounds_toArray, List.set_cons_zero, List.set_cons_succ, List.toList_toArray, List.drop_succ_cons, List.drop_zero, List.drop_nil, Nat.zero_add, Nat.reduceAdd]
     clear γ
     replace hca := hx1.cell hca
     replace hcb := hx1.cell hcb
     go_wp2
     refine wp_region_par (k := 8) (D := [33, 34, 35, 36, 37, 38, 39, 40]) (T := [[], [], [0, 1], [0, 1, 2], [], [], [4, 5], [4, 5, 6], [0, 1, 2, 3, 4, 5, 6, 7]]) (EK := [0, 5, 1]) (EV := [?e3x0, ?e3x1, ?e3x2]) (VL := [(kv ?v3x0), (kv ?v3x1), (kv ?v3x2), (kv ?v3x3), (kv ?v3x4), (kv ?v3x5), (kv ?v3x6), (kv ?v3x7)]) (FL := fun γ w' => [True, True, True, True, True, True, True, True]) ?hE3 (by kernel_rfl) (by kernel_rfl) (by rfl) (by kernel_rfl) ?hloc3 ?hmono3 ?hstep3 ?htail3
     case hE3 => refine ⟨?_, ?_, ?_, trivial⟩ <;> (simp only [List.getElem?_toArray, List.getElem?_cons_succ, List.getElem?_cons_zero]; rfl)
     case hstep3 =>
      refine ⟨⟨⟨⟨⟨⟨⟨⟨trivial, ?_⟩, ?_⟩, ?_⟩, ?_⟩, ?_⟩, ?_⟩, ?_⟩, ?_⟩
      iterate 8 focus
       intro γ w' he hf; clear hf; refine ⟨by trivial, ?_⟩; intro R hR; have hc := he.cells
       have cq0 := he.cell hca
       have cq1 := he.cell hcb
       go_simp; (try go_ints); (try (rw [if_neg (by omega)])); (try (rw [if_pos (by omega)])); (try go_simp); (try go_ints)
       refine hR _ _ (Ext.refl _) ?_ trivial; rfl
     case hloc3 =>
      exact ⟨⟨⟨⟨⟨⟨⟨⟨trivial, (fun γ γ' h => ⟨rfl, fun _ => rfl⟩)⟩, (fun γ γ' h => ⟨rfl, fun _ => rfl⟩)⟩, (fun γ γ' h => ⟨rfl, fun _ => rfl⟩)⟩, (fun γ γ' h => ⟨rfl, fun _ => rfl⟩)⟩, (fun γ γ' h => ⟨rfl, fun _ => rfl⟩)⟩, (fun γ γ' h => ⟨rfl, fun _ => rfl⟩)⟩, (fun γ γ' h => ⟨rfl, fun _ => rfl⟩)⟩, (fun γ γ' h => ⟨rfl, fun _ => rfl⟩)⟩
     case hmono3 =>
      exact ⟨⟨⟨⟨⟨⟨⟨⟨trivial, (fun γ wA w' e h => h)⟩, (fun γ wA w' e h => h)⟩, (fun γ wA w' e h => h)⟩, (fun γ wA w' e h => h)⟩, (fun γ wA w' e h => h)⟩, (fun γ wA w' e h => h)⟩, (fun γ wA w' e h => h)⟩, (fun γ wA w' e h => h)⟩
     intro γ w2 hx2 hF
     clear hF
     simp only [fillAll, gV, kv, List.getD_cons_zero, List.getD_cons_succ, Act.put, List.setIfInBounds_toArray, List.set_cons_zero, List.set_cons_succ, List.toList_toArray, List.drop_succ_cons, List.drop_zero, List.drop_nil, Nat.zero_add, Nat.reduceAdd]
     clear γ
     go_wp2
     go_ret
     refine Gives.mk ?_ ((hx.trans hx1).trans hx2)
     rw [cmp_lt (top_differs hA.1 hE.1 (by omega) hke Hv.out (by rw [Hx.out, Hy.out]; exact hlt))]
     rfl
    ·subst heq
     have b1 : ((x : Int) != x) = false := by simp
     go_wp2
     refine wp_region_par (k := 8) (D := [24, 25, 26, 27, 28, 29, 30, 31]) (T := [[], [], [0, 1], [0, 1, 2], [], [], [4, 5], [4, 5, 6], [0, 1, 2, 3, 4, 5, 6, 7]]) (EK := [0, 5, 1]) (EV := [?e4x0, ?e4x1, ?e4x2]) (VL := [(kv ?v4x0), (kv ?v4x1), (kv ?v4x2), (kv ?v4x3), (kv ?v4x4), (kv ?v4x5), (kv ?v4x6), (kv ?v4x7)]) (FL := fun γ w' => [True, True, True, True, True, True, True, True]) ?hE4 (by kernel_rfl) (by kernel_rfl) (by rfl) (by kernel_rfl) ?hloc4 ?hmono4 ?hstep4 ?htail4
     case hE4 => refine ⟨?_, ?_, ?_, trivial⟩ <;> (simp only [List.getElem?_toArray, List.getElem?_cons_succ, List.getElem?_cons_zero]; rfl)
     case hstep4 =>
      refine ⟨⟨⟨⟨⟨⟨⟨⟨trivial, ?_⟩, ?_⟩, ?_⟩, ?_⟩, ?_⟩, ?_⟩, ?_⟩, ?_⟩
      iterate 8 focus
       intro γ w' he hf; clear hf; refine ⟨by trivial, ?_⟩; intro R hR; have hc := he.cells
       have cq0 := he.cell hca
       have cq1 := he.cell hcb
       go_simp; (try go_ints); (try (rw [if_neg (by omega)])); (try (rw [if_pos (by omega)])); (try go_simp); (try go_ints)
       refine hR _ _ (Ext.refl _) ?_ trivial; rfl
     case hloc4 =>
      exact ⟨⟨⟨⟨⟨⟨⟨⟨trivial, (fun γ γ' h => ⟨rfl, fun _ => rfl⟩)⟩, (fun γ γ' h => ⟨rfl, fun _ => rfl⟩)⟩, (fun γ γ' h => ⟨rfl, fun _ => rfl⟩)⟩, (fun γ γ' h => ⟨rfl, fun _ => rfl⟩)⟩, (fun γ γ' h => ⟨rfl, fun _ => rfl⟩)⟩, (fun γ γ' h => ⟨rfl, fun _ => rfl⟩)⟩, (fun γ γ' h => ⟨rfl, fun _ => rfl⟩)⟩, (fun γ γ' h => ⟨rfl, fun _ => rfl⟩)⟩
     case hmono4 =>
      exact ⟨⟨⟨⟨⟨⟨⟨⟨trivial, (fun γ wA w' e h => h)⟩, (fun γ wA w' e h => h)⟩, (fun γ wA w' e h => h)⟩, (fun γ wA w' e h => h)⟩, (fun γ wA w' e h => h)⟩, (fun γ wA w' e h => h)⟩, (fun γ wA w' e h => h)⟩, (fun γ wA w' e h => h)⟩
     intro γ w1 hx1 hF
     clear hF
     simp only [fillAll, gV, kv, List.getD_cons_zero, List.getD_cons_succ, Act.put, List.setIfInBounds_toArray, List.set_cons_zero, List.set_cons_succ, List.toList_toArray, List.drop_succ_cons, List.drop_zero, List.drop_nil, Nat.zero_add, Nat.reduceAdd]
     clear γ
     go_wp2
     go_roundw
     case rel =>
      refine ⟨k, by omega, ⟨_, by omega, rfl⟩, ?_, hx.trans hx1⟩
      rw [nv_drop (by omega), nv_drop hke, ← dg_lt, ← dg_lt, Hx.out, Hy.out, Hv.out]
     case measure => simp [intOf] <;> omega
    ·have b1 : ((x : Int) != y) = true := by simp; omega
     have b2 : decide ((x : Int) < y) = false := by simp; omega
     go_wp2
     refine wp_region_par (k := 8) (D := [24, 25, 26, 27, 28, 29, 30, 31]) (T := [[], [], [0, 1], [0, 1, 2], [], [], [4, 5], [4, 5, 6], [0, 1, 2, 3, 4, 5, 6, 7]]) (EK := [0, 5, 1]) (EV := [?e5x0, ?e5x1, ?e5x2]) (VL := [(kv ?v5x0), (kv ?v5x1), (kv ?v5x2), (kv ?v5x3), (kv ?v5x4), (kv ?v5x5), (kv ?v5x6), (kv ?v5x7)]) (FL := fun γ w' => [True, True, True, True, True, True, True, True]) ?hE5 (by kernel_rfl) (by kernel_rfl) (by rfl) (by kernel_rfl) ?hloc5 ?hmono5 ?hstep5 ?htail5
     case hE5 => refine ⟨?_, ?_, ?_, trivial⟩ <;> (simp only [List.getElem?_toArray, List.getElem?_cons_succ, List.getElem?_cons_zero]; rfl)
     case hstep5 =>
      refine ⟨⟨⟨⟨⟨⟨⟨⟨trivial, ?_⟩, ?_⟩, ?_⟩, ?_⟩, ?_⟩, ?_⟩, ?_⟩, ?_⟩
      iterate 8 focus
       intro γ w' he hf; clear hf; refine ⟨by trivial, ?_⟩; intro R hR; have hc := he.cells
       have cq0 := he.cell hca
       have cq1 := he.cell hcb
       go_simp; (try go_ints); (try (rw [if_neg (by omega)])); (try (rw [if_pos (by omega)])); (try go_simp); (try go_ints)
       refine hR _ _ (Ext.refl _) ?_ trivial; rfl
     case hloc5 =>
      exact ⟨⟨⟨⟨⟨⟨⟨⟨trivial, (fun γ γ' h => ⟨rfl, fun _ => rfl⟩)⟩, (fun γ γ' h => ⟨rfl, fun _ => rfl⟩)⟩, (fun γ γ' h => ⟨rfl, fun _ => rfl⟩)⟩, (fun γ γ' h => ⟨rfl, fun _ => rfl⟩)⟩, (fun γ γ' h => ⟨rfl, fun _ => rfl⟩)⟩, (fun γ γ' h => ⟨rfl, fun _ => rfl⟩)⟩, (fun γ γ' h => ⟨rfl, fun _ => rfl⟩)⟩, (fun γ γ' h => ⟨rfl, fun _ => rfl⟩)⟩
     case hmono5 =>
      exact ⟨⟨⟨⟨⟨⟨⟨⟨trivial, (fun γ wA w' e h => h)⟩, (fun γ wA w' e h => h)⟩, (fun γ wA w' e h => h)⟩, (fun γ wA w' e h => h)⟩, (fun γ wA w' e h => h)⟩, (fun γ wA w' e h => h)⟩, (fun γ wA w' e h => h)⟩, (fun γ wA w' e h => h)⟩
     intro γ w1 hx1 hF
     clear hF
     simp only [fillAll, gV, kv, List.getD_cons_zero, List.getD_cons_succ, Act.put, List.setIfInBounds_toArray, List.set_cons_zero, List.set_cons_succ, List.toList_toArray, List.drop_succ_cons, List.drop_zero, List.drop_nil, Nat.zero_add, Nat.reduceAdd]
     clear γ
     replace hca := hx1.cell hca
     replace hcb := hx1.cell hcb
     go_wp2
     refine wp_region_par (k := 8) (D := [33, 34, 35, 36, 37, 38, 39, 40]) (T := [[], [], [0, 1], [0, 1, 2], [], [], [4, 5], [4, 5, 6], [0, 1, 2, 3, 4, 5, 6, 7]]) (EK := [0, 5, 1]) (EV := [?e6x0, ?e6x1, ?e6x2]) (VL := [(kv ?v6x0), (kv ?v6x1), (kv ?v6x2), (kv ?v6x3), (kv ?v6x4), (kv ?v6x5), (kv ?v6x6), (kv ?v6x7)]) (FL := fun γ w' => [True, True, True, True, True, True, True, True]) ?hE6 (by kernel_rfl) (by kernel_rfl) (by rfl) (by kernel_rfl) ?hloc6 ?hmono6 ?hstep6 ?htail6
     case hE6 => refine ⟨?_, ?_, ?_, trivial⟩ <;> (simp only [List.getElem?_toArray, List.getElem?_cons_succ, List.getElem?_cons_zero]; rfl)
     case hstep6 =>
      refine ⟨⟨⟨⟨⟨⟨⟨⟨trivial, ?_⟩, ?_⟩, ?_⟩, ?_⟩, ?_⟩, ?_⟩, ?_⟩, ?_⟩
      iterate 8 focus
       intro γ w' he hf; clear hf; refine ⟨by trivial, ?_⟩; intro R hR; have hc := he.cells
       have cq0 := he.cell hca
       have cq1 := he.cell hcb
       go_simp; (try go_ints); (try (rw [if_neg (by omega)])); (try (rw [if_pos (by omega)])); (try go_simp); (try go_ints)
       refine hR _ _ (Ext.refl _) ?_ trivial; rfl
     case hloc6 =>
      exact ⟨⟨⟨⟨⟨⟨⟨⟨trivial, (fun γ γ' h => ⟨rfl, fun _ => rfl⟩)⟩, (fun γ γ' h => ⟨rfl, fun _ => rfl⟩)⟩, (fun γ γ' h => ⟨rfl, fun _ => rfl⟩)⟩, (fun γ γ' h => ⟨rfl, fun _ => rfl⟩)⟩, (fun γ γ' h => ⟨rfl, fun _ => rfl⟩)⟩, (fun γ γ' h => ⟨rfl, fun _ => rfl⟩)⟩, (fun γ γ' h => ⟨rfl, fun _ => rfl⟩)⟩, (fun γ γ' h => ⟨rfl, fun _ => rfl⟩)⟩
     case hmono6 =>
      exact ⟨⟨⟨⟨⟨⟨⟨⟨trivial, (fun γ wA w' e h => h)⟩, (fun γ wA w' e h => h)⟩, (fun γ wA w' e h => h)⟩, (fun γ wA w' e h => h)⟩, (fun γ wA w' e h => h)⟩, (fun γ wA w' e h => h)⟩, (fun γ wA w' e h => h)⟩, (fun γ wA w' e h => h)⟩
     intro γ w2 hx2 hF
     clear hF
     simp only [fillAll, gV, kv, List.getD_cons_zero, List.getD_cons_succ, Act.put, List.setIfInBounds_toArray, List.set_cons_zero, List.set_cons_succ, List.toList_toArray, List.drop_succ_cons, List.drop_zero, List.drop_nil, Nat.zero_add, Nat.reduceAdd]
     clear γ
     go_wp2
     go_ret
     refine Gives.mk ?_ ((hx.trans hx1).trans hx2)
     rw [cmp_gt (top_differs hE.1 hA.1 hke (by omega) Hv.out.symm (by rw [Hx.out, Hy.out]; exact hgt))]
     rfl
   ·obtain rfl : k = 0 := by omega
    have q1 : q < 0 := by omega
    have Hq := Lib.hid hq; clear hq
    go_wp2
    go_ret
    refine Gives.mk ?_ hx
    rw [cmp_eq (by simpa using Hv.out)]
    rfl
 ·have hb0 : ((ds.length : Int) != es.length) = true := by simp; omega
  go_enter Tryd.func72, Tryd.ntmps72
  go_wp2_with (go_at_call 84; refine (sign_any _ _ (by omega) (by omega)).mono ?_; rintro e w' ⟨rfl, rfl⟩)
  go_ret
  refine Gives.mk ?_ (Ext.refl _)
  rcases Nat.lt_or_ge ds.length es.length with h | h
  ·rw [cmp_lt (top_len_lt hA.1 hte h)]
   exact congrArg (Value.int .i64) (Int.sign_eq_neg_one_of_neg (by omega))
  ·rw [cmp_gt (top_len_lt hE.1 htd (by omega))]
   exact congrArg (Value.int .i64) (Int.sign_eq_one_of_pos (by omega))
end Go.Proofs.YtfacbpnegkjcgaaDoor
namespace Go.Proofs.YtfacbpnegkjcgaaDoor
open Go.RowKit Go.Hp
theorem nv_set {l : List Nat} {p d : Nat} (hp : p < l.length) : nv (l.set p d) + bp p * dg l p = nv l + bp p * d := by
 have hp' : p < (l.set p d).length := by simpa using hp
 have h1 := nv_split l p (by omega)
 have h2 := nv_split (l.set p d) p (by omega)
 rw [nv_drop hp] at h1
 rw [nv_drop hp'] at h2
 rw [dg_lt hp, h1, h2]
 simp only [List.take_set_of_le (Nat.le_refl p), List.getElem_set_self, List.drop_set_of_lt (Nat.lt_succ_self p)]
 grind
theorem dg_set_ne {l : List Nat} {p q d : Nat} (h : q ≠ p) : dg (l.set p d) q = dg l q := by
 unfold dg
 rw [List.getD_eq_getElem?_getD, List.getD_eq_getElem?_getD, List.getElem?_set_ne (by omega)]
theorem mul_step {M M' N pi pj E x y z c : Nat} (hM : M' + (pi * pj) * z = M + (pi * pj) * ((x * y + z + c) % 4294967296)) (h : M + c * (pi * pj) = N + x * pi * E) :
  M' + (x * y + z + c) / 4294967296 * (pi * (4294967296 * pj)) = N + x * pi * (E + pj * y) := by
 have e : (x * y + z + c) % 4294967296 + 4294967296 * ((x * y + z + c) / 4294967296) = x * y + z + c := Nat.mod_add_div _ _
 generalize (x * y + z + c) % 4294967296 = r at *
 generalize (x * y + z + c) / 4294967296 = q at *
 grind
set_option maxHeartbeats 2000000 in
theorem times_any (v u : Value) (ds es : List Nat) (w : World) (hv : DigV w v ds) (hu : DigV w u es) (hn : ds.length ≤ 4398046511104) (hm : es.length ≤ 4398046511104) :
  Calls Tryd.prog 56 #[v, u] w (Gives w fun r w' => ∃ l, DigV w' r l ∧ nv l = nv ds * nv es ∧ l.length ≤ ds.length + es.length) := by
 obtain ⟨A, p1, rfl, hl, hc, hA⟩ := hv
 obtain ⟨E, p2, rfl, hl', hc', hE⟩ := hu
 by_cases h0 : ds.length = 0
 ·obtain rfl := List.eq_nil_of_length_eq_zero h0
  clear hA hE
  go_enter Tryd.func56, Tryd.ntmps56
  go_wp2
  go_ret
  exact Gives.mk ⟨[], ⟨none, 0, rfl, by simp, by omega, Digs.nil, fun h => by simp at h⟩, by simp [nv_nil], by simp⟩ (Ext.refl _)
 by_cases h1 : es.length = 0
 ·have b0 : ((ds.length : Int) == 0) = false := by simpa using h0
  obtain rfl := List.eq_nil_of_length_eq_zero h1
  clear hA hE
  go_enter Tryd.func56, Tryd.ntmps56
  go_wp2
  go_ret
  exact Gives.mk ⟨[], ⟨none, 0, rfl, by simp, by omega, Digs.nil, fun h => by simp at h⟩, by simp [nv_nil], by simp⟩ (Ext.refl _)
 have b0 : ((ds.length : Int) == 0) = false := by simpa using h0
 have b1 : ((es.length : Int) == 0) = false := by simpa using h1
 by_cases h2 : ds.length = 1 ∧ es.length = 1
 ·obtain ⟨h2, h3⟩ := h2
  match ds, es, h2, h3, hA, hE, b0, b1, hl, hl' with
  | [x], [y], _, _, hA, hE, b0, b1, hl, hl' =>
   clear b0 b1
   obtain ⟨a, rfl, hca⟩ := dig_at hA (k := 0) (by simp)
   obtain ⟨b, rfl, hcb⟩ := dig_at hE (k := 0) (by simp)
   replace hca : w.cell? a = some (.int .u32 (x : Nat)) := hca
   replace hcb : w.cell? b = some (.int .u32 (y : Nat)) := hcb
   have hx : x < 4294967296 := hA.1 x (by simp)
   have hy : y < 4294967296 := hE.1 y (by simp)
   have hxy : x * y ≤ 4294967295 * 4294967295 := Nat.mul_le_mul (by omega) (by omega)
   have hxy2 : x * y < 18446744073709551616 := Nat.lt_of_le_of_lt hxy (by decide)
   have k1 : (0 : Int) ≤ (x : Int) * y := by rw [← Int.natCast_mul]; omega
   have k2 : (x : Int) * y < 18446744073709551616 := by rw [← Int.natCast_mul]; omega
   clear hxy
   clear hA hE
   go_enter Tryd.func56, Tryd.ntmps56
   go_wp2
   refine wp_region_par (k := 8) (D := [28, 29, 30, 31, 32, 33, 34, 35]) (T := [[], [0], [0, 1], [0, 1, 2], [], [4], [4, 5], [4, 5, 6], [0, 1, 2, 3, 4, 5, 6, 7], [0, 1, 2, 3, 4, 5, 6, 7, 8], [0, 1, 2, 3, 4, 5, 6, 7, 8, 9]]) (EK := [0, 1]) (EV := [?e1x0, ?e1x1]) (VL := [(kv ?v1x0), (kv ?v1x1), (kv ?v1x2), (kv ?v1x3), (kv ?v1x4), (kv ?v1x5), (kv ?v1x6), (kv ?v1x7)]) (FL := fun γ w' => [True, True, True, True, True, True, True, True]) ?hE1 (by kernel_rfl) (by kernel_rfl) (by rfl) (by kernel_rfl) ?hloc1 ?hmono1 ?hstep1 ?htail1
   case hE1 => refine ⟨?_, ?_, trivial⟩ <;> (simp only [List.getElem?_toArray, List.getElem?_cons_succ, List.getElem?_cons_zero]; rfl)
   case hstep1 =>
    refine ⟨⟨⟨⟨⟨⟨⟨⟨trivial, ?_⟩, ?_⟩, ?_⟩, ?_⟩, ?_⟩, ?_⟩, ?_⟩, ?_⟩
    iterate 8 focus
     intro γ w' he hf; clear hf; refine ⟨by trivial, ?_⟩; intro R hR; have hc := he.cells
     have cq0 := he.cell hca
     have cq1 := he.cell hcb
     go_simp; (try go_ints); (try (rw [if_neg (by omega)])); (try (rw [if_pos (by omega)])); (try go_simp); (try go_ints)
     refine hR _ _ (Ext.refl _) ?_ trivial; rfl
   case hloc1 =>
    exact ⟨⟨⟨⟨⟨⟨⟨⟨trivial, (fun γ γ' h => ⟨rfl, fun _ => rfl⟩)⟩, (fun γ γ' h => ⟨rfl, fun _ => rfl⟩)⟩, (fun γ γ' h => ⟨rfl, fun _ => rfl⟩)⟩, (fun γ γ' h => ⟨rfl, fun _ => rfl⟩)⟩, (fun γ γ' h => ⟨rfl, fun _ => rfl⟩)⟩, (fun γ γ' h => ⟨rfl, fun _ => rfl⟩)⟩, (fun γ γ' h => ⟨rfl, fun _ => rfl⟩)⟩, (fun γ γ' h => ⟨rfl, fun _ => rfl⟩)⟩
   case hmono1 =>
    exact ⟨⟨⟨⟨⟨⟨⟨⟨trivial, (fun γ wA w' e h => h)⟩, (fun γ wA w' e h => h)⟩, (fun γ wA w' e h => h)⟩, (fun γ wA w' e h => h)⟩, (fun γ wA w' e h => h)⟩, (fun γ wA w' e h => h)⟩, (fun γ wA w' e h => h)⟩, (fun γ wA w' e h => h)⟩
   intro γ w1 hx1 hF
   clear hF
   simp only [fillAll, gV, kv, List.getD_cons_zero, List.getD_cons_succ, Act.put, List.setIfInBounds_toArray, List.set_cons_zero, List.set_cons_succ, List.toList_toArray, List.drop_succ_cons, List.drop_zero, List.drop_nil, Nat.zero_add, Nat.reduceAdd]
   clear γ
   go_wp2_with (go_at_call 51; refine (wide_any (x * y) _ (by simp) _ (by omega)).mono ?_; rintro e w2 ⟨r, rfl, ⟨l, q1, q2, q3, q4⟩, hx2⟩)
   go_ret
   exact Gives.mk ⟨l, q1, by simpa [nv_cons, nv_nil] using q2, by simpa using q4⟩ (hx1.trans hx2)
 ·have hor : ¬ ((ds.length : Int) = 1 ∧ (es.length : Int) = 1) := fun ⟨a, b⟩ => h2 ⟨by omega, by omega⟩
  have hb2 : ((ds.length : Int) == 1) = false ∨ (((ds.length : Int) == 1) = true ∧ ((es.length : Int) == 1) = false) := by
   by_cases q : ds.length = 1
   ·right
    refine ⟨by simp [q], ?_⟩
    have : ¬ (es.length : Int) = 1 := fun e => hor ⟨by omega, e⟩
    simpa using this
   ·left; simp; omega
  clear h2 hor
  have hmk := fun W => make_u32 (ds.length + es.length) ((ds.length : Int) + es.length) (by omega) (by omega) W
  rcases hb2 with hb2 | ⟨hb2, hb3⟩
  all_goals
   go_enter Tryd.func56, Tryd.ntmps56
   go_wp2
   go_loopw [46] (fun iv wr => ∃ (i : Nat) (l : List Nat), i ≤ ds.length ∧ iv = .int .i64 i ∧ l.length = ds.length + es.length ∧ DBlk wr w.heap.size 57 l ∧ Digs l ∧ (∀ q, i + es.length ≤ q → dg l q = 0) ∧ nv l = nv (ds.take i) * nv es ∧ Ext w wr) (fun iv _ => ds.length - (intOf iv).toNat)
   case atStart => exact ⟨0, _, Nat.zero_le _, rfl, List.length_replicate, DBlk.new _ _ _, Digs.zeros _, fun q _ => by unfold dg; rw [List.getD_eq_getElem?_getD, List.getElem?_replicate]; split <;> rfl, by rw [nv_zeros]; simp [nv_nil], (Ext.refl w).alloc _⟩
   case round =>
    obtain ⟨i, l, hi, rfl, hll, hblk, hdl, hz, hval, hx⟩ := hrel
    have Hll := Lib.hid hll; clear hll
    have Hval := Lib.hid hval; clear hval
    have Hz := Lib.hid hz; clear hz
    by_cases hil : i < ds.length
    ·obtain ⟨a, rfl, hca⟩ := dig_at hA hil
     have hcar := hx.cell hca
     have x1 := dg_bound hA.1 i
     generalize hxx : dg ds i = x at *
     have Hx := Lib.hid hxx; clear hxx
     clear hca
     go_wp2
     obtain ⟨wo, rfl⟩ : ∃ wo : World, wo = wr := ⟨_, rfl⟩
     go_loopw [8, 53] (fun cv jv wr => ∃ (j c0 : Nat) (m : List Nat), j ≤ es.length ∧ jv = .int .i64 j ∧ cv = .int .u64 c0 ∧ c0 < 4294967296 ∧ m.length = ds.length + es.length ∧ DBlk wr w.heap.size 57 m ∧ Digs m ∧ (∀ q, i + es.length ≤ q → dg m q = 0) ∧ nv m + c0 * (bp i * bp j) = nv l + x * bp i * nv (es.take j) ∧ Ext w wr) (fun _ jv _ => es.length - (intOf jv).toNat)
     case atStart => exact ⟨0, 0, l, Nat.zero_le _, rfl, rfl, by omega, Hll.out, hblk, hdl, Hz.out, by simp [nv_nil], hx⟩
     case round =>
      obtain ⟨j, c0, m, hj, rfl, rfl, hc0, hml, hbm, hdm, hzm, hvm, hxm⟩ := hrel
      have Hml := Lib.hid hml; clear hml
      have Hvm := Lib.hid hvm; clear hvm
      have Hzm := Lib.hid hzm; clear hzm
      by_cases hje : j < es.length
      ·obtain ⟨b, rfl, hcb⟩ := dig_at hE hje
       replace hcb := hxm.cell hcb
       have y1 := dg_bound hE.1 j
       generalize hyy : dg es j = y at *
       have Hy := Lib.hid hyy; clear hyy
       have hmc := hbm.celld (i := i + j) (by have := Hml.out; omega)
       have z1 := dg_bound hdm (i + j)
       have hfz := hbm.frozen (i + j)
       generalize hzz : dg m (i + j) = z at *
       have Hzz := Lib.hid hzz; clear hzz
       have hxy : x * y ≤ 4294967295 * 4294967295 := Nat.mul_le_mul (by omega) (by omega)
       have hxy2 : x * y ≤ 18446744065119617025 := hxy
       clear hxy
       have k1 : (0 : Int) ≤ (x : Int) * y := by rw [← Int.natCast_mul]; omega
       have k2 : (x : Int) * y ≤ 18446744065119617025 := by rw [← Int.natCast_mul]; omega
       have Hxy := Lib.hid hxy2; clear hxy2
       go_wp2
       go_roundw
       case rel =>
        have hml := Hml.out
        have e1 : (((x * y + z + c0) % 4294967296 : Nat) : Int) = ((x : Int) * y + z + c0) % 4294967296 := by rw [← Int.natCast_mul]; omega
        have e2 : (((x * y + z + c0) / 4294967296 : Nat) : Int) = ((x : Int) * y + z + c0) / 4294967296 := by rw [← Int.natCast_mul]; omega
        refine ⟨j + 1, (x * y + z + c0) / 4294967296, m.set (i + j) ((x * y + z + c0) % 4294967296), by omega, by go_num, by rw [e2], by have := Hxy.out; omega, by simpa using hml, hbm.setI _ _ e1.symm, hdm.set (by omega) _, fun q hq => by rw [dg_set_ne (by omega)]; exact Hzm.out q hq, ?_, hxm.setCell _ _ (Nat.le_refl _)⟩
        have hs := nv_set (l := m) (p := i + j) (d := (x * y + z + c0) % 4294967296) (by omega)
        rw [Hzz.out, bp_add] at hs
        rw [nv_take_dg, Hy.out, bp_succ]
        exact mul_step hs Hvm.out
       case measure => simp [intOf]; omega
      ·obtain rfl : j = es.length := by omega
       have hmc := hbm.celld (i := i + es.length) (by have := Hml.out; omega)
       have hfz := hbm.frozen (i + es.length)
       go_wp2
       go_roundw
       case rel =>
        have hml := Hml.out
        refine ⟨i + 1, m.set (i + es.length) c0, by omega, by go_num, by simpa using hml, hbm.setI _ _ (by omega), hdm.set (by omega) _, fun q hq => by rw [dg_set_ne (by omega)]; exact Hzm.out q (by omega), ?_, hxm.setCell _ _ (Nat.le_refl _)⟩
        have hs := nv_set (l := m) (p := i + es.length) (d := c0) (by omega)
        rw [Hzm.out _ (Nat.le_refl _), Nat.mul_zero, Nat.add_zero, bp_add] at hs
        have h1 := Hvm.out
        rw [List.take_of_length_le (Nat.le_refl _), Hval.out] at h1
        rw [hs, nv_take_dg, Hx.out, Nat.mul_comm _ c0, h1]
        grind
       case measure => simp [intOf]; omega
    ·obtain rfl : i = ds.length := by omega
     go_wp2
     go_ret
     have hll := Hll.out
     refine Gives.mk ⟨l, ?_, by rw [Hval.out, List.take_of_length_le (Nat.le_refl _)], by omega⟩ hx
     have hq := hblk.digv hdl (c := ds.length + es.length) (by omega) (by omega)
     rw [hll] at hq
     exact hq
set_option maxHeartbeats 1000000 in
theorem short_any (v : Value) (ds : List Nat) (d : Nat) (w : World) (hv : DigV w v ds) (hd0 : 0 < d) (hd1 : d < 4294967296) (hn : ds.length ≤ 4398046511104) :
  Calls Tryd.prog 75 #[v, .int .u32 (d : Nat)] w (Gives w fun r w' => ∃ q l, r = .tuple #[q, .int .u32 ((nv ds % d : Nat) : Int)] ∧ DigV w' q l ∧ nv l = nv ds / d ∧ l.length = ds.length) := by
 obtain ⟨A, p1, rfl, hl, hc, hA⟩ := hv
 have hmk := fun W => make_u32 ds.length (ds.length : Int) (by omega) (by omega) W
 go_enter Tryd.func75, Tryd.ntmps75
 go_wp2
 go_loopw [7, 8] (fun rv iv wr => ∃ (k r : Nat) (l : List Nat), k ≤ ds.length ∧ (∃ q : Int, q + 1 = k ∧ iv = .int .i64 q) ∧ rv = .int .u32 r ∧ r < d ∧ l.length = ds.length ∧ DBlk wr w.heap.size 57 l ∧ Digs l ∧ nv (l.drop k) * d + r = nv (ds.drop k) ∧ Ext w wr) (fun _ iv _ => (intOf iv + 1).toNat)
 case atStart => exact ⟨ds.length, 0, _, Nat.le_refl _, ⟨_, by omega, rfl⟩, rfl, hd0, List.length_replicate, DBlk.new _ _ _, Digs.zeros _, by rw [List.drop_length, List.drop_of_length_le (by simp)]; simp [nv_nil], (Ext.refl w).alloc _⟩
 case round =>
  obtain ⟨k, r, l, hk, ⟨q, hq, rfl⟩, rfl, hr, hll, hblk, hdl, hval, hx⟩ := hrel
  have Hll := Lib.hid hll; clear hll
  have Hv := Lib.hid hval; clear hval
  by_cases hk0 : 0 < k
  ·obtain ⟨k, rfl⟩ : ∃ j, k = j + 1 := ⟨k - 1, by omega⟩
   obtain rfl : q = (k : Int) := by omega
   clear hq
   obtain ⟨a, rfl, hca⟩ := dig_at hA (k := k) (by omega)
   replace hca := hx.cell hca
   have x1 := dg_bound hA.1 k
   have hkl : k < l.length := by have := Hll.out; omega
   generalize hxx : dg ds k = x at *
   have Hx := Lib.hid hxx; clear hxx
   go_wp2_with (go_at_call 85; refine (div32_any _ _ _ _ (by omega) (by omega) (by omega) (by omega) (by omega)).mono ?_; rintro e w2 ⟨rr, rfl, rfl, hx2⟩; replace hblk := hblk.ext hx2; have hcl := hblk.celld (i := k) hkl; have hfz := hblk.frozen k)
   go_roundw
   case rel =>
    have e1 : (((r * 4294967296 + x) / d : Nat) : Int) = ((r : Int) * 4294967296 + x) / d := by simp
    have e2 : (((r * 4294967296 + x) % d : Nat) : Int) = ((r : Int) * 4294967296 + x) % d := by simp
    have hq : (r * 4294967296 + x) / d < 4294967296 := by
     apply Nat.div_lt_of_lt_mul
     have : (r + 1) * 4294967296 ≤ d * 4294967296 := Nat.mul_le_mul_right _ hr
     omega
    refine ⟨k, (r * 4294967296 + x) % d, l.set k ((r * 4294967296 + x) / d), by omega, ⟨_, by omega, rfl⟩, by rw [e2], Nat.mod_lt _ hd0, by simpa using Hll.out, hblk.setI _ _ e1.symm, hdl.set hq _, ?_, (hx.trans hx2).setCell _ _ (Nat.le_refl _)⟩
    have hkl' : k < (l.set k ((r * 4294967296 + x) / d)).length := by simpa using hkl
    rw [nv_drop hkl', nv_drop (ds := ds) (i := k) (by omega), ← dg_lt (ds := ds) (k := k), Hx.out, ← Hv.out]
    simp only [List.getElem_set_self, List.drop_set_of_lt (Nat.lt_succ_self k)]
    have e : d * ((r * 4294967296 + x) / d) + (r * 4294967296 + x) % d = r * 4294967296 + x := Nat.div_add_mod _ _
    generalize (r * 4294967296 + x) / d = qq at *
    generalize (r * 4294967296 + x) % d = rr at *
    grind
   case measure => simp [intOf] <;> omega
  ·obtain rfl : k = 0 := by omega
   have q1 : q < 0 := by omega
   have Hq := Lib.hid hq; clear hq
   go_wp2
   go_ret2
   have hv := Hv.out
   simp only [List.drop_zero] at hv
   have e := Nat.div_add_mod (nv ds) d
   have hm : nv ds % d = r := by rw [← hv, Nat.mul_add_mod_self_right, Nat.mod_eq_of_lt hr]
   have hqq : nv ds / d = nv l := by rw [← hv, Nat.add_comm, Nat.add_mul_div_right _ _ hd0, Nat.div_eq_of_lt hr]; omega
   refine Gives.mk ⟨_, l, by rw [hm]; rfl, ?_, hqq.symm, Hll.out⟩ hx
   have hq := hblk.digv hdl (c := ds.length) (by have := Hll.out; omega) (by omega)
   rw [Hll.out] at hq
   exact hq
theorem shl_low {x z s S : Nat} (hS : 2 ^ s = S) (hs : s < 32) (hz : z < S) : z ||| (x * S % 4294967296) = z + x * S % 4294967296 ∧ z + x * S % 4294967296 < 4294967296 := by
 subst hS
 have e : (4294967296 : Nat) = 2 ^ s * 2 ^ (32 - s) := by rw [← Nat.pow_add, show s + (32 - s) = 32 from by omega]
 have h1 : x * 2 ^ s % 4294967296 = 2 ^ s * (x % 2 ^ (32 - s)) := by rw [e, Nat.mul_comm x, Nat.mul_mod_mul_left]
 have h2 : x % 2 ^ (32 - s) + 1 ≤ 2 ^ (32 - s) := Nat.mod_lt _ (Nat.two_pow_pos _)
 have h3 : 2 ^ s * (x % 2 ^ (32 - s) + 1) ≤ 2 ^ s * 2 ^ (32 - s) := Nat.mul_le_mul_left _ h2
 rw [Nat.mul_add, Nat.mul_one] at h3
 rw [← e] at h3
 rw [h1]
 constructor
 ·rw [Nat.or_comm, ← Nat.two_pow_add_eq_or_of_lt hz, Nat.add_comm]
 ·omega
theorem u32_or_add {x z s S : Nat} (hS : 2 ^ s = S) (hs : s < 32) (hz : z < S) : bits .or .u32 (z : Int) ((x : Int) * S % 4294967296) = (z : Int) + (x : Int) * S % 4294967296 := by
 have ⟨h1, h2⟩ := shl_low (x := x) hS hs hz
 have h := u32_or_nat z (x * S % 4294967296) (by omega) (by omega)
 rw [h1] at h
 simpa using h
set_option maxHeartbeats 1000000 in
theorem shifted_any (v : Value) (ds : List Nat) (s : Nat) (w : World) (hv : DigV w v ds) (hs : s < 32) (hn : ds.length ≤ 4398046511104) :
  Calls Tryd.prog 79 #[v, .int .u64 (s : Nat)] w (Gives w fun r w' => ∃ l g, r = .slice (some ⟨g, 0, none⟩) (ds.length + 1) (ds.length + 1) ∧ w.heap.size ≤ g ∧ DBlk w' g 57 l ∧ Digs l ∧ nv l = nv ds * 2 ^ s ∧ l.length = ds.length + 1) := by
 obtain ⟨A, p1, rfl, hl, hc, hA⟩ := hv
 have hmk := fun W => make_u32 (ds.length + 1) ((ds.length : Int) + 1) (by omega) (by omega) W
 obtain ⟨S, hS⟩ : ∃ S, 2 ^ s = S := ⟨_, rfl⟩
 have hSi : (2 : Int) ^ s = (S : Nat) := by rw [← hS]; simp
 have hS1 : S ≤ 2147483648 := by rw [← hS]; exact Nat.pow_le_pow_right (by decide) (show s ≤ 31 by omega)
 have hS0 : 0 < S := by rw [← hS]; exact Nat.two_pow_pos _
 rw [hS]
 have HS := Lib.hid hS; clear hS
 go_enter Tryd.func79, Tryd.ntmps79
 go_wp2
 go_loopw [15] (fun iv wr => ∃ (k : Nat) (l : List Nat), k ≤ ds.length ∧ iv = .int .i64 k ∧ l.length = ds.length + 1 ∧ DBlk wr w.heap.size 57 l ∧ Digs l ∧ dg l k < S ∧ nv (l.take (k + 1)) = nv (ds.take k) * S ∧ Ext w wr) (fun iv _ => ds.length - (intOf iv).toNat)
 case atStart =>
  refine ⟨0, _, Nat.zero_le _, rfl, List.length_replicate, DBlk.new _ _ _, Digs.zeros _, ?_, ?_, (Ext.refl w).alloc _⟩
  ·rw [dg_lt (by simp), List.getElem_replicate]; exact hS0
  ·rw [List.replicate_succ]; simp [nv_cons, nv_nil]
 case round =>
  obtain ⟨k, l, hk, rfl, hll, hblk, hdl, hlo, hval, hx⟩ := hrel
  have Hll := Lib.hid hll; clear hll
  have Hv := Lib.hid hval; clear hval
  by_cases hkl : k < ds.length
  ·obtain ⟨a, rfl, hca⟩ := dig_at hA hkl
   replace hca := hx.cell hca
   have x1 := dg_bound hA.1 k
   have hcl := hblk.celld (i := k) (by have := Hll.out; omega)
   have hfz := hblk.frozen k
   have hcl2 := hblk.celld (i := k + 1) (by have := Hll.out; omega)
   have hfz2 := hblk.frozen (k + 1)
   generalize hxx : dg ds k = x at *
   generalize hzz : dg l k = z at *
   have Hx := Lib.hid hxx; clear hxx
   have Hz := Lib.hid hzz; clear hzz
   have ho := u32_or_add (x := x) HS.out hs hlo
   have hlo2 := (shl_low (x := x) HS.out hs hlo).2
   have hxS : x * S ≤ 4294967295 * 2147483648 := Nat.mul_le_mul (by omega) hS1
   have hxS2 : x * S ≤ 9223372034707292160 := hxS
   clear hxS
   have hxhi : x * S / 4294967296 < S := Nat.div_lt_of_lt_mul (by rw [Nat.mul_comm]; exact Nat.mul_lt_mul_of_pos_left x1 hS0 |> fun h => by rw [Nat.mul_comm S, Nat.mul_comm S] at h; rw [Nat.mul_comm]; omega)
   have k1 : (0 : Int) ≤ (x : Int) * S := by rw [← Int.natCast_mul]; omega
   have k2 : (x : Int) * S ≤ 9223372034707292160 := by rw [← Int.natCast_mul]; omega
   have e1 : ((z + x * S % 4294967296 : Nat) : Int) = (z : Int) + (x : Int) * S % 4294967296 := by rw [← Int.natCast_mul]; omega
   have e2 : ((x * S / 4294967296 : Nat) : Int) = (x : Int) * S / 4294967296 := by rw [← Int.natCast_mul]; omega
   have Hh := Lib.hid (And.intro hxhi (And.intro hlo2 (And.intro e1 e2)))
   clear hxS2 hxhi hlo2 e1 e2
   go_wp2
   go_roundw
   case rel =>
    obtain ⟨a1, a2, a3, a4⟩ := Hh.out
    have hll := Hll.out
    refine ⟨k + 1, (l.set k (z + x * S % 4294967296)).set (k + 1) (x * S / 4294967296), by omega, by go_num, by simpa using hll, (hblk.setI k _ a3.symm).setI (k + 1) _ a4.symm, (hdl.set a2 _).set (by omega) _, ?_, ?_, (hx.setCell _ _ (Nat.le_refl _)).setCell _ _ (Nat.le_refl _)⟩
    ·rw [dg_lt (by simp; omega), List.getElem_set_self]; exact a1
    ·rw [nv_take_set (by simp; omega), nv_take_set (by omega), nv_take_dg ds, Hx.out, bp_succ]
     have h1 := Hv.out
     rw [nv_take_dg, Hz.out] at h1
     have e : x * S % 4294967296 + 4294967296 * (x * S / 4294967296) = x * S := Nat.mod_add_div _ _
     generalize x * S % 4294967296 = r at *
     generalize x * S / 4294967296 = q at *
     grind
   case measure => simp [intOf] <;> omega
  ·obtain rfl : k = ds.length := by omega
   go_wp2
   go_ret
   have hll := Hll.out
   have hv := Hv.out
   rw [List.take_of_length_le (by omega), List.take_of_length_le (Nat.le_refl _)] at hv
   exact Gives.mk ⟨l, _, rfl, Nat.le_refl _, hblk, hdl, hv, hll⟩ hx
theorem or_shift2 (h l : Int) (hh : 0 ≤ h) (hh' : h < 4294967296) (hl : 0 ≤ l) (hl' : l < 4294967296) : bits .or .u64 l (h * 4294967296) = l + 4294967296 * h := by
 obtain ⟨H, rfl⟩ := Int.eq_ofNat_of_zero_le hh
 obtain ⟨L, rfl⟩ := Int.eq_ofNat_of_zero_le hl
 have e := u64_or_nat L (H * 4294967296) (by omega) (by omega)
 have e2 : L ||| H * 4294967296 = L + 4294967296 * H := by
  rw [Nat.or_comm, show H * 4294967296 = 2 ^ 32 * H from by omega, ← Nat.two_pow_add_eq_or_of_lt (by omega) H]
  omega
 rw [e2] at e
 simpa using e
theorem shr_word {x y S S' : Nat} (hS : 4294967296 = S * S') (hS0 : 0 < S) (hx : x < 4294967296) : (x + 4294967296 * y) / S % 4294967296 * S = (x - x % S) + 4294967296 * (y % S) := by
 have h1 : (x + 4294967296 * y) / S = x / S + S' * y := by
  rw [show 4294967296 * y = S * (S' * y) from by rw [hS, Nat.mul_assoc], Nat.add_mul_div_left _ _ hS0]
 have hS'0 : 0 < S' := by
  rcases Nat.eq_zero_or_pos S' with h | h
  ·subst h; omega
  ·exact h
 have hxS : x / S < S' := Nat.div_lt_of_lt_mul (by rw [← hS]; exact hx)
 have h2 : (x / S + S' * y) % 4294967296 = x / S + S' * (y % S) := by
  have e : x / S + S' * y = (x / S + S' * (y % S)) + 4294967296 * (y / S) := by
   have := Nat.mod_add_div y S
   have h : S' * y = S' * (y % S + S * (y / S)) := by rw [this]
   rw [h, Nat.mul_add, ← Nat.mul_assoc S' S, Nat.mul_comm S' S, ← hS]
   omega
  rw [e, Nat.add_mul_mod_self_left, Nat.mod_eq_of_lt]
  have h3 : S' * (y % S + 1) ≤ S' * S := Nat.mul_le_mul_left _ (Nat.mod_lt _ hS0)
  rw [Nat.mul_add, Nat.mul_one, Nat.mul_comm S' S, ← hS] at h3
  omega
 rw [h1, h2, Nat.add_mul]
 have h4 := Nat.mod_add_div x S
 rw [Nat.mul_comm S (x / S)] at h4
 have h5 : S' * (y % S) * S = 4294967296 * (y % S) := by rw [hS]; grind
 rw [h5]
 omega
theorem shr_step {L R X p S S' x y : Nat} (hS : 4294967296 = S * S') (hS0 : 0 < S) (hx : x < 4294967296) (h : L * S + R = X + x % S * p) :
  (L + p * ((x + 4294967296 * y) / S % 4294967296)) * S + R = X + p * x + y % S * (4294967296 * p) := by
 have e := shr_word (y := y) hS hS0 hx
 have e2 := Nat.mod_le x S
 generalize (x + 4294967296 * y) / S % 4294967296 = q at *
 obtain ⟨m, hm⟩ : ∃ m, x = x % S + m := ⟨x - x % S, by omega⟩
 rw [show x - x % S = m from by omega] at e
 generalize x % S = xs at *
 generalize y % S = ys at *
 subst hm
 have e3 : p * (q * S) = p * (m + 4294967296 * ys) := by rw [e]
 grind
theorem add_succ (a : Addr) (k : Nat) : a.add (k + 1) = ⟨a.block, a.off + (k + 1), none⟩ := by unfold Addr.add; rw [if_neg (by omega)]
set_option maxHeartbeats 1000000 in
theorem unshifted_any (v : Value) (ds : List Nat) (s : Nat) (w : World) (hv : DigV w v ds) (hs : s < 32) (hn : ds.length ≤ 4398046511104) :
  Calls Tryd.prog 81 #[v, .int .u64 (s : Nat)] w (Gives w fun r w' => ∃ l, DigV w' r l ∧ nv l = nv ds / 2 ^ s ∧ l.length = ds.length) := by
 obtain ⟨A, p1, rfl, hl, hc, hA⟩ := hv
 have hmk := fun W => make_u32 ds.length (ds.length : Int) (by omega) (by omega) W
 obtain ⟨S, hS⟩ : ∃ S, 2 ^ s = S := ⟨_, rfl⟩
 have hSi : (2 : Int) ^ s = (S : Nat) := by rw [← hS]; simp
 have hS0 : 0 < S := by rw [← hS]; exact Nat.two_pow_pos _
 have hSS : 4294967296 = S * 2 ^ (32 - s) := by rw [← hS, ← Nat.pow_add, show s + (32 - s) = 32 from by omega]
 rw [hS]
 have HS := Lib.hid (And.intro hS hSS); clear hS hSS
 go_enter Tryd.func81, Tryd.ntmps81
 go_wp2
 go_loopw [13] (fun iv wr => ∃ (k : Nat) (l : List Nat), k ≤ ds.length ∧ iv = .int .i64 k ∧ l.length = ds.length ∧ DBlk wr w.heap.size 57 l ∧ Digs l ∧ nv (l.take k) * S + nv ds % S = nv (ds.take k) + dg ds k % S * bp k ∧ Ext w wr) (fun iv _ => ds.length - (intOf iv).toNat)
 case atStart =>
  refine ⟨0, _, Nat.zero_le _, rfl, List.length_replicate, DBlk.new _ _ _, Digs.zeros _, ?_, (Ext.refl w).alloc _⟩
  simp only [List.take_zero, nv_nil, Nat.zero_mul, Nat.zero_add, bp_zero, Nat.mul_one]
  cases ds with
  | nil => rfl
  | cons d ds => rw [nv_cons, HS.out.2, Nat.mul_assoc, Nat.add_mul_mod_self_left]; rfl
 case round =>
  obtain ⟨k, l, hk, rfl, hll, hblk, hdl, hval, hx⟩ := hrel
  have Hll := Lib.hid hll; clear hll
  have Hv := Lib.hid hval; clear hval
  by_cases hkl : k < ds.length
  ·obtain ⟨a, rfl, hca⟩ := dig_at hA hkl
   replace hca := hx.cell hca
   have x1 := dg_bound hA.1 k
   have y1 := dg_bound hA.1 (k + 1)
   have hcl := hblk.celld (i := k) (by have := Hll.out; omega)
   have hfz := hblk.frozen k
   have hs1 : (1 : Int) ≤ S := by omega
   by_cases hkl1 : k + 1 < ds.length
   ·obtain ⟨a', ha, hcb⟩ := dig_at hA hkl1
    cases ha
    replace hcb := hx.cell hcb
    rw [add_succ] at hcb
    generalize hxx : dg ds k = x at *
    generalize hyy : dg ds (k + 1) = y at *
    have Hx := Lib.hid (And.intro hxx hyy); clear hxx hyy
    have ho := or_shift2 y x (by omega) (by omega) (by omega) (by omega)
    go_wp2
    go_roundw
    case rel =>
     have e1 : (((x + 4294967296 * y) / S % 4294967296 : Nat) : Int) = ((x : Int) + 4294967296 * y) / S % 4294967296 := by simp
     refine ⟨k + 1, l.set k ((x + 4294967296 * y) / S % 4294967296), by omega, by go_num, by simpa using Hll.out, hblk.setI _ _ e1.symm, hdl.set (by omega) _, ?_, hx.setCell _ _ (Nat.le_refl _)⟩
     rw [nv_take_set (by have := Hll.out; omega), nv_take_dg, Hx.out.1, Hx.out.2, bp_succ]
     have h1 := Hv.out
     exact shr_step HS.out.2 hS0 x1 h1
    case measure => simp [intOf] <;> omega
   ·generalize hxx : dg ds k = x at *
    have Hx := Lib.hid hxx; clear hxx
    have hyy : dg ds (k + 1) = 0 := dg_ge (by omega)
    have Hy := Lib.hid hyy; clear hyy
    go_wp2
    go_roundw
    case rel =>
     have e1 : (((x + 4294967296 * 0) / S % 4294967296 : Nat) : Int) = (x : Int) / S % 4294967296 := by simp
     refine ⟨k + 1, l.set k ((x + 4294967296 * 0) / S % 4294967296), by omega, by go_num, by simpa using Hll.out, hblk.setI _ _ e1.symm, hdl.set (by omega) _, ?_, hx.setCell _ _ (Nat.le_refl _)⟩
     rw [nv_take_set (by have := Hll.out; omega), nv_take_dg, Hx.out, Hy.out, bp_succ]
     have h1 := Hv.out
     exact shr_step HS.out.2 hS0 x1 h1
    case measure => simp [intOf] <;> omega
  ·obtain rfl : k = ds.length := by omega
   go_wp2
   go_ret
   have hll := Hll.out
   have hv := Hv.out
   rw [List.take_of_length_le (by omega), List.take_of_length_le (Nat.le_refl _), dg_ge (Nat.le_refl _), Nat.zero_mod, Nat.zero_mul, Nat.add_zero] at hv
   refine Gives.mk ⟨l, ?_, ?_, hll⟩ hx
   ·have hq := hblk.digv hdl (c := ds.length) (by omega) (by omega)
    rw [hll] at hq
    exact hq
   ·rw [← hv, Nat.mul_comm, Nat.mul_add_div hS0, Nat.div_eq_of_lt (Nat.mod_lt _ hS0)]; rfl
end Go.Proofs.YtfacbpnegkjcgaaDoor
namespace Go.Proofs.YtfacbpnegkjcgaaDoor
open Go.RowKit Go.Hp
set_option maxHeartbeats 2000000 in
set_option maxRecDepth 100000 in
theorem digit_any (g j L cu cv : Nat) (U vs : List Nat) (av : Addr) (w : World) (hU : DBlk w g 57 U) (dU : Digs U) (hL : 2 ≤ L) (hLj : j + L + 1 ≤ U.length) (hUl : U.length ≤ 4398046511105)
  (hvl : vs.length = L) (dV : Digs vs) (hva : ∀ k, k < L → w.cell? (av.add k) = some (.int .u32 (dg vs k : Nat))) (hag : av.block ≠ g) (htop : 4294967296 ≤ 2 * dg vs (L - 1)) (hlt : nv (U.drop j) < 4294967296 * nv vs) (hcu : L + 1 ≤ cu) (hcv : L ≤ cv) :
  Calls Tryd.prog 80 #[.slice (some ⟨g, j, none⟩) (L + 1) cu, .slice (some av) L cv] w fun e w' => e = .returned (.int .u32 (nv (U.drop j) / nv vs : Nat)) ∧
   ∃ U', DBlk w' g 57 U' ∧ Digs U' ∧ U'.length = U.length ∧ U'.take j = U.take j ∧ nv (U'.drop j) = nv (U.drop j) % nv vs ∧ w.grownBy w' (some g) := by
 obtain ⟨P, Vl, Wl, K⟩ := knuth_win hL hLj dU dV hvl htop hlt
 have hQ := K.q_lt
 generalize hQe : nv (U.drop j) / nv vs = Q at *
 have HQ := Lib.hid hQe; clear hQe
 have hcn := hU.celld (i := j + L) (by omega)
 have hcn1 := hU.celld (i := j + (L - 1)) (by omega)
 have hcn2 := hU.celld (i := j + (L - 2)) (by omega)
 have hv1 := hva (L - 1) (by omega)
 have hv2 := hva (L - 2) (by omega)
 have bn := dg_bound dU (j + L)
 have bn1 := dg_bound dU (j + (L - 1))
 have bn2 := dg_bound dU (j + (L - 2))
 have bv1 := dg_bound dV (L - 1)
 have bv2 := dg_bound dV (L - 2)
 generalize hun : dg U (j + L) = un at *
 generalize hun1 : dg U (j + (L - 1)) = un1 at *
 generalize hun2 : dg U (j + (L - 2)) = un2 at *
 generalize hvv1 : dg vs (L - 1) = v1 at *
 generalize hvv2 : dg vs (L - 2) = v2 at *
 have ho := or_shift (un : Int) un1 (by omega) (by omega) (by omega) (by omega)
 have Hf := Lib.hid (And.intro hun (And.intro hun1 (And.intro hun2 (And.intro hvv1 hvv2))))
 clear hun hun1 hun2 hvv1 hvv2
 have Hva := Lib.hid hva; clear hva
 have Hlt := Lib.hid hlt; clear hlt
 have Hvl := Lib.hid hvl; clear hvl
 go_enter Tryd.func80, Tryd.ntmps80
 go_wp2
 refine wp_region_par (k := 12) (D := [19, 20, 21, 22, 23, 24, 25, 26, 27, 28, 29, 30]) (T := [[], [], [0, 1], [0, 1, 2], [0, 1, 2, 3], [0, 1, 2, 3, 4], [], [], [7], [6, 7, 8], [6, 7, 8, 9], [6, 7, 8, 9, 10], [0, 1, 2, 3, 4, 5, 6, 7, 8, 9, 10, 11], [0, 1, 2, 3, 4, 5, 6, 7, 8, 9, 10, 11, 12]]) (EK := [0, 5]) (EV := [?e1x0, ?e1x1]) (VL := [(kv ?v1x0), (kv ?v1x1), (kv ?v1x2), (kv ?v1x3), (kv ?v1x4), (kv ?v1x5), (kv ?v1x6), (kv ?v1x7), (kv ?v1x8), (kv ?v1x9), (kv ?v1x10), (kv ?v1x11)]) (FL := fun γ w' => [True, True, True, True, True, True, True, True, True, True, True, True]) ?hE1 (by kernel_rfl) (by kernel_rfl) (by rfl) (by kernel_rfl) ?hloc1 ?hmono1 ?hstep1 ?htail1
 case hE1 => refine ⟨?_, ?_, trivial⟩ <;> (simp only [List.getElem?_toArray, List.getElem?_cons_succ, List.getElem?_cons_zero]; rfl)
 case hstep1 =>
  refine ⟨⟨⟨⟨⟨⟨⟨⟨⟨⟨⟨⟨trivial, ?_⟩, ?_⟩, ?_⟩, ?_⟩, ?_⟩, ?_⟩, ?_⟩, ?_⟩, ?_⟩, ?_⟩, ?_⟩, ?_⟩
  iterate 12 focus
   intro γ w' he hf; clear hf; refine ⟨by trivial, ?_⟩; intro R hR; have hc := he.cells
   have cq0 := he.cell hcn
   have cq1 := he.cell hcn1
   go_simp; (try go_ints); (try (rw [if_neg (by omega)])); (try (rw [if_pos (by omega)])); (try go_simp); (try go_ints)
   refine hR _ _ (Ext.refl _) ?_ trivial; rfl
 case hloc1 =>
  exact ⟨⟨⟨⟨⟨⟨⟨⟨⟨⟨⟨⟨trivial, (fun γ γ' h => ⟨rfl, fun _ => rfl⟩)⟩, (fun γ γ' h => ⟨rfl, fun _ => rfl⟩)⟩, (fun γ γ' h => ⟨rfl, fun _ => rfl⟩)⟩, (fun γ γ' h => ⟨rfl, fun _ => rfl⟩)⟩, (fun γ γ' h => ⟨rfl, fun _ => rfl⟩)⟩, (fun γ γ' h => ⟨rfl, fun _ => rfl⟩)⟩, (fun γ γ' h => ⟨rfl, fun _ => rfl⟩)⟩, (fun γ γ' h => ⟨rfl, fun _ => rfl⟩)⟩, (fun γ γ' h => ⟨rfl, fun _ => rfl⟩)⟩, (fun γ γ' h => ⟨rfl, fun _ => rfl⟩)⟩, (fun γ γ' h => ⟨rfl, fun _ => rfl⟩)⟩, (fun γ γ' h => ⟨rfl, fun _ => rfl⟩)⟩
 case hmono1 =>
  exact ⟨⟨⟨⟨⟨⟨⟨⟨⟨⟨⟨⟨trivial, (fun γ wA w' e h => h)⟩, (fun γ wA w' e h => h)⟩, (fun γ wA w' e h => h)⟩, (fun γ wA w' e h => h)⟩, (fun γ wA w' e h => h)⟩, (fun γ wA w' e h => h)⟩, (fun γ wA w' e h => h)⟩, (fun γ wA w' e h => h)⟩, (fun γ wA w' e h => h)⟩, (fun γ wA w' e h => h)⟩, (fun γ wA w' e h => h)⟩, (fun γ wA w' e h => h)⟩
 intro γ w1 hx1 hF
 clear hF
 simp only [fillAll, gV, kv, List.getD_cons_zero, List.getD_cons_succ, Act.put, List.setIfInBounds_toArray, List.set_cons_zero, List.set_cons_succ, List.toList_toArray, List.drop_succ_cons, List.drop_zero, List.drop_nil, Nat.zero_add, Nat.reduceAdd]
 clear γ
 have v1p : (1 : Int) ≤ v1 := by omega
 replace hv1 := hx1.cell hv1
 replace hv2 := hx1.cell hv2
 replace hcn2 := hx1.cell hcn2
 clear hcn hcn1
 go_wp2
 refine wp_region_par (k := 17) (D := [32, 33, 34, 35, 36, 37, 38, 39, 40, 41, 42, 43, 44, 45, 46, 47, 7]) (T := [[], [], [], [2], [1, 2, 3], [1, 2, 3, 4], [1, 2, 3, 4, 5], [0, 1, 2, 3, 4, 5, 6], [], [], [], [10], [9, 10, 11], [9, 10, 11, 12], [9, 10, 11, 12, 13], [8, 9, 10, 11, 12, 13, 14], [0, 1, 2, 3, 4, 5, 6, 7], [0, 1, 2, 3, 4, 5, 6, 7, 8, 9, 10, 11, 12, 13, 14, 15, 16]]) (EK := [6, 1, 5]) (EV := [?e2x0, ?e2x1, ?e2x2]) (VL := [(kv ?v2x0), (kv ?v2x1), (kv ?v2x2), (kv ?v2x3), (kv ?v2x4), (kv ?v2x5), (kv ?v2x6), (kv ?v2x7), (kv ?v2x8), (kv ?v2x9), (kv ?v2x10), (kv ?v2x11), (kv ?v2x12), (kv ?v2x13), (kv ?v2x14), (kv ?v2x15), (kv ?v2x16)]) (FL := fun γ w' => [True, True, True, True, True, True, True, True, True, True, True, True, True, True, True, True, True]) ?hE2 (by kernel_rfl) (by kernel_rfl) (by rfl) (by kernel_rfl) ?hloc2 ?hmono2 ?hstep2 ?htail2
 case hE2 => refine ⟨?_, ?_, ?_, trivial⟩ <;> (simp only [List.getElem?_toArray, List.getElem?_cons_succ, List.getElem?_cons_zero]; rfl)
 case hstep2 =>
  refine ⟨⟨⟨⟨⟨⟨⟨⟨⟨⟨⟨⟨⟨⟨⟨⟨⟨trivial, ?_⟩, ?_⟩, ?_⟩, ?_⟩, ?_⟩, ?_⟩, ?_⟩, ?_⟩, ?_⟩, ?_⟩, ?_⟩, ?_⟩, ?_⟩, ?_⟩, ?_⟩, ?_⟩, ?_⟩
  iterate 17 focus
   intro γ w' he hf; clear hf; refine ⟨by trivial, ?_⟩; intro R hR; have hc := he.cells
   have cq0 := he.cell hv1
   go_simp; (try go_ints); (try (rw [if_neg (by omega)])); (try (rw [if_pos (by omega)])); (try go_simp); (try go_ints)
   refine hR _ _ (Ext.refl _) ?_ trivial; rfl
 case hloc2 =>
  exact ⟨⟨⟨⟨⟨⟨⟨⟨⟨⟨⟨⟨⟨⟨⟨⟨⟨trivial, (fun γ γ' h => ⟨rfl, fun _ => rfl⟩)⟩, (fun γ γ' h => ⟨rfl, fun _ => rfl⟩)⟩, (fun γ γ' h => ⟨rfl, fun _ => rfl⟩)⟩, (fun γ γ' h => ⟨rfl, fun _ => rfl⟩)⟩, (fun γ γ' h => ⟨rfl, fun _ => rfl⟩)⟩, (fun γ γ' h => ⟨rfl, fun _ => rfl⟩)⟩, (fun γ γ' h => ⟨rfl, fun _ => rfl⟩)⟩, (fun γ γ' h => ⟨rfl, fun _ => rfl⟩)⟩, (fun γ γ' h => ⟨rfl, fun _ => rfl⟩)⟩, (fun γ γ' h => ⟨rfl, fun _ => rfl⟩)⟩, (fun γ γ' h => ⟨rfl, fun _ => rfl⟩)⟩, (fun γ γ' h => ⟨rfl, fun _ => rfl⟩)⟩, (fun γ γ' h => ⟨rfl, fun _ => rfl⟩)⟩, (fun γ γ' h => ⟨rfl, fun _ => rfl⟩)⟩, (fun γ γ' h => ⟨rfl, fun _ => rfl⟩)⟩, (fun γ γ' h => ⟨rfl, fun _ => rfl⟩)⟩, (fun γ γ' h => ⟨rfl, fun _ => rfl⟩)⟩
 case hmono2 =>
  exact ⟨⟨⟨⟨⟨⟨⟨⟨⟨⟨⟨⟨⟨⟨⟨⟨⟨trivial, (fun γ wA w' e h => h)⟩, (fun γ wA w' e h => h)⟩, (fun γ wA w' e h => h)⟩, (fun γ wA w' e h => h)⟩, (fun γ wA w' e h => h)⟩, (fun γ wA w' e h => h)⟩, (fun γ wA w' e h => h)⟩, (fun γ wA w' e h => h)⟩, (fun γ wA w' e h => h)⟩, (fun γ wA w' e h => h)⟩, (fun γ wA w' e h => h)⟩, (fun γ wA w' e h => h)⟩, (fun γ wA w' e h => h)⟩, (fun γ wA w' e h => h)⟩, (fun γ wA w' e h => h)⟩, (fun γ wA w' e h => h)⟩, (fun γ wA w' e h => h)⟩
 intro γ w2 hx2 hF
 clear hF
 simp only [fillAll, gV, kv, List.getD_cons_zero, List.getD_cons_succ, Act.put, List.setIfInBounds_toArray, List.set_cons_zero, List.set_cons_succ, List.toList_toArray, List.drop_succ_cons, List.drop_zero, List.drop_nil, Nat.zero_add, Nat.reduceAdd]
 clear γ
 replace hx1 := hx1.trans hx2
 replace hv1 := hx2.cell hv1
 replace hv2 := hx2.cell hv2
 replace hcn2 := hx2.cell hcn2
 clear hx2 w1
 go_upto_block 0 with (fail)
 go_cut [7] (fun gv wx => ∃ G : Nat, gv = .int .u64 G ∧ Q ≤ G ∧ G ≤ Q + 1 ∧ Ext w wx)
 case first =>
  go_wp2
  go_loopw [7, 8] (fun gv rv wr => ∃ G R : Nat, gv = .int .u64 G ∧ rv = .int .u64 R ∧ R < 4294967296 ∧ G ≤ 4294967297 ∧ G * v1 + R = un * 4294967296 + un1 ∧ Q ≤ G ∧ Ext w wr) (fun gv _ _ => (intOf gv).toNat)
  case atStart =>
   refine ⟨(un * 4294967296 + un1) / v1, (un * 4294967296 + un1) % v1, by simp, by simp, ?_, K.guess_le, ?_, ?_, hx1⟩
   ·have := Nat.mod_lt (un * 4294967296 + un1) (show 0 < v1 by omega); omega
   ·rw [Nat.mul_comm]; exact Nat.div_add_mod _ _
   ·rw [← HQ.out]; exact K.guess_ge
  case round =>
   obtain ⟨G, R, rfl, rfl, hR, hG, hGR, hQG, hxr⟩ := hrel
   clear hx1 hv1 hv2 hcn2
   have HGR := Lib.hid hGR; clear hGR
   have hv1 := hxr.cell (Hva.out (L - 1) (by omega))
   have hv2 := hxr.cell (Hva.out (L - 2) (by omega))
   have hcn2 := hxr.cell (hU.celld (i := j + (L - 2)) (by omega))
   rw [Hf.out.2.2.2.1] at hv1
   rw [Hf.out.2.2.2.2] at hv2
   rw [Hf.out.2.2.1] at hcn2
   by_cases hGB : 4294967296 ≤ G
   ·have hb : decide ((4294967296 : Int) ≤ G) = true := by simp; omega
    have lw := K.lower (g := G) (r := R) HGR.out (by rw [HQ.out]; exact hQG) (.inl hGB)
    rw [HQ.out] at lw
    have hstep : (G - 1) * v1 + (R + v1) = un * 4294967296 + un1 := by
     obtain ⟨F, rfl⟩ : ∃ F, G = F + 1 := ⟨G - 1, by omega⟩
     rw [← HGR.out, Nat.add_sub_cancel, Nat.add_mul, Nat.one_mul]; omega
    have Hs := Lib.hid hstep; clear hstep
    by_cases hbr : 4294967296 ≤ R + v1
    ·have hb2 : decide ((4294967296 : Int) ≤ (R : Int) + v1) = true := by simp; omega
     have ex := K.exit2 (g := G - 1) (r := R + v1) Hs.out (by omega) hbr
     rw [HQ.out] at ex
     go_wp2
     go_quiet (fail)
     go_wp2
     go_meet
     case rel => exact ⟨G - 1, by go_num, lw.1, ex, hxr.drewN _⟩
    ·have hb2 : decide ((4294967296 : Int) ≤ (R : Int) + v1) = false := by simp; omega
     go_wp2
     go_quiet (fail)
     go_wp2
     go_roundw
     case rel => exact ⟨G - 1, R + v1, by go_num, by go_num, by omega, by omega, Hs.out, lw.1, hxr.drewN _⟩
     case measure => simp [intOf] <;> omega
   ·have hb : decide ((4294967296 : Int) ≤ G) = false := by simp; omega
    have hor := or_shift (R : Int) un2 (by omega) (by omega) (by omega) (by omega)
    have hp : G * v2 ≤ 4294967295 * 4294967295 := Nat.mul_le_mul (by omega) (by omega)
    have hp2 : G * v2 ≤ 18446744065119617025 := hp
    clear hp
    have k1 : (0 : Int) ≤ (G : Int) * v2 := by rw [← Int.natCast_mul]; omega
    have k2 : (G : Int) * v2 ≤ 18446744065119617025 := by rw [← Int.natCast_mul]; omega
    have Hp := Lib.hid hp2; clear hp2
    by_cases hc : R * 4294967296 + un2 < G * v2
    ·have hcb : decide ((R : Int) * 4294967296 + un2 < (G : Int) * v2) = true := by rw [← Int.natCast_mul]; simp only [decide_eq_true_eq]; omega
     have lw := K.lower (g := G) (r := R) HGR.out (by rw [HQ.out]; exact hQG) (.inr hc)
     rw [HQ.out] at lw
     have Hc := Lib.hid hc; clear hc
     go_wp2
     have hstep : (G - 1) * v1 + (R + v1) = un * 4294967296 + un1 := by
      obtain ⟨F, rfl⟩ : ∃ F, G = F + 1 := ⟨G - 1, by omega⟩
      rw [← HGR.out, Nat.add_sub_cancel, Nat.add_mul, Nat.one_mul]; omega
     have Hs := Lib.hid hstep; clear hstep
     by_cases hbr : 4294967296 ≤ R + v1
     ·have hb2 : decide ((4294967296 : Int) ≤ (R : Int) + v1) = true := by simp; omega
      have ex := K.exit2 (g := G - 1) (r := R + v1) Hs.out (by omega) hbr
      rw [HQ.out] at ex
      refine wp_region_par (k := 20) (D := [48, 49, 50, 51, 52, 53, 54, 55, 56, 57, 58, 59, 60, 61, 62, 63, 64, 65, 66, 67]) (T := [[], [0], [0, 1], [0, 1, 2], [0, 1, 2], [0, 1, 2], [0, 1, 2, 5], [0, 1, 2, 4, 5, 6], [0, 1, 2, 4, 5, 6, 7], [0, 1, 2, 4, 5, 6, 7, 8], [0, 1, 2, 3, 4, 5, 6, 7, 8, 9], [0, 1, 2], [0, 1, 2, 11], [0, 1, 2], [0, 1, 2], [0, 1, 2, 14], [0, 1, 2, 13, 14, 15], [0, 1, 2, 13, 14, 15, 16], [0, 1, 2, 13, 14, 15, 16, 17], [0, 1, 2, 11, 12, 13, 14, 15, 16, 17, 18], [0, 1, 2, 3, 4, 5, 6, 7, 8, 9, 10, 11, 12, 13, 14, 15, 16, 17, 18, 19], [0, 1, 2, 3, 4, 5, 6, 7, 8, 9, 10, 11, 12, 13, 14, 15, 16, 17, 18, 19, 20]]) (EK := [7, 1, 5, 8, 0]) (EV := [?e3x0, ?e3x1, ?e3x2, ?e3x3, ?e3x4]) (VL := [(kv ?v3x0), (kv ?v3x1), (kv ?v3x2), (kv ?v3x3), (kv ?v3x4), (kv ?v3x5), (kv ?v3x6), (kv ?v3x7), (kv ?v3x8), (kv ?v3x9), (kv ?v3x10), (kv ?v3x11), (kv ?v3x12), (kv ?v3x13), (kv ?v3x14), (kv ?v3x15), (kv ?v3x16), (kv ?v3x17), (kv ?v3x18), (kv ?v3x19)]) (FL := fun γ w' => [True, True, True, True, True, True, True, True, True, True, True, True, True, True, True, True, True, True, True, True]) ?hE3 (by kernel_rfl) (by kernel_rfl) (by rfl) (by kernel_rfl) ?hloc3 ?hmono3 ?hstep3 ?htail3
      case hE3 => refine ⟨?_, ?_, ?_, ?_, ?_, trivial⟩ <;> (simp only [List.getElem?_toArray, List.getElem?_cons_succ, List.getElem?_cons_zero]; rfl)
      case hstep3 =>
       refine ⟨⟨⟨⟨⟨⟨⟨⟨⟨⟨⟨⟨⟨⟨⟨⟨⟨⟨⟨⟨trivial, ?_⟩, ?_⟩, ?_⟩, ?_⟩, ?_⟩, ?_⟩, ?_⟩, ?_⟩, ?_⟩, ?_⟩, ?_⟩, ?_⟩, ?_⟩, ?_⟩, ?_⟩, ?_⟩, ?_⟩, ?_⟩, ?_⟩, ?_⟩
       iterate 20 focus
        intro γ w' he hf; clear hf; refine ⟨by trivial, ?_⟩; intro R hR; have hc := he.cells
        have cq0 := he.cell hv2
        have cq1 := he.cell hcn2
        go_simp; (try go_ints); (try (rw [if_neg (by omega)])); (try (rw [if_pos (by omega)])); (try go_simp); (try go_ints)
        refine hR _ _ (Ext.refl _) ?_ trivial; rfl
      case hloc3 =>
       exact ⟨⟨⟨⟨⟨⟨⟨⟨⟨⟨⟨⟨⟨⟨⟨⟨⟨⟨⟨⟨trivial, (fun γ γ' h => ⟨rfl, fun _ => rfl⟩)⟩, (fun γ γ' h => ⟨rfl, fun _ => rfl⟩)⟩, (fun γ γ' h => ⟨rfl, fun _ => rfl⟩)⟩, (fun γ γ' h => ⟨rfl, fun _ => rfl⟩)⟩, (fun γ γ' h => ⟨rfl, fun _ => rfl⟩)⟩, (fun γ γ' h => ⟨rfl, fun _ => rfl⟩)⟩, (fun γ γ' h => ⟨rfl, fun _ => rfl⟩)⟩, (fun γ γ' h => ⟨rfl, fun _ => rfl⟩)⟩, (fun γ γ' h => ⟨rfl, fun _ => rfl⟩)⟩, (fun γ γ' h => ⟨rfl, fun _ => rfl⟩)⟩, (fun γ γ' h => ⟨rfl, fun _ => rfl⟩)⟩, (fun γ γ' h => ⟨rfl, fun _ => rfl⟩)⟩, (fun γ γ' h => ⟨rfl, fun _ => rfl⟩)⟩, (fun γ γ' h => ⟨rfl, fun _ => rfl⟩)⟩, (fun γ γ' h => ⟨rfl, fun _ => rfl⟩)⟩, (fun γ γ' h => ⟨rfl, fun _ => rfl⟩)⟩, (fun γ γ' h => ⟨rfl, fun _ => rfl⟩)⟩, (fun γ γ' h => ⟨rfl, fun _ => rfl⟩)⟩, (fun γ γ' h => ⟨rfl, fun _ => rfl⟩)⟩, (fun γ γ' h => ⟨rfl, fun _ => rfl⟩)⟩
      case hmono3 =>
       exact ⟨⟨⟨⟨⟨⟨⟨⟨⟨⟨⟨⟨⟨⟨⟨⟨⟨⟨⟨⟨trivial, (fun γ wA w' e h => h)⟩, (fun γ wA w' e h => h)⟩, (fun γ wA w' e h => h)⟩, (fun γ wA w' e h => h)⟩, (fun γ wA w' e h => h)⟩, (fun γ wA w' e h => h)⟩, (fun γ wA w' e h => h)⟩, (fun γ wA w' e h => h)⟩, (fun γ wA w' e h => h)⟩, (fun γ wA w' e h => h)⟩, (fun γ wA w' e h => h)⟩, (fun γ wA w' e h => h)⟩, (fun γ wA w' e h => h)⟩, (fun γ wA w' e h => h)⟩, (fun γ wA w' e h => h)⟩, (fun γ wA w' e h => h)⟩, (fun γ wA w' e h => h)⟩, (fun γ wA w' e h => h)⟩, (fun γ wA w' e h => h)⟩, (fun γ wA w' e h => h)⟩
      intro γ w3 hx3 hF
      clear hF
      simp only [fillAll, gV, kv, List.getD_cons_zero, List.getD_cons_succ, Act.put, List.setIfInBounds_toArray, List.set_cons_zero, List.set_cons_succ, List.toList_toArray, List.drop_succ_cons, List.drop_zero, List.drop_nil, Nat.zero_add, Nat.reduceAdd]
      clear γ
      replace hv1 := hx3.cell hv1
      go_wp2
      go_meet
      case rel => exact ⟨G - 1, by go_num, lw.1, ex, hxr.trans hx3⟩
     ·have hb2 : decide ((4294967296 : Int) ≤ (R : Int) + v1) = false := by simp; omega
      refine wp_region_par (k := 20) (D := [48, 49, 50, 51, 52, 53, 54, 55, 56, 57, 58, 59, 60, 61, 62, 63, 64, 65, 66, 67]) (T := [[], [0], [0, 1], [0, 1, 2], [0, 1, 2], [0, 1, 2], [0, 1, 2, 5], [0, 1, 2, 4, 5, 6], [0, 1, 2, 4, 5, 6, 7], [0, 1, 2, 4, 5, 6, 7, 8], [0, 1, 2, 3, 4, 5, 6, 7, 8, 9], [0, 1, 2], [0, 1, 2, 11], [0, 1, 2], [0, 1, 2], [0, 1, 2, 14], [0, 1, 2, 13, 14, 15], [0, 1, 2, 13, 14, 15, 16], [0, 1, 2, 13, 14, 15, 16, 17], [0, 1, 2, 11, 12, 13, 14, 15, 16, 17, 18], [0, 1, 2, 3, 4, 5, 6, 7, 8, 9, 10, 11, 12, 13, 14, 15, 16, 17, 18, 19], [0, 1, 2, 3, 4, 5, 6, 7, 8, 9, 10, 11, 12, 13, 14, 15, 16, 17, 18, 19, 20]]) (EK := [7, 1, 5, 8, 0]) (EV := [?e4x0, ?e4x1, ?e4x2, ?e4x3, ?e4x4]) (VL := [(kv ?v4x0), (kv ?v4x1), (kv ?v4x2), (kv ?v4x3), (kv ?v4x4), (kv ?v4x5), (kv ?v4x6), (kv ?v4x7), (kv ?v4x8), (kv ?v4x9), (kv ?v4x10), (kv ?v4x11), (kv ?v4x12), (kv ?v4x13), (kv ?v4x14), (kv ?v4x15), (kv ?v4x16), (kv ?v4x17), (kv ?v4x18), (kv ?v4x19)]) (FL := fun γ w' => [True, True, True, True, True, True, True, True, True, True, True, True, True, True, True, True, True, True, True, True]) ?hE4 (by kernel_rfl) (by kernel_rfl) (by rfl) (by kernel_rfl) ?hloc4 ?hmono4 ?hstep4 ?htail4
      case hE4 => refine ⟨?_, ?_, ?_, ?_, ?_, trivial⟩ <;> (simp only [List.getElem?_toArray, List.getElem?_cons_succ, List.getElem?_cons_zero]; rfl)
      case hstep4 =>
       refine ⟨⟨⟨⟨⟨⟨⟨⟨⟨⟨⟨⟨⟨⟨⟨⟨⟨⟨⟨⟨trivial, ?_⟩, ?_⟩, ?_⟩, ?_⟩, ?_⟩, ?_⟩, ?_⟩, ?_⟩, ?_⟩, ?_⟩, ?_⟩, ?_⟩, ?_⟩, ?_⟩, ?_⟩, ?_⟩, ?_⟩, ?_⟩, ?_⟩, ?_⟩
       iterate 20 focus
        intro γ w' he hf; clear hf; refine ⟨by trivial, ?_⟩; intro R hR; have hc := he.cells
        have cq0 := he.cell hv2
        have cq1 := he.cell hcn2
        go_simp; (try go_ints); (try (rw [if_neg (by omega)])); (try (rw [if_pos (by omega)])); (try go_simp); (try go_ints)
        refine hR _ _ (Ext.refl _) ?_ trivial; rfl
      case hloc4 =>
       exact ⟨⟨⟨⟨⟨⟨⟨⟨⟨⟨⟨⟨⟨⟨⟨⟨⟨⟨⟨⟨trivial, (fun γ γ' h => ⟨rfl, fun _ => rfl⟩)⟩, (fun γ γ' h => ⟨rfl, fun _ => rfl⟩)⟩, (fun γ γ' h => ⟨rfl, fun _ => rfl⟩)⟩, (fun γ γ' h => ⟨rfl, fun _ => rfl⟩)⟩, (fun γ γ' h => ⟨rfl, fun _ => rfl⟩)⟩, (fun γ γ' h => ⟨rfl, fun _ => rfl⟩)⟩, (fun γ γ' h => ⟨rfl, fun _ => rfl⟩)⟩, (fun γ γ' h => ⟨rfl, fun _ => rfl⟩)⟩, (fun γ γ' h => ⟨rfl, fun _ => rfl⟩)⟩, (fun γ γ' h => ⟨rfl, fun _ => rfl⟩)⟩, (fun γ γ' h => ⟨rfl, fun _ => rfl⟩)⟩, (fun γ γ' h => ⟨rfl, fun _ => rfl⟩)⟩, (fun γ γ' h => ⟨rfl, fun _ => rfl⟩)⟩, (fun γ γ' h => ⟨rfl, fun _ => rfl⟩)⟩, (fun γ γ' h => ⟨rfl, fun _ => rfl⟩)⟩, (fun γ γ' h => ⟨rfl, fun _ => rfl⟩)⟩, (fun γ γ' h => ⟨rfl, fun _ => rfl⟩)⟩, (fun γ γ' h => ⟨rfl, fun _ => rfl⟩)⟩, (fun γ γ' h => ⟨rfl, fun _ => rfl⟩)⟩, (fun γ γ' h => ⟨rfl, fun _ => rfl⟩)⟩
      case hmono4 =>
       exact ⟨⟨⟨⟨⟨⟨⟨⟨⟨⟨⟨⟨⟨⟨⟨⟨⟨⟨⟨⟨trivial, (fun γ wA w' e h => h)⟩, (fun γ wA w' e h => h)⟩, (fun γ wA w' e h => h)⟩, (fun γ wA w' e h => h)⟩, (fun γ wA w' e h => h)⟩, (fun γ wA w' e h => h)⟩, (fun γ wA w' e h => h)⟩, (fun γ wA w' e h => h)⟩, (fun γ wA w' e h => h)⟩, (fun γ wA w' e h => h)⟩, (fun γ wA w' e h => h)⟩, (fun γ wA w' e h => h)⟩, (fun γ wA w' e h => h)⟩, (fun γ wA w' e h => h)⟩, (fun γ wA w' e h => h)⟩, (fun γ wA w' e h => h)⟩, (fun γ wA w' e h => h)⟩, (fun γ wA w' e h => h)⟩, (fun γ wA w' e h => h)⟩, (fun γ wA w' e h => h)⟩
      intro γ w3 hx3 hF
      clear hF
      simp only [fillAll, gV, kv, List.getD_cons_zero, List.getD_cons_succ, Act.put, List.setIfInBounds_toArray, List.set_cons_zero, List.set_cons_succ, List.toList_toArray, List.drop_succ_cons, List.drop_zero, List.drop_nil, Nat.zero_add, Nat.reduceAdd]
      clear γ
      replace hv1 := hx3.cell hv1
      go_wp2
      go_roundw
      case rel => exact ⟨G - 1, R + v1, by go_num, by go_num, by omega, by omega, Hs.out, lw.1, hxr.trans hx3⟩
      case measure => simp [intOf] <;> omega
    ·have hcb : decide ((R : Int) * 4294967296 + un2 < (G : Int) * v2) = false := by rw [← Int.natCast_mul]; simp only [decide_eq_false_iff_not]; omega
     have ex := K.exit1 (g := G) (r := R) HGR.out (by omega) (by omega)
     rw [HQ.out] at ex
     have Hc := Lib.hid hc; clear hc
     go_wp2
     refine wp_region_par (k := 20) (D := [48, 49, 50, 51, 52, 53, 54, 55, 56, 57, 58, 59, 60, 61, 62, 63, 64, 65, 66, 67]) (T := [[], [0], [0, 1], [0, 1, 2], [0, 1, 2], [0, 1, 2], [0, 1, 2, 5], [0, 1, 2, 4, 5, 6], [0, 1, 2, 4, 5, 6, 7], [0, 1, 2, 4, 5, 6, 7, 8], [0, 1, 2, 3, 4, 5, 6, 7, 8, 9], [0, 1, 2], [0, 1, 2, 11], [0, 1, 2], [0, 1, 2], [0, 1, 2, 14], [0, 1, 2, 13, 14, 15], [0, 1, 2, 13, 14, 15, 16], [0, 1, 2, 13, 14, 15, 16, 17], [0, 1, 2, 11, 12, 13, 14, 15, 16, 17, 18], [0, 1, 2, 3, 4, 5, 6, 7, 8, 9, 10, 11, 12, 13, 14, 15, 16, 17, 18, 19], [0, 1, 2, 3, 4, 5, 6, 7, 8, 9, 10, 11, 12, 13, 14, 15, 16, 17, 18, 19, 20]]) (EK := [7, 1, 5, 8, 0]) (EV := [?e5x0, ?e5x1, ?e5x2, ?e5x3, ?e5x4]) (VL := [(kv ?v5x0), (kv ?v5x1), (kv ?v5x2), (kv ?v5x3), (kv ?v5x4), (kv ?v5x5), (kv ?v5x6), (kv ?v5x7), (kv ?v5x8), (kv ?v5x9), (kv ?v5x10), (kv ?v5x11), (kv ?v5x12), (kv ?v5x13), (kv ?v5x14), (kv ?v5x15), (kv ?v5x16), (kv ?v5x17), (kv ?v5x18), (kv ?v5x19)]) (FL := fun γ w' => [True, True, True, True, True, True, True, True, True, True, True, True, True, True, True, True, True, True, True, True]) ?hE5 (by kernel_rfl) (by kernel_rfl) (by rfl) (by kernel_rfl) ?hloc5 ?hmono5 ?hstep5 ?htail5
     case hE5 => refine ⟨?_, ?_, ?_, ?_, ?_, trivial⟩ <;> (simp only [List.getElem?_toArray, List.getElem?_cons_succ, List.getElem?_cons_zero]; rfl)
     case hstep5 =>
      refine ⟨⟨⟨⟨⟨⟨⟨⟨⟨⟨⟨⟨⟨⟨⟨⟨⟨⟨⟨⟨trivial, ?_⟩, ?_⟩, ?_⟩, ?_⟩, ?_⟩, ?_⟩, ?_⟩, ?_⟩, ?_⟩, ?_⟩, ?_⟩, ?_⟩, ?_⟩, ?_⟩, ?_⟩, ?_⟩, ?_⟩, ?_⟩, ?_⟩, ?_⟩
      iterate 20 focus
       intro γ w' he hf; clear hf; refine ⟨by trivial, ?_⟩; intro R hR; have hc := he.cells
       have cq0 := he.cell hv2
       have cq1 := he.cell hcn2
       go_simp; (try go_ints); (try (rw [if_neg (by omega)])); (try (rw [if_pos (by omega)])); (try go_simp); (try go_ints)
       refine hR _ _ (Ext.refl _) ?_ trivial; rfl
     case hloc5 =>
      exact ⟨⟨⟨⟨⟨⟨⟨⟨⟨⟨⟨⟨⟨⟨⟨⟨⟨⟨⟨⟨trivial, (fun γ γ' h => ⟨rfl, fun _ => rfl⟩)⟩, (fun γ γ' h => ⟨rfl, fun _ => rfl⟩)⟩, (fun γ γ' h => ⟨rfl, fun _ => rfl⟩)⟩, (fun γ γ' h => ⟨rfl, fun _ => rfl⟩)⟩, (fun γ γ' h => ⟨rfl, fun _ => rfl⟩)⟩, (fun γ γ' h => ⟨rfl, fun _ => rfl⟩)⟩, (fun γ γ' h => ⟨rfl, fun _ => rfl⟩)⟩, (fun γ γ' h => ⟨rfl, fun _ => rfl⟩)⟩, (fun γ γ' h => ⟨rfl, fun _ => rfl⟩)⟩, (fun γ γ' h => ⟨rfl, fun _ => rfl⟩)⟩, (fun γ γ' h => ⟨rfl, fun _ => rfl⟩)⟩, (fun γ γ' h => ⟨rfl, fun _ => rfl⟩)⟩, (fun γ γ' h => ⟨rfl, fun _ => rfl⟩)⟩, (fun γ γ' h => ⟨rfl, fun _ => rfl⟩)⟩, (fun γ γ' h => ⟨rfl, fun _ => rfl⟩)⟩, (fun γ γ' h => ⟨rfl, fun _ => rfl⟩)⟩, (fun γ γ' h => ⟨rfl, fun _ => rfl⟩)⟩, (fun γ γ' h => ⟨rfl, fun _ => rfl⟩)⟩, (fun γ γ' h => ⟨rfl, fun _ => rfl⟩)⟩, (fun γ γ' h => ⟨rfl, fun _ => rfl⟩)⟩
     case hmono5 =>
      exact ⟨⟨⟨⟨⟨⟨⟨⟨⟨⟨⟨⟨⟨⟨⟨⟨⟨⟨⟨⟨trivial, (fun γ wA w' e h => h)⟩, (fun γ wA w' e h => h)⟩, (fun γ wA w' e h => h)⟩, (fun γ wA w' e h => h)⟩, (fun γ wA w' e h => h)⟩, (fun γ wA w' e h => h)⟩, (fun γ wA w' e h => h)⟩, (fun γ wA w' e h => h)⟩, (fun γ wA w' e h => h)⟩, (fun γ wA w' e h => h)⟩, (fun γ wA w' e h => h)⟩, (fun γ wA w' e h => h)⟩, (fun γ wA w' e h => h)⟩, (fun γ wA w' e h => h)⟩, (fun γ wA w' e h => h)⟩, (fun γ wA w' e h => h)⟩, (fun γ wA w' e h => h)⟩, (fun γ wA w' e h => h)⟩, (fun γ wA w' e h => h)⟩, (fun γ wA w' e h => h)⟩
     intro γ w3 hx3 hF
     clear hF
     simp only [fillAll, gV, kv, List.getD_cons_zero, List.getD_cons_succ, Act.put, List.setIfInBounds_toArray, List.set_cons_zero, List.set_cons_succ, List.toList_toArray, List.drop_succ_cons, List.drop_zero, List.drop_nil, Nat.zero_add, Nat.reduceAdd]
     clear γ
     go_wp2
     go_meet
     case rel => exact ⟨G, rfl, hQG, ex, hxr.trans hx3⟩
 case rest =>
  obtain ⟨G, rfl, hQG, hGQ, hxc⟩ := hcut
  obtain ⟨pre, X, hpre, hUX, hXd⟩ : ∃ pre X : List Nat, pre.length = j ∧ U = pre ++ X ∧ X = U.drop j := ⟨U.take j, U.drop j, by simp; omega, (List.take_append_drop j U).symm, rfl⟩
  have hXl : L + 1 ≤ X.length := by rw [hXd]; simp; omega
  have hXlen : X.length + j = U.length := by rw [hXd]; simp; omega
  have dX : Digs X := by rw [hXd]; exact dU.drop j
  have hG4 : G ≤ 4294967296 := by omega
  have hU0 : DBlk wc g 57 (pre ++ X) := by rw [← hUX]; exact hU.ext hxc
  have hg0 : w.grownBy wc (some g) := ext_grown g hxc
  have HX := Lib.hid (And.intro hUX hXd); clear hUX hXd
  have HXlen := Lib.hid hXlen; clear hXlen
  have Hpre := Lib.hid hpre; clear hpre
  clear hxc hx1 hv1 hv2 hcn2 ho
  go_wp2
  go_loopw [9, 10, 84] (fun cv bv iv wr => ∃ (k c0 b0 : Nat) (X1 : List Nat), k ≤ L ∧ iv = .int .i64 k ∧ cv = .int .u64 c0 ∧ c0 < 4294967296 ∧ bv = .int .u32 b0 ∧ b0 ≤ 1 ∧ DBlk wr g 57 (pre ++ X1) ∧ Digs X1 ∧ X1.length = X.length ∧ (∀ q, k ≤ q → dg X1 q = dg X q) ∧ nv (X1.take k) + G * nv (vs.take k) = nv (X.take k) + (c0 + b0) * bp k ∧ w.grownBy wr (some g)) (fun _ _ iv _ => L - (intOf iv).toNat)
  case atStart => exact ⟨0, 0, 0, X, Nat.zero_le _, rfl, rfl, by omega, rfl, by omega, hU0, dX, rfl, fun _ _ => rfl, by simp [nv_nil], hg0⟩
  case round =>
   obtain ⟨k, c0, b0, X1, hk, rfl, rfl, hc0, rfl, hb0, hb1, dX1, hl1, hs1, hn1, hg1⟩ := hrel
   have Hl1 := Lib.hid hl1; clear hl1
   have Hs1 := Lib.hid hs1; clear hs1
   have Hn1 := Lib.hid hn1; clear hn1
   clear hU0 hg0
   by_cases hkL : k < L
   ·have hca := World.grownBy.cell hg1 (Hva.out k hkL) (by rw [add_block]; intro e; exact hag (by injection e))
    have hcb := hb1.cellR Hpre.out (k := k) (by rw [Hl1.out]; omega)
    have hfz := hb1.frozen (j + k)
    rw [Hs1.out k (Nat.le_refl _)] at hcb
    have x1 := dg_bound dX k
    have y1 := dg_bound dV k
    generalize hxx : dg X k = x at *
    generalize hyy : dg vs k = y at *
    have Hxy := Lib.hid (And.intro hxx hyy); clear hxx hyy
    have hp : G * y ≤ 4294967296 * 4294967295 := Nat.mul_le_mul hG4 (by omega)
    have hp2 : G * y ≤ 18446744069414584320 := hp
    clear hp
    have k1 : (0 : Int) ≤ (G : Int) * y := by rw [← Int.natCast_mul]; omega
    have k2 : (G : Int) * y ≤ 18446744069414584320 := by rw [← Int.natCast_mul]; omega
    have k3 : (0 : Int) ≤ ((G : Int) * y + c0) % 4294967296 := by omega
    have k4 : ((G : Int) * y + c0) % 4294967296 < 4294967296 := by omega
    have hbm := bor_mem x (((G : Int) * y + c0) % 4294967296) b0
    have e1 : (((G * y + c0) % 4294967296 : Nat) : Int) = ((G : Int) * y + c0) % 4294967296 := by rw [← Int.natCast_mul]; omega
    have e2 : (((G * y + c0) / 4294967296 : Nat) : Int) = ((G : Int) * y + c0) / 4294967296 := by rw [← Int.natCast_mul]; omega
    have hlo : (G * y + c0) % 4294967296 < 4294967296 := Nat.mod_lt _ (by decide)
    have He := Lib.hid (And.intro e1 (And.intro e2 (And.intro hlo hp2)))
    clear e1 e2 hlo hp2
    go_wp2_with (go_at_call 83; refine (sub32_any _ _ _ _ (by omega) (by omega) (by omega) (by omega) (by omega) (by omega)).mono ?_; rintro e w' ⟨rfl, rfl⟩)
    go_roundw
    case rel =>
     obtain ⟨e1, e2, hlo, hp2⟩ := He.out
     refine ⟨k + 1, (G * y + c0) / 4294967296, if x < (G * y + c0) % 4294967296 + b0 then 1 else 0, X1.set k ((x + 4294967296 - (G * y + c0) % 4294967296 - b0) % 4294967296), by omega, by go_num, by rw [e2], by omega, ?_, by split <;> omega, hb1.setR Hpre.out k _ ?_, dX1.set (Nat.mod_lt _ (by decide)) _, by rw [List.length_set]; exact Hl1.out, fun q hq => by rw [dg_set_ne (by omega)]; exact Hs1.out q (by omega), ?_, grown_set hg1 _ _⟩
     ·rw [← e1]; unfold bor; split <;> split <;> first | rfl | omega
     ·rw [← e1]; omega
     ·rw [nv_take_set (by rw [Hl1.out]; omega), nv_take_dg, nv_take_dg, Hxy.out.1, Hxy.out.2, bp_succ]
      exact mulsub_step x1 hb0 Hn1.out
    case measure => simp [intOf] <;> omega
   ·obtain rfl : k = L := by omega
    have hcb := hb1.cellR Hpre.out (k := k) (by rw [Hl1.out]; omega)
    have hfz := hb1.frozen (j + k)
    rw [Hs1.out k (Nat.le_refl _)] at hcb
    have x1 := dg_bound dX k
    have hW : nv X < bp (k + 1) := by
     have h1 := Hlt.out
     rw [← HX.out.2] at h1
     have h2 := nv_lt dV
     rw [Hvl.out] at h2
     rw [bp_succ]; omega
    have hn2 := Hn1.out
    rw [List.take_of_length_le (l := vs) (by rw [Hvl.out]; exact Nat.le_refl _)] at hn2
    have hlast := digit_last hXl Hl1.out Hs1.out hn2 hc0 hb0 x1 hW
    have dX2 : Digs (X1.set k ((dg X k + 4294967296 - c0 - b0) % 4294967296)) := dX1.set (Nat.mod_lt _ (by decide)) _
    have hl2 : (X1.set k ((dg X k + 4294967296 - c0 - b0) % 4294967296)).length = X.length := by rw [List.length_set]; exact Hl1.out
    have hs2 : ∀ q, k + 1 ≤ q → dg (X1.set k ((dg X k + 4294967296 - c0 - b0) % 4294967296)) q = dg X q := fun q hq => by rw [dg_set_ne (by omega)]; exact Hs1.out q (by omega)
    have hx2 : dg (X1.set k ((dg X k + 4294967296 - c0 - b0) % 4294967296)) k = (dg X k + 4294967296 - c0 - b0) % 4294967296 := by rw [dg_lt (by rw [hl2]; omega), List.getElem_set_self]
    have hz : (((dg X k + 4294967296 - c0 - b0) % 4294967296 : Nat) : Int) = ((dg X k : Nat) - (c0 : Int) - b0) % 4294967296 := by omega
    have hb2 := hb1.setR Hpre.out k ((dg X k + 4294967296 - c0 - b0) % 4294967296) hz.symm
    have hg2 := grown_set hg1 (j + k) (.int .u32 (((dg X k : Nat) - (c0 : Int) - b0) % 4294967296))
    have HQ2 : nv X / nv vs = Q := by rw [HX.out.2]; exact HQ.out
    have hX2lt : nv (X1.set k ((dg X k + 4294967296 - c0 - b0) % 4294967296)) < bp (k + 1) := by
     have h2 := digit_last hXl Hl1.out Hs1.out hn2 hc0 hb0 x1 hW
     have ⟨z1, z2⟩ := nv_high hXl hW
     rw [nv_set_at Hl1.out (by rw [Hl1.out]; exact hXl) Hs1.out z1]
     have h3 := nv_lt (dX1.take k)
     rw [List.length_take, Nat.min_eq_left (by rw [Hl1.out]; omega)] at h3
     have h4 : (dg X k + 4294967296 - c0 - b0) % 4294967296 + 1 ≤ 4294967296 := Nat.mod_lt _ (by decide)
     have h5 := Nat.mul_le_mul_left (bp k) h4
     rw [Nat.mul_add, Nat.mul_one] at h5
     rw [bp_succ]
     omega
    generalize X1.set k ((dg X k + 4294967296 - c0 - b0) % 4294967296) = X2 at *
    have Hlast := Lib.hid hlast; clear hlast
    have Hl2 := Lib.hid hl2; clear hl2
    have Hs2 := Lib.hid hs2; clear hs2
    have Hx2 := Lib.hid hx2; clear hx2
    clear hz hn2
    have HX2lt := Lib.hid hX2lt; clear hX2lt
    have HQ3 := Lib.hid HQ2; clear HQ2
    generalize hxx : dg X k = x at *
    have Hxx := Lib.hid hxx; clear hxx
    by_cases hbor : x < c0 + b0
    ·have hbq : bor (x : Int) c0 b0 = 1 := bor_pos (by omega)
     have hl := Hlast.out
     rw [if_pos hbor, Nat.one_mul] at hl
     obtain ⟨e1, e2⟩ := digit_end1 (W := nv X) (V := nv vs) (G := G) (A := nv X2) (p := bp (k + 1)) K.vpos (by rw [HQ3.out]; exact hGQ) HX2lt.out hl
     rw [HQ3.out] at e1
     have hG1 : 1 ≤ G := by omega
     clear hl
     have He := Lib.hid (And.intro e1 e2); clear e1 e2
     go_upto_block 4 with (go_at_call 83; refine (sub32_any _ _ _ _ (by omega) (by omega) (by omega) (by omega) (by omega) (by omega)).mono ?_; rintro e w' ⟨rfl, rfl⟩)
     go_wp2
     clear Hlast hb1 hcb hfz
     go_loopw [14, 132] (fun cv iv wr => ∃ (i c1 : Nat) (X3 : List Nat), i ≤ k ∧ iv = .int .i64 i ∧ cv = .int .u32 c1 ∧ c1 ≤ 1 ∧ DBlk wr g 57 (pre ++ X3) ∧ Digs X3 ∧ X3.length = X.length ∧ (∀ q, i ≤ q → dg X3 q = dg X2 q) ∧ nv (X3.take i) + c1 * bp i = nv (X2.take i) + nv (vs.take i) ∧ w.grownBy wr (some g)) (fun _ iv _ => k - (intOf iv).toNat)
     case atStart => exact ⟨0, 0, X2, Nat.zero_le _, rfl, rfl, by omega, hb2, dX2, Hl2.out, fun _ _ => rfl, by simp [nv_nil], hg2⟩
     case round =>
      obtain ⟨i, c1, X3, hi, rfl, rfl, hc1, hb3, dX3, hl3, hs3, hn3, hg3⟩ := hrel
      have Hl3 := Lib.hid hl3; clear hl3
      have Hs3 := Lib.hid hs3; clear hs3
      have Hn3 := Lib.hid hn3; clear hn3
      clear hb2 hg2
      by_cases hik : i < k
      ·have hca := World.grownBy.cell hg3 (Hva.out i hik) (by rw [add_block]; intro e; exact hag (by injection e))
       have hcb := hb3.cellR Hpre.out (k := i) (by rw [Hl3.out]; omega)
       have hfz := hb3.frozen (j + i)
       rw [Hs3.out i (Nat.le_refl _)] at hcb
       have x2b := dg_bound dX2 i
       have y1 := dg_bound dV i
       generalize hxx : dg X2 i = x2 at *
       generalize hyy : dg vs i = y at *
       have Hxy := Lib.hid (And.intro hxx hyy); clear hxx hyy
       go_wp2_with (go_at_call 82; refine (add32_any _ _ _ _ (by omega) (by omega) (by omega) (by omega) (by omega) (by omega)).mono ?_; rintro e w' ⟨rfl, rfl⟩)
       go_roundw
       case rel =>
        refine ⟨i + 1, (x2 + y + c1) / 4294967296, X3.set i ((x2 + y + c1) % 4294967296), by omega, by go_num, by go_num, by omega, hb3.setR Hpre.out i _ (by omega), dX3.set (Nat.mod_lt _ (by decide)) _, by rw [List.length_set]; exact Hl3.out, fun q hq => by rw [dg_set_ne (by omega)]; exact Hs3.out q (by omega), ?_, grown_set hg3 _ _⟩
        rw [nv_take_set (by rw [Hl3.out]; omega), nv_take_dg, nv_take_dg, Hxy.out.1, Hxy.out.2, bp_succ]
        exact add_step Hn3.out
       case measure => simp [intOf] <;> omega
      ·obtain rfl : i = k := by omega
       have hcb := hb3.cellR Hpre.out (k := i) (by rw [Hl3.out]; omega)
       have hfz := hb3.frozen (j + i)
       rw [Hs3.out i (Nat.le_refl _)] at hcb
       have hn3 := Hn3.out
       rw [List.take_of_length_le (l := vs) (by rw [Hvl.out]; exact Nat.le_refl _)] at hn3
       have hfin := digit_addlast (by rw [Hl2.out]; exact hXl) (by rw [Hl3.out, Hl2.out]) dX3 Hs3.out hn3 hc1 He.out.2 HX2lt.out (dg_bound dX2 i)
       have x2b := dg_bound dX2 i
       have hz : (((dg X2 i + c1) % 4294967296 : Nat) : Int) = ((dg X2 i : Nat) + (c1 : Int)) % 4294967296 := by omega
       have hb4 := hb3.setR Hpre.out i ((dg X2 i + c1) % 4294967296) hz.symm
       have hg4 := grown_set hg3 (j + i) (.int .u32 (((dg X2 i : Nat) + (c1 : Int)) % 4294967296))
       have dX4 : Digs (X3.set i ((dg X2 i + c1) % 4294967296)) := dX3.set (Nat.mod_lt _ (by decide)) _
       have Hfin := Lib.hid hfin; clear hfin
       have Hhz := Lib.hid hz; clear hz hn3
       have hG2 : G - 1 < 4294967296 := by omega
       generalize dg X2 i = x2 at *
       go_wp2
       go_ret
       refine ⟨ret_int (by have := He.out.1; omega), pre ++ X3.set i ((x2 + c1) % 4294967296), hb4, (HX.out.1 ▸ dU).left.append dX4, ?_, ?_, ?_, hg4⟩
       ·rw [HX.out.1]; simp [Hl3.out]
       ·rw [HX.out.1, List.take_append_of_le_length (by rw [Hpre.out]; exact Nat.le_refl _), List.take_append_of_le_length (by rw [Hpre.out]; exact Nat.le_refl _)]
       ·rw [← Hpre.out, List.drop_left, Hpre.out, Hfin.out, HX.out.2]
    ·have hbq : bor (x : Int) c0 b0 = 0 := bor_neg (by omega)
     have hl := Hlast.out
     rw [if_neg hbor, Nat.zero_mul, Nat.add_zero] at hl
     obtain ⟨e1, e2⟩ := digit_end0 (W := nv X) (V := nv vs) (G := G) (A := nv X2) K.vpos (by rw [HQ3.out]; exact hQG) hl
     rw [HQ3.out] at e1
     have hG1 : G < 4294967296 := by omega
     clear hl
     have He := Lib.hid (And.intro e1 e2); clear e1 e2
     go_wp2_with (go_at_call 83; refine (sub32_any _ _ _ _ (by omega) (by omega) (by omega) (by omega) (by omega) (by omega)).mono ?_; rintro e w' ⟨rfl, rfl⟩)
     go_ret
     refine ⟨ret_int (by rw [He.out.1]), pre ++ X2, hb2, (HX.out.1 ▸ dU).left.append dX2, ?_, ?_, ?_, hg2⟩
     ·rw [HX.out.1]; simp [Hl2.out]
     ·rw [HX.out.1, List.take_append_of_le_length (by rw [Hpre.out]; exact Nat.le_refl _), List.take_append_of_le_length (by rw [Hpre.out]; exact Nat.le_refl _)]
     ·rw [← Hpre.out, List.drop_left, Hpre.out]; rw [He.out.2, HX.out.2]
end Go.Proofs.YtfacbpnegkjcgaaDoor
namespace Go.Proofs.YtfacbpnegkjcgaaDoor
open Go.RowKit Go.Hp
theorem cmp_neg {x y : Nat} (h : x < y) : decide (cmp x y < 0) = true := by rw [cmp_lt h]; decide
theorem cmp_nonneg {x y : Nat} (h : y ≤ x) : decide (cmp x y < 0) = false := by
 rcases Nat.eq_or_lt_of_le h with e | e
 ·rw [cmp_eq e.symm]; decide
 ·rw [cmp_gt e]; decide
def DivV (n d : Nat) (r : Value) (w : World) : Prop := ∃ a b, r = .tuple #[a, b] ∧ NatV w a (n / d) ∧ NatV w b (n % d)
set_option maxHeartbeats 2000000 in
theorem divide_small (v u : Value) (ds es : List Nat) (w : World) (hv : DigV w v ds) (hu : DigV w u es) (htd : Top ds) (hte : Top es) (hn : ds.length ≤ 4398046511104) (hm : es.length ≤ 4398046511104) (h0 : 0 < nv es) (hc : nv ds < nv es) :
  Calls Tryd.prog 69 #[v, u] w (Gives w (DivV (nv ds) (nv es))) := by
 have hq := cmp_neg hc
 have Hc := Lib.hid hc; clear hc
 have Hv := Lib.hid hv; have Hu := Lib.hid hu
 obtain ⟨A, p1, rfl, hl, hc, hA⟩ := hv
 obtain ⟨E, p2, rfl, hl', hc', hE⟩ := hu
 go_enter Tryd.func69, Tryd.ntmps69
 go_wp2_with fail
 refine Calls.mono (compare_any _ _ ds es w Hv.out Hu.out htd hte hn hm) ?_
 rintro e w1 ⟨r, rfl, rfl, hx1⟩
 go_wp2_with fail
 refine Calls.mono (clone_any _ ds w1 (Hv.out.ext hx1) (by omega)) ?_
 rintro e w2 ⟨r, rfl, hr, hx2⟩
 go_wp2
 go_ret2
 refine Gives.mk ⟨_, _, rfl, ⟨[], ⟨none, 0, rfl, by simp, by omega, Digs.nil, fun h => by simp at h⟩, ?_, fun h => absurd rfl h⟩, ⟨ds, hr, ?_, htd⟩⟩ (hx1.trans hx2)
 ·rw [Nat.div_eq_of_lt Hc.out]; rfl
 ·rw [Nat.mod_eq_of_lt Hc.out]
set_option maxHeartbeats 2000000 in
theorem divide_word (v u : Value) (ds es : List Nat) (w : World) (hv : DigV w v ds) (hu : DigV w u es) (htd : Top ds) (hte : Top es) (hn : ds.length ≤ 2) (h0 : 0 < nv es) (hc : nv es ≤ nv ds) :
  Calls Tryd.prog 69 #[v, u] w (Gives w (DivV (nv ds) (nv es))) := by
 have hq := cmp_nonneg hc
 have hm : es.length ≤ 2 := by
  have := top_len_le hv.choose_spec.choose_spec.2.2.2.1 hte hc
  omega
 have hb1 := nv_lt hv.choose_spec.choose_spec.2.2.2.1
 have hb2 := nv_lt hu.choose_spec.choose_spec.2.2.2.1
 have hb3 := bp_le hn
 have hb4 := bp_le hm
 rw [bp_two] at hb3 hb4
 have hx1' : nv ds < 18446744073709551616 := by omega
 have hx2' : nv es < 18446744073709551616 := by omega
 clear hb1 hb2 hb3 hb4
 have Hc := Lib.hid hc; clear hc
 have Hv := Lib.hid hv; have Hu := Lib.hid hu
 obtain ⟨A, p1, rfl, hl, hc, hA⟩ := hv
 obtain ⟨E, p2, rfl, hl', hc', hE⟩ := hu
 go_enter Tryd.func69, Tryd.ntmps69
 go_wp2_with fail
 refine Calls.mono (compare_any _ _ ds es w Hv.out Hu.out htd hte (by omega) (by omega)) ?_
 rintro e w1 ⟨r, rfl, rfl, hx1⟩
 go_wp2_with fail
 refine Calls.mono (word_any _ ds w1 (Hv.out.ext hx1) hn) ?_
 rintro e w2 ⟨r, rfl, rfl, hx2⟩
 go_wp2_with fail
 refine Calls.mono (word_any _ es w2 ((Hu.out.ext hx1).ext hx2) hm) ?_
 rintro e w3 ⟨r, rfl, rfl, hx3⟩
 generalize nv ds = N at *
 generalize nv es = V at *
 have hV1 : (1 : Int) ≤ V := by omega
 have q0 : (0 : Int) ≤ (N : Int) / V := Int.ediv_nonneg (by omega) (by omega)
 have q1 : (N : Int) / V < 18446744073709551616 := by
  have : ((N / V : Nat) : Int) ≤ (N : Int) := Int.ofNat_le.2 (Nat.div_le_self _ _)
  rw [Int.natCast_ediv] at this
  omega
 have qn : N / V < 18446744073709551616 := Nat.lt_of_le_of_lt (Nat.div_le_self _ _) hx1'
 have rn : N % V < 18446744073709551616 := Nat.lt_of_le_of_lt (Nat.mod_le _ _) hx1'
 have Hq := Lib.hid (And.intro qn rn); clear qn rn
 go_wp2
 refine wp_region_par (k := 7) (D := [28, 29, 30, 31, 32, 33, 34]) (T := [[], [], [0, 1], [0, 1, 2], [], [], [4, 5], [0, 1, 2, 3, 4, 5, 6], [0, 1, 2, 3, 4, 5, 6, 7], [0, 1, 2, 3, 4, 5, 6, 7, 8]]) (EK := [6, 7]) (EV := [?e1x0, ?e1x1]) (VL := [(kv ?v1x0), (kv ?v1x1), (kv ?v1x2), (fun γ => γ 3), (kv ?v1x4), (kv ?v1x5), (kv ?v1x6)]) (FL := fun γ w' => [True, True, True, NatV w' (γ 3) (N / V), True, True, True]) ?hE1 (by kernel_rfl) (by kernel_rfl) (by rfl) (by kernel_rfl) ?hloc1 ?hmono1 ?hstep1 ?htail1
 case hE1 => refine ⟨?_, ?_, trivial⟩ <;> (simp only [List.getElem?_toArray, List.getElem?_cons_succ, List.getElem?_cons_zero]; rfl)
 case hstep1 =>
  refine ⟨⟨⟨⟨⟨⟨⟨trivial, ?_⟩, ?_⟩, ?_⟩, ?_⟩, ?_⟩, ?_⟩, ?_⟩
  iterate 3 focus
   intro γ w' he hf; clear hf; refine ⟨by trivial, ?_⟩; intro R hR; have hc := he.cells
   go_simp; (try go_ints); (try (rw [if_neg (by omega)])); (try (rw [if_pos (by omega)])); (try go_simp); (try go_ints)
   refine hR _ _ (Ext.refl _) ?_ trivial; rfl
  ·intro γ w' he hf; clear hf; refine ⟨trivial, ?_⟩; intro R hR
   go_simp
   refine Calls.mono (show Calls _ _ _ w' (Gives w' fun r w'' => NatV w'' (r) (N / V)) from Gives.imp (wide_any (N / V) _ (by simp) w' Hq.out.1) (fun _ _ ⟨l, a, b, c, _⟩ => ⟨l, a, b, c⟩)) ?_
   rintro e w2 ⟨v, rfl, hv, hx⟩
   exact ⟨v, rfl, hR v w2 hx rfl hv⟩
  iterate 3 focus
   intro γ w' he hf; clear hf; refine ⟨by trivial, ?_⟩; intro R hR; have hc := he.cells
   go_simp; (try go_ints); (try (rw [if_neg (by omega)])); (try (rw [if_pos (by omega)])); (try go_simp); (try go_ints)
   refine hR _ _ (Ext.refl _) ?_ trivial; rfl
 case hloc1 =>
  exact ⟨⟨⟨⟨⟨⟨⟨trivial, (fun γ γ' h => ⟨rfl, fun _ => rfl⟩)⟩, (fun γ γ' h => ⟨rfl, fun _ => rfl⟩)⟩, (fun γ γ' h => ⟨rfl, fun _ => rfl⟩)⟩, (fun γ γ' h => ⟨h 3 rfl, fun w' => (congrArg (fun a => NatV w' (a) (N / V)) (h 3 rfl))⟩)⟩, (fun γ γ' h => ⟨rfl, fun _ => rfl⟩)⟩, (fun γ γ' h => ⟨rfl, fun _ => rfl⟩)⟩, (fun γ γ' h => ⟨rfl, fun _ => rfl⟩)⟩
 case hmono1 =>
  exact ⟨⟨⟨⟨⟨⟨⟨trivial, (fun γ wA w' e h => h)⟩, (fun γ wA w' e h => h)⟩, (fun γ wA w' e h => h)⟩, (fun γ wA w' e h => (show NatV wA (γ 3) (N / V) from h).ext e)⟩, (fun γ wA w' e h => h)⟩, (fun γ wA w' e h => h)⟩, (fun γ wA w' e h => h)⟩
 intro γ w4 hx4 hF
 have p3 : NatV w4 (γ 3) (N / V) := Each.get hF 3 (by decide)
 clear hF
 simp only [fillAll, gV, kv, List.getD_cons_zero, List.getD_cons_succ, Act.put, List.setIfInBounds_toArray, List.set_cons_zero, List.set_cons_succ, List.toList_toArray, List.drop_succ_cons, List.drop_zero, List.drop_nil, Nat.zero_add, Nat.reduceAdd]
 generalize γ 3 = g3 at *
 clear γ
 go_wp2_with fail
 refine Calls.mono (wide_any (N % V) _ (by simp) w4 Hq.out.2) ?_
 rintro e w5 ⟨r, rfl, ⟨l, a, b, c, _⟩, hx5⟩
 go_wp2
 go_ret2
 exact Gives.mk ⟨_, _, rfl, p3.ext hx5, ⟨l, a, b, c⟩⟩ ((((hx1.trans hx2).trans hx3).trans hx4).trans hx5)
set_option maxHeartbeats 2000000 in
theorem divide_short (v u : Value) (ds : List Nat) (d : Nat) (w : World) (hv : DigV w v ds) (hu : DigV w u [d]) (htd : Top ds) (hte : Top [d]) (hn : ds.length ≤ 4398046511104) (hn2 : 2 < ds.length) (h0 : 0 < nv [d]) (hc : nv [d] ≤ nv ds) :
  Calls Tryd.prog 69 #[v, u] w (Gives w (DivV (nv ds) (nv [d]))) := by
 have hq := cmp_nonneg hc
 clear hc
 have Hv := Lib.hid hv; have Hu := Lib.hid hu
 obtain ⟨A, p1, rfl, hl, hc, hA⟩ := hv
 obtain ⟨E, p2, rfl, hl', hc', hE⟩ := hu
 obtain ⟨a, rfl, hcb⟩ := dig_at hE (k := 0) (by simp)
 replace hcb : w.cell? a = some (.int .u32 (d : Nat)) := hcb
 have hd1 : d < 4294967296 := hE.1 d (by simp)
 have hd0 : 0 < d := by simpa [nv_cons, nv_nil] using h0
 have hdd : nv [d] = d := by simp [nv_cons, nv_nil]
 have Hdd := Lib.hid hdd; clear hdd
 clear hE
 go_enter Tryd.func69, Tryd.ntmps69
 go_wp2_with fail
 refine Calls.mono (compare_any _ _ ds [d] w Hv.out Hu.out htd hte hn (by simp)) ?_
 rintro e w1 ⟨r, rfl, rfl, hx1⟩
 replace hcb := hx1.cell hcb
 go_wp2_with fail
 refine Calls.mono (short_any _ ds d w1 (Hv.out.ext hx1) hd0 hd1 hn) ?_
 rintro e w2 ⟨r, rfl, ⟨q, l, rfl, hql, hqn, hqle⟩, hx2⟩
 have hr : nv ds % d < 4294967296 := Nat.lt_trans (Nat.mod_lt _ hd0) hd1
 obtain ⟨lq, hlq⟩ : ∃ x, nv ds % d = x := ⟨_, rfl⟩
 rw [hlq] at hr ⊢
 have Hlq := Lib.hid hlq; clear hlq
 go_wp2_with fail
 refine Calls.mono (trimmed_any _ l w2 hql) ?_
 rintro e w3 ⟨q2, rfl, hq2, hx3⟩
 go_wp2_with fail
 refine Calls.mono (wide_any lq _ rfl w3 (by omega)) ?_
 rintro e w4 ⟨r2, rfl, ⟨l2, a2, b2, c2, _⟩, hx4⟩
 go_wp2
 go_ret2
 refine Gives.mk ⟨_, _, rfl, ⟨trim l, hq2.ext hx4, ?_, trim_top l⟩, ⟨l2, a2, ?_, c2⟩⟩ (((hx1.trans hx2).trans hx3).trans hx4)
 ·rw [trim_nv, hqn, Hdd.out]
 ·rw [b2, Hdd.out, Hlq.out]
set_option maxHeartbeats 4000000 in
set_option maxRecDepth 100000 in
theorem divide_long (v u : Value) (ds es : List Nat) (w : World) (hv : DigV w v ds) (hu : DigV w u es) (htd : Top ds) (hte : Top es) (hn : ds.length ≤ 4398046511103) (hn2 : 2 < ds.length) (hL2 : 2 ≤ es.length) (hc : nv es ≤ nv ds) :
  Calls Tryd.prog 69 #[v, u] w (Gives w (DivV (nv ds) (nv es))) := by
 have hq := cmp_nonneg hc
 have dD : Digs ds := hv.choose_spec.choose_spec.2.2.2.1
 have dE : Digs es := hu.choose_spec.choose_spec.2.2.2.1
 have hLn : es.length ≤ ds.length := top_len_le dD hte hc
 clear hc
 have Hv := Lib.hid hv; have Hu := Lib.hid hu
 obtain ⟨A, p1, rfl, hl, hc, hA⟩ := hv
 obtain ⟨E, p2, rfl, hl', hc', hE⟩ := hu
 obtain ⟨a, rfl, hcb⟩ := dig_at hE (k := es.length - 1) (by omega)
 have hd1 := dg_bound dE (es.length - 1)
 have hd0 : 0 < dg es (es.length - 1) := by
  have hne : es ≠ [] := fun e => by rw [e] at hL2; simp at hL2
  have := hte hne
  rw [List.getLast_eq_getElem] at this
  rw [dg_lt (by omega)]; omega
 have hsp := lz_spec hd0 hd1
 generalize hd : dg es (es.length - 1) = d at *
 have Hd := Lib.hid hd; clear hd
 clear hE hA
 obtain ⟨m, hm⟩ : ∃ m, m + es.length = ds.length + 1 := ⟨ds.length + 1 - es.length, by omega⟩
 have Hm := Lib.hid hm
 have hm1 : 1 ≤ m := by omega
 have hm2 : m ≤ ds.length := by omega
 clear hm
 go_enter Tryd.func69, Tryd.ntmps69
 go_wp2_with fail
 refine Calls.mono (compare_any _ _ ds es w Hv.out Hu.out htd hte (by omega) (by omega)) ?_
 rintro e w1 ⟨r, rfl, rfl, hx1⟩
 replace hcb := hx1.cell hcb
 have b2 : decide ((ds.length : Int) ≤ 2) = false := by simp; omega
 go_wp2_with fail
 refine Calls.mono (lz_any d w1 hd1) ?_
 rintro e w2 ⟨rfl, rfl⟩
 obtain ⟨s, hs⟩ : ∃ s, lz d = s := ⟨_, rfl⟩
 rw [hs] at hsp ⊢
 clear hs
 obtain ⟨hs32, hhi, hlo⟩ := hsp
 obtain ⟨S, hS⟩ : ∃ S, 2 ^ s = S := ⟨_, rfl⟩
 have hS0 : 0 < S := by rw [← hS]; exact Nat.two_pow_pos _
 rw [hS] at hhi hlo
 have Hsp := Lib.hid (And.intro hhi (And.intro hlo hS)); clear hhi hlo hS
 go_wp2_with fail
 refine Calls.mono (shifted_any _ ds s w1 (Hv.out.ext hx1) hs32 (by omega)) ?_
 rintro e w2 ⟨r, rfl, ⟨lu, g, rfl, hg1, hbu, dlu, hlu, hlul⟩, hx2⟩
 go_wp2_with fail
 refine Calls.mono (shifted_any _ es s w2 ((Hu.out.ext hx1).ext hx2) hs32 (by omega)) ?_
 rintro e w3 ⟨r, rfl, ⟨lv, g', rfl, hg2, hbv, dlv, hlv, hlvl⟩, hx3⟩
 have hlvl' : lv.length = es.length + 1 := hlvl
 go_wp2_with fail
 rw [← hlvl']
 refine Calls.mono (trimmed_eq (some ⟨g', 0, none⟩) lv.length lv w3 (Nat.le_refl _) (by omega) (hbv.digat dlv)) ?_
 rintro e w4 ⟨rfl, rfl⟩
 rw [Hsp.out.2.2] at hlu hlv
 have nd := norm_div dE rfl (by omega) hS0 (by rw [Hd.out]; exact Hsp.out.1) (by rw [Hd.out]; exact Hsp.out.2.1) (trim_digs dlv) (trim_top lv) (by rw [trim_nv, hlv])
 have hmk := fun W => make_u32 m ((ds.length : Int) + 1 - es.length) (by have := Hm.out; omega) (by omega) W
 obtain ⟨ndl, ndt⟩ := nd
 rw [ndl]
 obtain ⟨V, hV⟩ : ∃ V, nv (trim lv) = V := ⟨_, rfl⟩
 have hVe : nv es * S = V := by rw [← hV, trim_nv, hlv]
 have hVpos : 0 < V := by rw [← hVe]; exact Nat.mul_pos (by have := (hte.len (by omega)); have := bp_pos (es.length - 1); omega) hS0
 have hst : nv (lu.drop m) < V := by rw [← hVe]; exact norm_start dD hte (by omega) hS0 hlu Hm.out (by omega)
 have hgg : g < w2.heap.size := hbu.lt
 have hgg' : g' < w3.heap.size := hbv.lt
 have hsz2 := hx1.size
 have hsz3 := hx2.size
 have hsz4 := hx3.size
 have Hgs := Lib.hid (And.intro hgg (And.intro hgg' (And.intro hg1 (And.intro hg2 (And.intro hsz2 (And.intro hsz3 hsz4))))))
 have hxa := ((hx1.trans hx2).trans hx3).alloc (.cells (zcells m) 57)
 have hbu3 := (hbu.ext hx3).alloc (.cells (zcells m) 57)
 have hbv3 := hbv.alloc (.cells (zcells m) 57)
 have Hve := Lib.hid (And.intro hV (And.intro hVe (And.intro hst hlu))); clear hV hVe hst hlu
 clear hlv hsz2 hsz3 hsz4 hg1 hg2 hgg hgg' hcb hx2 hx3 hx1
 have Hlul := Lib.hid hlul; clear hlul
 have Hlv := Lib.hid (And.intro hlvl ndl); clear hlvl hlvl' ndl
 go_wp2
 go_loopw [14] (fun iv wr => ∃ (k : Nat) (U ql : List Nat), k ≤ m ∧ (∃ q : Int, q + 1 = k ∧ iv = .int .i64 q) ∧ DBlk wr g 57 U ∧ Digs U ∧ U.length = ds.length + 1 ∧ DBlk wr w3.heap.size 57 ql ∧ Digs ql ∧ ql.length = m ∧ DBlk wr g' 57 lv ∧ nv (U.take k) + bp k * nv (U.drop k) + nv (ql.drop k) * bp k * V = nv ds * S ∧ nv (U.drop k) < V ∧ Ext w wr) (fun iv _ => (intOf iv + 1).toNat)
 case atStart => exact ⟨m, lu, _, Nat.le_refl _, ⟨_, by omega, rfl⟩, hbu3, dlu, Hlul.out, DBlk.new _ _ _, Digs.zeros _, List.length_replicate, hbv3, by rw [List.drop_of_length_le (l := List.replicate m 0) (by simp), nv_nil, ← nv_split lu m (by have := Hlul.out; omega), Hve.out.2.2.2]; simp, Hve.out.2.2.1, hxa⟩
 case round =>
  obtain ⟨k, U, ql, hk, ⟨q, hq, rfl⟩, hbU, dU, hUl, hbq, dq, hql, hbV, hval, hlt, hx⟩ := hrel
  have HUl := Lib.hid hUl; clear hUl
  have Hql := Lib.hid hql; clear hql
  have Hval := Lib.hid (And.intro hval hlt); clear hval hlt
  clear hbu3 hbv3 hxa
  by_cases hk0 : 0 < k
  ·obtain ⟨j, rfl⟩ : ∃ j, k = j + 1 := ⟨k - 1, by omega⟩
   obtain rfl : q = (j : Int) := by omega
   clear hq
   have hjm := Hm.out
   have hj1 : j + es.length + 1 ≤ ds.length + 1 := by omega
   have hj0 : j ≤ ds.length := by omega
   clear hjm
   go_wp2_with fail
   rw [show j + es.length + 1 - j = es.length + 1 from by omega]
   obtain ⟨hgg, hgg', hg1, hg2, hsz2, hsz3, hsz4⟩ := Hgs.out
   obtain ⟨hV, hVe, _, _⟩ := Hve.out
   have hUl := HUl.out
   have hXj : nv (U.drop j) < 4294967296 * V := by
    rw [nv_drop (by omega)]
    exact div_next (dU.get (by omega)) Hval.out.2
   refine Calls.mono (digit_any g j es.length _ _ U (trim lv) ⟨g', 0, none⟩ wr hbU dU hL2 (by omega) (by omega) Hlv.out.2 (trim_digs dlv) (fun k hk => ?hva) (fun e => ?hne) ndt (by rw [hV]; exact hXj) (by omega) (by have := Hlv.out.1; omega)) ?_
   case hva =>
    obtain ⟨a', ha, hc⟩ := dig_at (hbV.digat dlv).trim (k := k) (by rw [Hlv.out.2]; exact hk)
    cases ha
    exact hc
   case hne => simp only at e; omega
   rintro e w5 ⟨rfl, U', hbU', dU', hUl', hUt, hUd, hgr⟩
   have hq5 : DBlk w5 w3.heap.size 57 ql := (hgr.block _ hbq.lt (by intro e; injection e; omega)).trans hbq
   have hV5 : DBlk w5 g' 57 lv := (hgr.block _ hbV.lt (by intro e; injection e; omega)).trans hbV
   have hx5 : Ext w w5 := hx.grown hgr (by intro k hk; injection hk; omega)
   rw [hV] at hUd
   rw [hV]
   have hqj : nv (U.drop j) / V < 4294967296 := Nat.div_lt_of_lt_mul (by rw [Nat.mul_comm]; exact hXj)
   have hcell := hq5.celld (i := j) (by have := Hql.out; omega)
   have hfz := hq5.frozen j
   have Hmore := Lib.hid (And.intro hUl' (And.intro hUt (And.intro hUd hqj)))
   clear hUl' hUt hUd hqj hUl hXj hgg hgg' hg1 hg2 hsz2 hsz3 hsz4 hV hVe
   obtain ⟨qd, hqd⟩ : ∃ x, nv (U.drop j) / V = x := ⟨_, rfl⟩
   rw [hqd]
   have Hqd := Lib.hid hqd; clear hqd
   clear hbq hbV hbU hx hgr
   go_wp2
   go_roundw
   case rel =>
    obtain ⟨hUl', hUt, hUd, hqj⟩ := Hmore.out
    rw [Hqd.out] at hqj
    have hUl := HUl.out
    have hql := Hql.out
    refine ⟨j, U', ql.set j qd, by omega, ⟨_, by omega, rfl⟩, hbU'.far (fun e => ?_) _, dU', by omega, hq5.setI j qd rfl, dq.set hqj _, by simpa using hql, hV5.far (fun e => ?_) _, ?_, by rw [hUd]; exact Nat.mod_lt _ hVpos, hx5.setCell _ _ ?_⟩
    ·have := Hgs.out; simp only at e; omega
    ·have := Hgs.out; simp only at e; omega
    ·have hql' : j < (ql.set j qd).length := by simp; omega
     rw [nv_drop hql', hUt, hUd]
     simp only [List.getElem_set_self, List.drop_set_of_lt (Nat.lt_succ_self j)]
     rw [← Hqd.out]
     refine div_round ?_
     have h1 := Hval.out.1
     rw [← bp_succ, ← h1, nv_take_dg, bp_succ]
     rw [nv_drop (ds := U) (i := j) (by omega), dg_lt (by omega)]
     grind
    ·have := Hgs.out; simp only; omega
   case measure => simp [intOf] <;> omega
  ·obtain rfl : k = 0 := by omega
   have q1 : q < 0 := by omega
   have Hq := Lib.hid hq; clear hq
   obtain ⟨hV, hVe, _, _⟩ := Hve.out
   have hval := Hval.out
   simp only [List.take_zero, nv_nil, bp_zero, Nat.one_mul, Nat.zero_add, Nat.mul_one, List.drop_zero] at hval
   obtain ⟨e1, e2⟩ := div_end hval.2 hval.1
   have hUL : nv (U.take es.length) = nv U := by
    refine (nv_high (by rw [HUl.out]; omega) ?_).2
    have h1 := nv_lt (trim_digs dlv)
    rw [hV, Hlv.out.2] at h1
    omega
   have hesp : 0 < nv es := by
    rcases Nat.eq_zero_or_pos (nv es) with h | h
    ·rw [h, Nat.zero_mul] at hVe; omega
    ·exact h
   rw [← hVe, Nat.mul_div_mul_right _ _ hS0] at e1
   rw [← hVe, Nat.mul_mod_mul_right] at e2
   have hqv := hbq.digv dq (c := m) (by rw [Hql.out]; exact Nat.le_refl _) (by omega)
   rw [Hql.out] at hqv
   have hUv := hbU.digtake dU (n := es.length) (c := ds.length + 1) (by rw [HUl.out]; omega) (by rw [HUl.out]; exact Nat.le_refl _) (by omega)
   have hSS := Hsp.out.2.2
   have Hend := Lib.hid (And.intro e1 (And.intro e2 (And.intro hUL (And.intro hqv (And.intro hUv hSS)))))
   clear e1 e2 hUL hqv hUv hval hV hVe hSS
   have hi1 : (0 : Int) ≤ es.length := by omega
   have hi2 : (es.length : Int) ≤ (ds.length : Int) + 1 := by omega
   have hi3 : es.length ≤ ds.length + 1 := by omega
   go_wp2_with fail
   refine wp_region_par (k := 6) (D := [93, 94, 95, 96, 97, 98]) (T := [[], [0], [], [], [2, 3], [], [0, 1, 2, 3, 4, 5], [0, 1, 2, 3, 4, 5, 6], [0, 1, 2, 3, 4, 5, 6, 7], [0, 1, 2, 3, 4, 5, 6, 7, 8]]) (EK := [4, 11, 13, 10]) (EV := [?e2x0, ?e2x1, ?e2x2, ?e2x3]) (VL := [(kv ?v2x0), (fun γ => γ 1), (kv ?v2x2), (kv ?v2x3), (kv ?v2x4), (kv ?v2x5)]) (FL := fun γ w' => [True, DigV w' (γ 1) (trim ql), True, True, True, True]) ?hE2 (by kernel_rfl) (by kernel_rfl) (by rfl) (by kernel_rfl) ?hloc2 ?hmono2 ?hstep2 ?htail2
   case hE2 => refine ⟨?_, ?_, ?_, ?_, trivial⟩ <;> (simp only [List.getElem?_toArray, List.getElem?_cons_succ, List.getElem?_cons_zero]; rfl)
   case hstep2 =>
    refine ⟨⟨⟨⟨⟨⟨trivial, ?_⟩, ?_⟩, ?_⟩, ?_⟩, ?_⟩, ?_⟩
    iterate 1 focus
     intro γ w' he hf; clear hf; refine ⟨by trivial, ?_⟩; intro R hR; have hc := he.cells
     go_simp; (try go_ints); (try (rw [if_neg (by omega)])); (try (rw [if_pos (by omega)])); (try go_simp); (try go_ints)
     refine hR _ _ (Ext.refl _) ?_ trivial; rfl
    ·intro γ w' he hf; clear hf; refine ⟨trivial, ?_⟩; intro R hR
     go_simp
     refine Calls.mono (show Calls _ _ _ w' (Gives w' fun r w'' => DigV w'' (r) (trim ql)) from trimmed_any _ ql w' (Hend.out.2.2.2.1.ext he)) ?_
     rintro e w2 ⟨v, rfl, hv, hx⟩
     exact ⟨v, rfl, hR v w2 hx rfl hv⟩
    iterate 4 focus
     intro γ w' he hf; clear hf; refine ⟨by trivial, ?_⟩; intro R hR; have hc := he.cells
     go_simp; (try go_ints); (try (rw [if_neg (by omega)])); (try (rw [if_pos (by omega)])); (try go_simp); (try go_ints)
     refine hR _ _ (Ext.refl _) ?_ trivial; rfl
   case hloc2 =>
    exact ⟨⟨⟨⟨⟨⟨trivial, (fun γ γ' h => ⟨rfl, fun _ => rfl⟩)⟩, (fun γ γ' h => ⟨h 1 rfl, fun w' => (congrArg (fun a => DigV w' (a) (trim ql)) (h 1 rfl))⟩)⟩, (fun γ γ' h => ⟨rfl, fun _ => rfl⟩)⟩, (fun γ γ' h => ⟨rfl, fun _ => rfl⟩)⟩, (fun γ γ' h => ⟨rfl, fun _ => rfl⟩)⟩, (fun γ γ' h => ⟨rfl, fun _ => rfl⟩)⟩
   case hmono2 =>
    exact ⟨⟨⟨⟨⟨⟨trivial, (fun γ wA w' e h => h)⟩, (fun γ wA w' e h => (show DigV wA (γ 1) (trim ql) from h).ext e)⟩, (fun γ wA w' e h => h)⟩, (fun γ wA w' e h => h)⟩, (fun γ wA w' e h => h)⟩, (fun γ wA w' e h => h)⟩
   intro γ w5 hx5 hF
   have p1 : DigV w5 (γ 1) (trim ql) := Each.get hF 1 (by decide)
   clear hF
   simp only [fillAll, gV, kv, List.getD_cons_zero, List.getD_cons_succ, Act.put, List.setIfInBounds_toArray, List.set_cons_zero, List.set_cons_succ, List.toList_toArray, List.drop_succ_cons, List.drop_zero, List.drop_nil, Nat.zero_add, Nat.reduceAdd]
   generalize γ 1 = g1 at *
   clear γ
   go_wp2_with fail
   refine Calls.mono (unshifted_any _ (U.take es.length) s w5 (Hend.out.2.2.2.2.1.ext hx5) hs32 (by simp; omega)) ?_
   rintro e w7 ⟨r7, rfl, ⟨lr, r1, r2, r3⟩, hx7⟩
   rw [Hend.out.2.2.2.2.2, Hend.out.2.2.1, Hend.out.2.1, Nat.mul_div_cancel _ hS0] at r2
   go_wp2_with fail
   refine Calls.mono (trimmed_any _ lr w7 r1) ?_
   rintro e w6 ⟨rr, rfl, hrr, hx6⟩
   go_wp2
   go_ret2
   refine Gives.mk ⟨_, _, rfl, ⟨trim ql, (p1.ext hx7).ext hx6, ?_, trim_top _⟩, ⟨trim lr, hrr, ?_, trim_top _⟩⟩ (((hx.trans hx5).trans hx7).trans hx6)
   ·rw [trim_nv]; exact Hend.out.1
   ·rw [trim_nv]; exact r2
end Go.Proofs.YtfacbpnegkjcgaaDoor
namespace Go.Proofs.YtfacbpnegkjcgaaDoor
open Go.RowKit Go.Hp
theorem divide_nat (v u : Value) (N V : Nat) (w : World) (hv : NatV w v N) (hu : NatV w u V) (h0 : 0 < V) (hn : sz N ≤ 4398046511103) (hm : sz V ≤ 4398046511103) :
  Calls Tryd.prog 69 #[v, u] w (Gives w (DivV N V)) := by
 obtain ⟨ds, a1, rfl, a3, a4⟩ := hv.len
 obtain ⟨es, b1, rfl, b3, b4⟩ := hu.len
 rcases Nat.lt_or_ge (nv ds) (nv es) with hc | hc
 ·exact divide_small v u ds es w a1 b1 a3 b3 (by omega) (by omega) h0 hc
 ·by_cases h2 : ds.length ≤ 2
  ·exact divide_word v u ds es w a1 b1 a3 b3 h2 h0 hc
  ·match es, b1, b3, b4, h0, hm, hc with
   | [], _, _, _, h0, _, _ => simp [nv_nil] at h0
   | [d], b1, b3, b4, h0, hm, hc => exact divide_short v u ds d w a1 b1 a3 b3 (by omega) (by omega) h0 hc
   | d :: e :: l, b1, b3, b4, h0, hm, hc => exact divide_long v u ds (d :: e :: l) w a1 b1 a3 b3 (by omega) (by omega) (by simp) hc
theorem trimmed_num (v : Value) (N l : Nat) (w : World) (h : NumV w v N l) : Calls Tryd.prog 53 #[v] w (Gives w fun r w' => NatV w' r N) := by
 obtain ⟨ds, h1, rfl, _⟩ := h
 exact Gives.imp (trimmed_any v ds w h1) fun _ _ h => ⟨trim ds, h, trim_nv ds, trim_top ds⟩
theorem clone_nat (v : Value) (N : Nat) (w : World) (h : NatV w v N) (hn : sz N ≤ 8796093022208) : Calls Tryd.prog 52 #[v] w (Gives w fun r w' => NatV w' r N) := by
 obtain ⟨ds, h1, rfl, h3, h4⟩ := h.len
 exact Gives.imp (clone_any v ds w h1 (by omega)) fun _ _ h => ⟨ds, h, rfl, h3⟩
theorem plus_num (v u : Value) (N M a b : Nat) (w : World) (hv : NumV w v N a) (hu : NumV w u M b) (ha : a ≤ 4398046511104) (hb : b ≤ 4398046511104) : Calls Tryd.prog 70 #[v, u] w (Gives w fun r w' => NumV w' r (N + M) (max a b + 1)) := by
 obtain ⟨ds, h1, rfl, h3⟩ := hv
 obtain ⟨es, k1, rfl, k3⟩ := hu
 exact Gives.imp (plus_any v u ds es w h1 k1 (by omega) (by omega)) fun _ _ ⟨l, q1, q2, q3⟩ => ⟨l, q1, q2, by omega⟩
theorem less_nat (v u : Value) (N M : Nat) (w : World) (hv : NatV w v N) (hu : NatV w u M) (hle : M ≤ N) (ha : sz N ≤ 4398046511104) : Calls Tryd.prog 71 #[v, u] w (Gives w fun r w' => NumV w' r (N - M) (sz N)) := by
 obtain ⟨ds, h1, rfl, h3, h4⟩ := hv.len
 obtain ⟨es, k1, rfl, k3, k4⟩ := hu.len
 have := sz_mono hle
 exact Gives.imp (less_any v u ds es w h1 k1 (by omega) (by omega) hle) fun _ _ ⟨l, q1, q2, q3⟩ => ⟨l, q1, q2, by omega⟩
theorem times_num (v u : Value) (N M a b : Nat) (w : World) (hv : NumV w v N a) (hu : NumV w u M b) (ha : a ≤ 4398046511104) (hb : b ≤ 4398046511104) : Calls Tryd.prog 56 #[v, u] w (Gives w fun r w' => NumV w' r (N * M) (a + b)) := by
 obtain ⟨ds, h1, rfl, h3⟩ := hv
 obtain ⟨es, k1, rfl, k3⟩ := hu
 exact Gives.imp (times_any v u ds es w h1 k1 (by omega) (by omega)) fun _ _ ⟨l, q1, q2, q3⟩ => ⟨l, q1, q2, by omega⟩
theorem compare_nat (v u : Value) (N M : Nat) (w : World) (hv : NatV w v N) (hu : NatV w u M) (ha : sz N ≤ 4398046511104) (hb : sz M ≤ 4398046511104) : Calls Tryd.prog 72 #[v, u] w (Gives w fun r _ => r = .int .i64 (cmp N M)) := by
 obtain ⟨ds, h1, rfl, h3, h4⟩ := hv.len
 obtain ⟨es, k1, rfl, k3, k4⟩ := hu.len
 exact compare_any v u ds es w h1 k1 h3 k3 (by omega) (by omega)
theorem wide_nat (n : Nat) (x : Int) (hxn : x = n) (w : World) (hn : n < 18446744073709551616) : Calls Tryd.prog 51 #[.int .u64 x] w (Gives w fun r w' => NatV w' r n) :=
 Gives.imp (wide_any n x hxn w hn) fun _ _ ⟨l, a, b, c, _⟩ => ⟨l, a, b, c⟩
theorem word_nat (v : Value) (N : Nat) (w : World) (hv : NatV w v N) (hN : N < 18446744073709551616) : Calls Tryd.prog 73 #[v] w (Gives w fun r _ => r = .int .u64 (N : Nat)) := by
 obtain ⟨ds, h1, rfl, h3, h4⟩ := hv.len
 have := sz_small2 hN
 exact word_any v ds w h1 (by omega)
set_option maxHeartbeats 1000000 in
theorem signed_any (neg : Bool) (v : Value) (N l : Nat) (w : World) (hv : NumV w v N l) : Calls Tryd.prog 50 #[.bool neg, v] w (Gives w fun r w' => IsZ w' r (if neg then -(N : Int) else N)) := by
 obtain ⟨ds, h1, hnv, h3⟩ := hv
 have Hv := Lib.hid (And.intro h1 hnv)
 obtain ⟨A, c, rfl, hl', hc, hA⟩ := h1
 clear hnv
 go_enter Tryd.func50, Tryd.ntmps50
 go_wp2_with fail
 refine Calls.mono (trimmed_num _ N l _ ⟨ds, Hv.out.1.ext ((Ext.refl w).alloc _), Hv.out.2, h3⟩) ?_
 rintro e w1 ⟨r, rfl, hr, hx1⟩
 obtain ⟨A', c', rfl, q1, q2⟩ := hr.form
 have hc1 := hx1.cells
 have hf1 := hx1.frozens
 have hnd : NoDig w1 w.heap.size := (NoDig.new w _ _ (by simp [isDig])).ext hx1 (by simp)
 have hxw : Ext w w1 := ((Ext.refl w).alloc _).trans hx1
 have fin : ∀ b : Bool, (b = true → N ≠ 0) → (if b then -(N : Int) else N) = (if neg then -(N : Int) else N) →
   Gives w (fun r w' => IsZ w' r (if neg then -(N : Int) else N)) (.returned (.agg #[.bool b, .slice A' (sz N) c'])) ((w1.setCell ⟨w.heap.size, 0, none⟩ (.bool b)).setCell ⟨w.heap.size, 1, none⟩ (.slice A' (sz N) c')) := by
  intro b h1 h2
  have hk := ((KD.refl w1).set_ (i := 0) hnd (.bool b)).set_ (i := 1) (hnd.set_ rfl) (.slice A' (sz N) c')
  rw [← h2]
  exact Gives.mk (IsZ.mk (hr.kd hk) h1) ((hxw.setCell _ _ (Nat.le_refl _)).setCell _ _ (Nat.le_refl _))
 have Hfin := Lib.hid fin; clear fin
 clear hr hnd hxw
 by_cases h0 : N = 0
 ·have hb : decide (0 < sz N) = false := by subst h0; rfl
  have H0 := Lib.hid h0; clear h0
  cases neg
  all_goals
   go_wp2
   refine bodyPost_ret (v := .agg #[.bool false, .slice A' (sz N) c']) (by simp [results, Tryd.results50, go_sem, hc1]) rfl ?_
   have := Hfin.out false (fun h => by cases h) (by simp [H0.out])
   simpa only [if_true, if_false, Bool.false_eq_true] using this
 ·have hp : 0 < sz N := by
   have := lt_bp_sz N
   rcases Nat.eq_zero_or_pos (sz N) with h | h
   ·rw [h, bp_zero] at this; omega
   ·exact h
  have hb : decide (0 < sz N) = true := by simp; exact hp
  clear hp
  have H0 := Lib.hid h0; clear h0
  cases neg
  ·go_wp2
   refine bodyPost_ret (v := .agg #[.bool false, .slice A' (sz N) c']) (by simp [results, Tryd.results50, go_sem, hc1]) rfl ?_
   have := Hfin.out false (fun h => by cases h) rfl
   simpa only [if_true, if_false, Bool.false_eq_true] using this
  ·go_wp2
   refine bodyPost_ret (v := .agg #[.bool true, .slice A' (sz N) c']) (by simp [results, Tryd.results50, go_sem, hc1]) rfl ?_
   have := Hfin.out true (fun _ => H0.out) rfl
   simpa only [if_true, if_false, Bool.false_eq_true] using this
end Go.Proofs.YtfacbpnegkjcgaaDoor
namespace Go.Proofs.YtfacbpnegkjcgaaDoor
open Go.RowKit Go.Hp
theorem signed_z (x : Int) (neg : Bool) (v : Value) (N l : Nat) (w : World) (hx : x = if neg then -(N : Int) else N) (hv : NumV w v N l) : Calls Tryd.prog 50 #[.bool neg, v] w (Gives w fun r w' => IsZ w' r x) := by
 subst hx; exact signed_any neg v N l w hv
theorem normal_z (v : Value) (x : Int) (w : World) (hv : HasZ w v x) : Calls Tryd.prog 49 #[v] w (Gives w fun r w' => IsZ w' r x) := by
 obtain ⟨neg, A, n, c, N, rfl, h1, h2, h3, hN, hx⟩ := hv.form
 have HN := Lib.hid hN; clear hN hv
 have Hx := Lib.hid hx; clear hx
 have hs : sz N ≤ n := HN.out.sz
 go_enter Tryd.func49, Tryd.ntmps49
 go_wp2_with fail
 refine wp_region_par (k := 6) (D := [3, 4, 5, 6, 7, 8]) (T := [[], [0], [], [2], [2, 3], [2, 3, 4], [0, 1, 2, 3, 4, 5], [0, 1, 2, 3, 4, 5, 6]]) (EK := [1]) (EV := [?e1x0]) (VL := [(kv ?v1x0), (kv ?v1x1), (kv ?v1x2), (kv ?v1x3), (fun γ => γ 4), (fun γ => γ 5)]) (FL := fun γ w' => [True, True, True, True, NatV w' (γ 4) N, NatV w' (γ 5) N]) ?hE1 (by kernel_rfl) (by kernel_rfl) (by rfl) (by kernel_rfl) ?hloc1 ?hmono1 ?hstep1 ?htail1
 case hE1 => refine ⟨?_, trivial⟩ <;> (simp only [List.getElem?_toArray, List.getElem?_cons_succ, List.getElem?_cons_zero]; rfl)
 case hstep1 =>
  refine ⟨⟨⟨⟨⟨⟨trivial, ?_⟩, ?_⟩, ?_⟩, ?_⟩, ?_⟩, ?_⟩
  iterate 4 focus
   intro γ w' he hf; clear hf; refine ⟨by trivial, ?_⟩; intro R hR; have hc := he.cells
   go_simp; (try go_ints); (try (rw [if_neg (by omega)])); (try (rw [if_pos (by omega)])); (try go_simp); (try go_ints)
   refine hR _ _ (Ext.refl _) ?_ trivial; rfl
  ·intro γ w' he hf; clear hf; refine ⟨trivial, ?_⟩; intro R hR
   go_simp
   refine Calls.mono (show Calls _ _ _ w' (Gives w' fun r w'' => NatV w'' (r) N) from trimmed_num _ N n w' (HN.out.ext he.a2)) ?_
   rintro e w2 ⟨v, rfl, hv, hx⟩
   exact ⟨v, rfl, hR v w2 hx rfl hv⟩
  ·intro γ w' he hf; have f4 : NatV w' (γ 4) N := hf 4 (by decide); clear hf; refine ⟨trivial, ?_⟩; intro R hR
   go_simp
   refine Calls.mono (show Calls _ _ _ w' (Gives w' fun r w'' => NatV w'' (r) N) from clone_nat _ N w' f4 (by omega)) ?_
   rintro e w2 ⟨v, rfl, hv, hx⟩
   exact ⟨v, rfl, hR v w2 hx rfl hv⟩
 case hloc1 =>
  exact ⟨⟨⟨⟨⟨⟨trivial, (fun γ γ' h => ⟨rfl, fun _ => rfl⟩)⟩, (fun γ γ' h => ⟨rfl, fun _ => rfl⟩)⟩, (fun γ γ' h => ⟨rfl, fun _ => rfl⟩)⟩, (fun γ γ' h => ⟨rfl, fun _ => rfl⟩)⟩, (fun γ γ' h => ⟨h 4 rfl, fun w' => (congrArg (fun a => NatV w' (a) N) (h 4 rfl))⟩)⟩, (fun γ γ' h => ⟨h 5 rfl, fun w' => (congrArg (fun a => NatV w' (a) N) (h 5 rfl))⟩)⟩
 case hmono1 =>
  exact ⟨⟨⟨⟨⟨⟨trivial, (fun γ wA w' e h => h)⟩, (fun γ wA w' e h => h)⟩, (fun γ wA w' e h => h)⟩, (fun γ wA w' e h => h)⟩, (fun γ wA w' e h => (show NatV wA (γ 4) N from h).ext e)⟩, (fun γ wA w' e h => (show NatV wA (γ 5) N from h).ext e)⟩
 intro γ w1 hx1 hF
 have p4 : NatV w1 (γ 4) N := Each.get hF 4 (by decide)
 have p5 : NatV w1 (γ 5) N := Each.get hF 5 (by decide)
 clear hF
 simp only [fillAll, gV, kv, List.getD_cons_zero, List.getD_cons_succ, Act.put, List.setIfInBounds_toArray, List.set_cons_zero, List.set_cons_succ, List.toList_toArray, List.drop_succ_cons, List.drop_zero, List.drop_nil, Nat.zero_add, Nat.reduceAdd]
 generalize γ 4 = g4 at *
 generalize γ 5 = g5 at *
 clear γ
 go_wp2_with fail
 refine Calls.mono (signed_z x neg _ N _ w1 Hx.out (p5.num (Nat.le_refl _))) ?_
 rintro e w2 ⟨r, rfl, hr, hx2⟩
 obtain ⟨b, A2, n2, c2, rfl⟩ := hr.cells
 replace hx1 := hx1.trans hx2
 have hc1 := hx1.cells
 have hf1 := hx1.frozens
 have Hfin := Lib.hid (fin_z hr hx1.a2 (NoDig.at_ hx1 (g := w.heap.size + 1) (by simp) (by simp [isDig])) (by omega))
 clear hr p4 p5
 go_wp2
 refine bodyPost_ret (v := .agg #[.bool b, .slice A2 n2 c2]) (by simp [results, Tryd.results49, go_sem, hc1]) rfl ?_
 exact Hfin.out
theorem neg_z (v : Value) (x : Int) (w : World) (hv : HasZ w v x) : Calls Tryd.prog 24 #[v] w (Gives w fun r w' => IsZ w' r (-x)) := by
 obtain ⟨neg, A, n, c, N, rfl, h1, h2, h3, hN, hx⟩ := hv.form
 have HN := Lib.hid hN; clear hN hv
 have Hx := Lib.hid (show -x = if (!neg) = true then -(N : Int) else N by rw [hx]; cases neg <;> simp); clear hx
 have hs : sz N ≤ n := HN.out.sz
 go_enter Tryd.func24, Tryd.ntmps24
 go_wp2_with fail
 refine wp_region_par (k := 7) (D := [3, 4, 5, 6, 7, 8, 9]) (T := [[], [0], [0, 1], [], [3], [3, 4], [3, 4, 5], [0, 1, 2, 3, 4, 5, 6], [0, 1, 2, 3, 4, 5, 6, 7]]) (EK := [1]) (EV := [?e2x0]) (VL := [(kv ?v2x0), (kv ?v2x1), (kv ?v2x2), (kv ?v2x3), (kv ?v2x4), (fun γ => γ 5), (fun γ => γ 6)]) (FL := fun γ w' => [True, True, True, True, True, NatV w' (γ 5) N, NatV w' (γ 6) N]) ?hE2 (by kernel_rfl) (by kernel_rfl) (by rfl) (by kernel_rfl) ?hloc2 ?hmono2 ?hstep2 ?htail2
 case hE2 => refine ⟨?_, trivial⟩ <;> (simp only [List.getElem?_toArray, List.getElem?_cons_succ, List.getElem?_cons_zero]; rfl)
 case hstep2 =>
  refine ⟨⟨⟨⟨⟨⟨⟨trivial, ?_⟩, ?_⟩, ?_⟩, ?_⟩, ?_⟩, ?_⟩, ?_⟩
  iterate 5 focus
   intro γ w' he hf; clear hf; refine ⟨by trivial, ?_⟩; intro R hR; have hc := he.cells
   go_simp; (try go_ints); (try (rw [if_neg (by omega)])); (try (rw [if_pos (by omega)])); (try go_simp); (try go_ints)
   refine hR _ _ (Ext.refl _) ?_ trivial; rfl
  ·intro γ w' he hf; clear hf; refine ⟨trivial, ?_⟩; intro R hR
   go_simp
   refine Calls.mono (show Calls _ _ _ w' (Gives w' fun r w'' => NatV w'' (r) N) from trimmed_num _ N n w' (HN.out.ext he.a2)) ?_
   rintro e w2 ⟨v, rfl, hv, hx⟩
   exact ⟨v, rfl, hR v w2 hx rfl hv⟩
  ·intro γ w' he hf; have f5 : NatV w' (γ 5) N := hf 5 (by decide); clear hf; refine ⟨trivial, ?_⟩; intro R hR
   go_simp
   refine Calls.mono (show Calls _ _ _ w' (Gives w' fun r w'' => NatV w'' (r) N) from clone_nat _ N w' f5 (by omega)) ?_
   rintro e w2 ⟨v, rfl, hv, hx⟩
   exact ⟨v, rfl, hR v w2 hx rfl hv⟩
 case hloc2 =>
  exact ⟨⟨⟨⟨⟨⟨⟨trivial, (fun γ γ' h => ⟨rfl, fun _ => rfl⟩)⟩, (fun γ γ' h => ⟨rfl, fun _ => rfl⟩)⟩, (fun γ γ' h => ⟨rfl, fun _ => rfl⟩)⟩, (fun γ γ' h => ⟨rfl, fun _ => rfl⟩)⟩, (fun γ γ' h => ⟨rfl, fun _ => rfl⟩)⟩, (fun γ γ' h => ⟨h 5 rfl, fun w' => (congrArg (fun a => NatV w' (a) N) (h 5 rfl))⟩)⟩, (fun γ γ' h => ⟨h 6 rfl, fun w' => (congrArg (fun a => NatV w' (a) N) (h 6 rfl))⟩)⟩
 case hmono2 =>
  exact ⟨⟨⟨⟨⟨⟨⟨trivial, (fun γ wA w' e h => h)⟩, (fun γ wA w' e h => h)⟩, (fun γ wA w' e h => h)⟩, (fun γ wA w' e h => h)⟩, (fun γ wA w' e h => h)⟩, (fun γ wA w' e h => (show NatV wA (γ 5) N from h).ext e)⟩, (fun γ wA w' e h => (show NatV wA (γ 6) N from h).ext e)⟩
 intro γ w1 hx1 hF
 have p5 : NatV w1 (γ 5) N := Each.get hF 5 (by decide)
 have p6 : NatV w1 (γ 6) N := Each.get hF 6 (by decide)
 clear hF
 simp only [fillAll, gV, kv, List.getD_cons_zero, List.getD_cons_succ, Act.put, List.setIfInBounds_toArray, List.set_cons_zero, List.set_cons_succ, List.toList_toArray, List.drop_succ_cons, List.drop_zero, List.drop_nil, Nat.zero_add, Nat.reduceAdd]
 generalize γ 5 = g5 at *
 generalize γ 6 = g6 at *
 clear γ
 go_wp2_with fail
 refine Calls.mono (signed_z (-x) (!neg) _ N _ w1 Hx.out (p6.num (Nat.le_refl _))) ?_
 rintro e w2 ⟨r, rfl, hr, hx2⟩
 obtain ⟨b, A2, n2, c2, rfl⟩ := hr.cells
 replace hx1 := hx1.trans hx2
 have hc1 := hx1.cells
 have hf1 := hx1.frozens
 have Hfin := Lib.hid (fin_z hr hx1.a2 (NoDig.at_ hx1 (g := w.heap.size + 1) (by simp) (by simp [isDig])) (by omega))
 clear hr p5 p6
 go_wp2
 refine bodyPost_ret (v := .agg #[.bool b, .slice A2 n2 c2]) (by simp [results, Tryd.results24, go_sem, hc1]) rfl ?_
 exact Hfin.out
theorem wrap_neg {x : Int} (h1 : -9223372036854775808 ≤ x) (h2 : x < 0) : IntKind.u64.wrap (-IntKind.u64.wrap x) = (x.natAbs : Nat) := by
 simp [IntKind.wrap, IntKind.bits, IntKind.signed]; omega
theorem wrap_pos {x : Int} (h1 : 0 ≤ x) (h2 : x < 9223372036854775808) : IntKind.u64.wrap x = (x.natAbs : Nat) := by
 simp [IntKind.wrap, IntKind.bits, IntKind.signed]; omega
theorem of_z (x : Int) (w : World) (h1 : -9223372036854775808 ≤ x) (h2 : x < 9223372036854775808) : Calls Tryd.prog 23 #[.int .i64 x] w (Gives w fun r w' => IsZ w' r x) := by
 have hsz : sz x.natAbs ≤ 2 := sz_small2 (by omega)
 go_enter Tryd.func23, Tryd.ntmps23
 by_cases hneg : x < 0
 ·have hb : decide (x < 0) = true := by simpa using hneg
  go_wp2_with fail
  refine Calls.mono (wide_nat x.natAbs _ (wrap_neg h1 hneg) _ (by omega)) ?_
  rintro e w1 ⟨r, rfl, hr, hx1⟩
  go_wp2_with fail
  refine Calls.mono (signed_z x true _ x.natAbs _ w1 (by rw [if_pos rfl]; omega) (hr.num hsz)) ?_
  clear h1 h2
  rintro e w2 ⟨r2, rfl, hr2, hx2⟩
  obtain ⟨b, A2, n2, c2, rfl⟩ := hr2.cells
  replace hx1 := hx1.trans hx2
  have hc1 := hx1.cells
  have hf1 := hx1.frozens
  have Hfin := Lib.hid (fin_z hr2 hx1.a1 (NoDig.at_ hx1 rfl (by simp [isDig])) (by omega))
  clear hr hr2
  go_wp2
  refine bodyPost_ret (v := .agg #[.bool b, .slice A2 n2 c2]) (by simp [results, Tryd.results23, go_sem, hc1]) rfl ?_
  exact Hfin.out
 ·have hb : decide (x < 0) = false := by simpa using hneg
  go_wp2_with fail
  refine Calls.mono (wide_nat x.natAbs _ (by omega) _ (by omega)) ?_
  rintro e w1 ⟨r, rfl, hr, hx1⟩
  go_wp2_with fail
  refine Calls.mono (signed_z x false _ x.natAbs _ w1 (by rw [if_neg (by decide)]; omega) (hr.num hsz)) ?_
  clear h1 h2
  rintro e w2 ⟨r2, rfl, hr2, hx2⟩
  obtain ⟨b, A2, n2, c2, rfl⟩ := hr2.cells
  replace hx1 := hx1.trans hx2
  have hc1 := hx1.cells
  have hf1 := hx1.frozens
  have Hfin := Lib.hid (fin_z hr2 hx1.a1 (NoDig.at_ hx1 rfl (by simp [isDig])) (by omega))
  clear hr hr2
  go_wp2
  refine bodyPost_ret (v := .agg #[.bool b, .slice A2 n2 c2]) (by simp [results, Tryd.results23, go_sem, hc1]) rfl ?_
  exact Hfin.out
theorem sign_z (v : Value) (x : Int) (w : World) (hv : HasZ w v x) : Calls Tryd.prog 44 #[v] w (Gives w fun r _ => r = .int .i64 x.sign) := by
 obtain ⟨neg, A, n, c, N, rfl, h1, h2, h3, hN, hx⟩ := hv.form
 have HN := Lib.hid hN; clear hN hv
 have hs : sz N ≤ n := HN.out.sz
 go_enter Tryd.func44, Tryd.ntmps44
 go_wp2_with fail
 refine Calls.mono (trimmed_num _ N n _ (HN.out.ext ((Ext.refl w).alloc _))) ?_
 rintro e w1 ⟨r, rfl, hr, hx1⟩
 obtain ⟨A', c', rfl, q1, q2⟩ := hr.form
 clear hr
 have hc1 := hx1.cells
 by_cases h0 : N = 0
 ·have hb : (((sz N : Nat) : Int) == 0) = true := by subst h0; rfl
  have Hs := Lib.hid (show x.sign = 0 by subst h0; rw [hx]; cases neg <;> rfl); clear hx h0
  go_wp2
  go_ret
  exact Gives.mk (by rw [Hs.out]; rfl) hx1.a1
 ·have hp := sz_pos h0
  have hb : (((sz N : Nat) : Int) == 0) = false := by simp; omega
  have Hx := Lib.hid hx; clear hx
  have H0 := Lib.hid h0; clear h0
  cases neg
  ·have Hs := Lib.hid (show x.sign = 1 by rw [Hx.out]; exact Int.sign_eq_one_of_pos (by have := H0.out; simp; omega))
   go_wp2
   go_ret
   exact Gives.mk (by rw [Hs.out]; rfl) hx1.a1
  ·have Hs := Lib.hid (show x.sign = -1 by rw [Hx.out]; exact Int.sign_eq_neg_one_of_neg (by have := H0.out; simp; omega))
   go_wp2
   go_ret
   exact Gives.mk (by rw [Hs.out]; rfl) hx1.a1
end Go.Proofs.YtfacbpnegkjcgaaDoor
namespace Go.Proofs.YtfacbpnegkjcgaaDoor
open Go.RowKit Go.Hp
set_option maxHeartbeats 1000000 in
theorem add_in (v u : Value) (neg' : Bool) (x : Int) (M : Nat) (w : World) (hv : HasZ w v x) (hu : NatV w u M) (hM : sz M ≤ 1099511627776) :
  Calls Tryd.prog 57 #[v, .bool neg', u] w (Gives w fun r w' => IsZ w' r (x + if neg' then -(M : Int) else M)) := by
 obtain ⟨neg, A, n, c, N, rfl, h1, h2, h3, hN, hx⟩ := hv.form
 have HN := Lib.hid hN; have HU := Lib.hid hu
 clear hN hv hu
 have hs : sz N ≤ n := HN.out.sz
 obtain ⟨z, hz⟩ : ∃ z, z = x + if neg' then -(M : Int) else M := ⟨_, rfl⟩
 rw [← hz]
 have Hz := Lib.hid (And.intro hx hz); clear hx hz
 go_enter Tryd.func57, Tryd.ntmps57
 go_wp2_with fail
 refine Calls.mono (trimmed_num _ N n _ (HN.out.ext (((Ext.refl w).alloc _).alloc _))) ?_
 rintro e w1 ⟨r, rfl, hr, hx1⟩
 have hu1 : NatV w1 u M := HU.out.ext hx1.a2
 clear HU
 have Hr := Lib.hid (And.intro hr hu1); clear hr hu1
 by_cases hsg : neg = neg'
 ·subst hsg
  have hb : (neg == neg) = true := by simp
  have hc1 := hx1.cells
  have hf1 := hx1.frozens
  go_wp2_with fail
  refine Calls.mono (plus_num _ _ N M (sz N) (sz M) w1 (Hr.out.1.num (Nat.le_refl _)) (Hr.out.2.num (Nat.le_refl _)) (by omega) (by omega)) ?_
  rintro e w2 ⟨r2, rfl, hr2, hx2⟩
  clear hc1 hf1
  go_wp2_with fail
  refine Calls.mono (signed_z z neg _ (N + M) _ w2 (by rw [Hz.out.2, Hz.out.1]; cases neg <;> simp <;> omega) hr2) ?_
  rintro e w3 ⟨r3, rfl, hr3, hx3⟩
  obtain ⟨b, A2, n2, c2, rfl⟩ := hr3.cells
  replace hx1 := (hx1.trans hx2).trans hx3
  have hc1 := hx1.cells
  have hf1 := hx1.frozens
  have Hfin := Lib.hid (fin_z hr3 hx1.a2 (NoDig.at_ hx1 (g := w.heap.size + 1) (by simp) (by simp [isDig])) (by omega))
  clear hr3 hr2
  go_wp2
  refine bodyPost_ret (v := .agg #[.bool b, .slice A2 n2 c2]) (by simp [results, Tryd.results57, go_sem, hc1]) rfl ?_
  exact Hfin.out
 ·have hb : (neg == neg') = false := by simpa using hsg
  have hneg : neg' = !neg := by cases neg <;> cases neg' <;> simp_all
  subst hneg
  have hc1 := hx1.cells
  have hf1 := hx1.frozens
  clear hsg
  go_wp2_with fail
  refine Calls.mono (compare_nat _ _ N M w1 Hr.out.1 Hr.out.2 (by omega) (by omega)) ?_
  rintro e w2 ⟨r2, rfl, rfl, hx2⟩
  replace Hr := Lib.hid (And.intro (Hr.out.1.ext hx2) (Hr.out.2.ext hx2))
  replace hx1 := hx1.trans hx2
  clear hc1 hf1 hx2
  have hc1 := hx1.cells
  have hf1 := hx1.frozens
  by_cases hle : M ≤ N
  ·have hb2 : decide (cmp N M ≥ 0) = true := by
    rcases Nat.lt_or_eq_of_le hle with e | e
    ·rw [cmp_gt e]; rfl
    ·rw [cmp_eq e.symm]; rfl
   have hb3 : decide (0 ≤ cmp N M) = true := hb2
   have Hle := Lib.hid hle; clear hle
   go_wp2_with fail
   have hb0 := hx1.a1.box (i := 0) rfl rfl
   refine wp_region_par (k := 5) (D := [24, 25, 26, 27, 28]) (T := [[], [0], [], [], [2, 3], [0, 1, 2, 3, 4], [0, 1, 2, 3, 4, 5]]) (EK := [3, 7, 2]) (EV := [?e1x0, ?e1x1, ?e1x2]) (VL := [(kv ?v1x0), (kv ?v1x1), (kv ?v1x2), (kv ?v1x3), (fun γ => γ 4)]) (FL := fun γ w' => [True, True, True, True, NumV w' (γ 4) (N - M) (sz N)]) ?hE1 (by kernel_rfl) (by kernel_rfl) (by rfl) (by kernel_rfl) ?hloc1 ?hmono1 ?hstep1 ?htail1
   case hE1 => refine ⟨?_, ?_, ?_, trivial⟩ <;> (simp only [List.getElem?_toArray, List.getElem?_cons_succ, List.getElem?_cons_zero]; rfl)
   case hstep1 =>
    refine ⟨⟨⟨⟨⟨trivial, ?_⟩, ?_⟩, ?_⟩, ?_⟩, ?_⟩
    iterate 4 focus
     intro γ w' he hf; clear hf; refine ⟨by trivial, ?_⟩; intro R hR; have hc := he.cells
     have cq0 := he.cell hb0
     go_simp; (try go_ints); (try (rw [if_neg (by omega)])); (try (rw [if_pos (by omega)])); (try go_simp); (try go_ints)
     refine hR _ _ (Ext.refl _) ?_ trivial; rfl
    ·intro γ w' he hf; clear hf; refine ⟨trivial, ?_⟩; intro R hR
     go_simp
     refine Calls.mono (show Calls _ _ _ w' (Gives w' fun r w'' => NumV w'' (r) (N - M) (sz N)) from less_nat _ _ N M w' (Hr.out.1.ext he) (Hr.out.2.ext he) Hle.out (by omega)) ?_
     rintro e w2 ⟨v, rfl, hv, hx⟩
     exact ⟨v, rfl, hR v w2 hx rfl hv⟩
   case hloc1 =>
    exact ⟨⟨⟨⟨⟨trivial, (fun γ γ' h => ⟨rfl, fun _ => rfl⟩)⟩, (fun γ γ' h => ⟨rfl, fun _ => rfl⟩)⟩, (fun γ γ' h => ⟨rfl, fun _ => rfl⟩)⟩, (fun γ γ' h => ⟨rfl, fun _ => rfl⟩)⟩, (fun γ γ' h => ⟨h 4 rfl, fun w' => (congrArg (fun a => NumV w' (a) (N - M) (sz N)) (h 4 rfl))⟩)⟩
   case hmono1 =>
    exact ⟨⟨⟨⟨⟨trivial, (fun γ wA w' e h => h)⟩, (fun γ wA w' e h => h)⟩, (fun γ wA w' e h => h)⟩, (fun γ wA w' e h => h)⟩, (fun γ wA w' e h => (show NumV wA (γ 4) (N - M) (sz N) from h).ext e)⟩
   intro γ w3 hx3 hF
   have p4 : NumV w3 (γ 4) (N - M) (sz N) := Each.get hF 4 (by decide)
   clear hF
   simp only [fillAll, gV, kv, List.getD_cons_zero, List.getD_cons_succ, Act.put, List.setIfInBounds_toArray, List.set_cons_zero, List.set_cons_succ, List.toList_toArray, List.drop_succ_cons, List.drop_zero, List.drop_nil, Nat.zero_add, Nat.reduceAdd]
   generalize γ 4 = g4 at *
   clear γ
   go_wp2_with fail
   refine Calls.mono (signed_z z neg _ (N - M) _ w3 (by have := Hle.out; rw [Hz.out.2, Hz.out.1]; cases neg <;> simp <;> omega) p4) ?_
   rintro e w4 ⟨r3, rfl, hr3, hx4⟩
   obtain ⟨b, A2, n2, c2, rfl⟩ := hr3.cells
   replace hx1 := (hx1.trans hx3).trans hx4
   clear hc1 hf1
   have hc1 := hx1.cells
   have hf1 := hx1.frozens
   have Hfin := Lib.hid (fin_z hr3 hx1.a2 (NoDig.at_ hx1 (g := w.heap.size + 1) (by simp) (by simp [isDig])) (by omega))
   clear hr3 p4
   go_wp2
   refine bodyPost_ret (v := .agg #[.bool b, .slice A2 n2 c2]) (by simp [results, Tryd.results57, go_sem, hc1]) rfl ?_
   exact Hfin.out
  ·have hb2 : decide (0 ≤ cmp N M) = false := by rw [cmp_lt (by omega)]; rfl
   have Hle := Lib.hid hle; clear hle
   go_wp2_with fail
   refine Calls.mono (less_nat _ _ M N w2 Hr.out.2 Hr.out.1 (by have := Hle.out; omega) (by omega)) ?_
   rintro e w3 ⟨r2, rfl, hr2, hx3⟩
   clear hc1 hf1
   go_wp2_with fail
   refine Calls.mono (signed_z z (!neg) _ (M - N) _ w3 (by have := Hle.out; rw [Hz.out.2, Hz.out.1]; cases neg <;> simp <;> omega) hr2) ?_
   rintro e w4 ⟨r3, rfl, hr3, hx4⟩
   obtain ⟨b, A2, n2, c2, rfl⟩ := hr3.cells
   replace hx1 := (hx1.trans hx3).trans hx4
   have hc1 := hx1.cells
   have hf1 := hx1.frozens
   have Hfin := Lib.hid (fin_z hr3 hx1.a2 (NoDig.at_ hx1 (g := w.heap.size + 1) (by simp) (by simp [isDig])) (by omega))
   clear hr3 hr2
   go_wp2
   refine bodyPost_ret (v := .agg #[.bool b, .slice A2 n2 c2]) (by simp [results, Tryd.results57, go_sem, hc1]) rfl ?_
   exact Hfin.out
theorem add_z (v u : Value) (x y : Int) (w : World) (hv : HasZ w v x) (hu : HasZ w u y) : Calls Tryd.prog 30 #[v, u] w (Gives w fun r w' => IsZ w' r (x + y)) := by
 have Hv := Lib.hid hv
 obtain ⟨neg, A, n, c, N, rfl, h1, h2, h3, hN, hx⟩ := hv.form
 obtain ⟨neg', A', n', c', M, rfl, k1, k2, k3, kN, hy⟩ := hu.form
 have HN := Lib.hid kN; clear hN hv hu kN hx
 have hs : sz M ≤ n' := HN.out.sz
 have Hy := Lib.hid hy; clear hy
 go_enter Tryd.func30, Tryd.ntmps30
 go_wp2_with fail
 refine wp_region_par (k := 6) (D := [5, 6, 7, 8, 9, 10]) (T := [[], [], [1], [], [3], [3, 4], [0, 1, 2, 3, 4, 5], [0, 1, 2, 3, 4, 5, 6]]) (EK := [2, 3]) (EV := [?e2x0, ?e2x1]) (VL := [(kv ?v2x0), (kv ?v2x1), (kv ?v2x2), (kv ?v2x3), (kv ?v2x4), (fun γ => γ 5)]) (FL := fun γ w' => [True, True, True, True, True, NatV w' (γ 5) M]) ?hE2 (by kernel_rfl) (by kernel_rfl) (by rfl) (by kernel_rfl) ?hloc2 ?hmono2 ?hstep2 ?htail2
 case hE2 => refine ⟨?_, ?_, trivial⟩ <;> (simp only [List.getElem?_toArray, List.getElem?_cons_succ, List.getElem?_cons_zero]; rfl)
 case hstep2 =>
  refine ⟨⟨⟨⟨⟨⟨trivial, ?_⟩, ?_⟩, ?_⟩, ?_⟩, ?_⟩, ?_⟩
  iterate 5 focus
   intro γ w' he hf; clear hf; refine ⟨by trivial, ?_⟩; intro R hR; have hc := he.cells
   go_simp; (try go_ints); (try (rw [if_neg (by omega)])); (try (rw [if_pos (by omega)])); (try go_simp); (try go_ints)
   refine hR _ _ (Ext.refl _) ?_ trivial; rfl
  ·intro γ w' he hf; clear hf; refine ⟨trivial, ?_⟩; intro R hR
   go_simp
   refine Calls.mono (show Calls _ _ _ w' (Gives w' fun r w'' => NatV w'' (r) M) from trimmed_num _ M n' w' (HN.out.ext he.a3)) ?_
   rintro e w2 ⟨v, rfl, hv, hx⟩
   exact ⟨v, rfl, hR v w2 hx rfl hv⟩
 case hloc2 =>
  exact ⟨⟨⟨⟨⟨⟨trivial, (fun γ γ' h => ⟨rfl, fun _ => rfl⟩)⟩, (fun γ γ' h => ⟨rfl, fun _ => rfl⟩)⟩, (fun γ γ' h => ⟨rfl, fun _ => rfl⟩)⟩, (fun γ γ' h => ⟨rfl, fun _ => rfl⟩)⟩, (fun γ γ' h => ⟨rfl, fun _ => rfl⟩)⟩, (fun γ γ' h => ⟨h 5 rfl, fun w' => (congrArg (fun a => NatV w' (a) M) (h 5 rfl))⟩)⟩
 case hmono2 =>
  exact ⟨⟨⟨⟨⟨⟨trivial, (fun γ wA w' e h => h)⟩, (fun γ wA w' e h => h)⟩, (fun γ wA w' e h => h)⟩, (fun γ wA w' e h => h)⟩, (fun γ wA w' e h => h)⟩, (fun γ wA w' e h => (show NatV wA (γ 5) M from h).ext e)⟩
 intro γ w1 hx1 hF
 have p5 : NatV w1 (γ 5) M := Each.get hF 5 (by decide)
 clear hF
 simp only [fillAll, gV, kv, List.getD_cons_zero, List.getD_cons_succ, Act.put, List.setIfInBounds_toArray, List.set_cons_zero, List.set_cons_succ, List.toList_toArray, List.drop_succ_cons, List.drop_zero, List.drop_nil, Nat.zero_add, Nat.reduceAdd]
 generalize γ 5 = g5 at *
 clear γ
 go_wp2_with fail
 refine Calls.mono (add_in _ _ neg' x M w1 (Hv.out.ext hx1.a3) p5 (by omega)) ?_
 rintro e w2 ⟨r, rfl, hr, hx2⟩
 rw [← Hy.out] at hr
 obtain ⟨b, A2, n2, c2, rfl⟩ := hr.cells
 replace hx1 := hx1.trans hx2
 have hc1 := hx1.cells
 have hf1 := hx1.frozens
 have Hfin := Lib.hid (fin_z hr hx1.a3 (NoDig.at_ hx1 (g := w.heap.size + 2) (by simp) (by simp [isDig])) (by omega))
 clear hr p5
 go_wp2
 refine bodyPost_ret (v := .agg #[.bool b, .slice A2 n2 c2]) (by simp [results, Tryd.results30, go_sem, hc1]) rfl ?_
 exact Hfin.out
theorem mul_z (v u : Value) (x y : Int) (w : World) (hv : HasZ w v x) (hu : HasZ w u y) : Calls Tryd.prog 28 #[v, u] w (Gives w fun r w' => IsZ w' r (x * y)) := by
 obtain ⟨neg, A, n, c, N, rfl, h1, h2, h3, hN, hx⟩ := hv.form
 obtain ⟨neg', A', n', c', M, rfl, k1, k2, k3, kN, hy⟩ := hu.form
 have HN := Lib.hid hN; have HM := Lib.hid kN; clear hN hv hu kN
 have hs : sz N ≤ n := HN.out.sz
 have hs' : sz M ≤ n' := HM.out.sz
 have Hz := Lib.hid (show x * y = if (neg != neg') = true then -((N * M : Nat) : Int) else ((N * M : Nat) : Int) by rw [hx, hy]; cases neg <;> cases neg' <;> simp [Int.neg_mul, Int.mul_neg])
 clear hx hy
 go_enter Tryd.func28, Tryd.ntmps28
 go_wp2_with fail
 refine wp_region_par (k := 12) (D := [5, 6, 7, 8, 9, 10, 11, 12, 13, 14, 15, 16]) (T := [[], [0], [], [2], [0, 1, 2, 3], [], [5], [5, 6], [], [8], [5, 6, 7, 8, 9], [5, 6, 7, 8, 9, 10], [0, 1, 2, 3, 4, 5, 6, 7, 8, 9, 10, 11], [0, 1, 2, 3, 4, 5, 6, 7, 8, 9, 10, 11, 12]]) (EK := [2, 3]) (EV := [?e3x0, ?e3x1]) (VL := [(kv ?v3x0), (kv ?v3x1), (kv ?v3x2), (kv ?v3x3), (kv ?v3x4), (kv ?v3x5), (kv ?v3x6), (fun γ => γ 7), (kv ?v3x8), (kv ?v3x9), (fun γ => γ 10), (fun γ => γ 11)]) (FL := fun γ w' => [True, True, True, True, True, True, True, NatV w' (γ 7) N, True, True, NatV w' (γ 10) M, NumV w' (γ 11) (N * M) (sz N + sz M)]) ?hE3 (by kernel_rfl) (by kernel_rfl) (by rfl) (by kernel_rfl) ?hloc3 ?hmono3 ?hstep3 ?htail3
 case hE3 => refine ⟨?_, ?_, trivial⟩ <;> (simp only [List.getElem?_toArray, List.getElem?_cons_succ, List.getElem?_cons_zero]; rfl)
 case hstep3 =>
  refine ⟨⟨⟨⟨⟨⟨⟨⟨⟨⟨⟨⟨trivial, ?_⟩, ?_⟩, ?_⟩, ?_⟩, ?_⟩, ?_⟩, ?_⟩, ?_⟩, ?_⟩, ?_⟩, ?_⟩, ?_⟩
  iterate 7 focus
   intro γ w' he hf; clear hf; refine ⟨by trivial, ?_⟩; intro R hR; have hc := he.cells
   go_simp; (try go_ints); (try (rw [if_neg (by omega)])); (try (rw [if_pos (by omega)])); (try go_simp); (try go_ints)
   refine hR _ _ (Ext.refl _) ?_ trivial; rfl
  ·intro γ w' he hf; clear hf; refine ⟨trivial, ?_⟩; intro R hR
   go_simp
   refine Calls.mono (show Calls _ _ _ w' (Gives w' fun r w'' => NatV w'' (r) N) from trimmed_num _ N n w' (HN.out.ext he.a3)) ?_
   rintro e w2 ⟨v, rfl, hv, hx⟩
   exact ⟨v, rfl, hR v w2 hx rfl hv⟩
  iterate 2 focus
   intro γ w' he hf; clear hf; refine ⟨by trivial, ?_⟩; intro R hR; have hc := he.cells
   go_simp; (try go_ints); (try (rw [if_neg (by omega)])); (try (rw [if_pos (by omega)])); (try go_simp); (try go_ints)
   refine hR _ _ (Ext.refl _) ?_ trivial; rfl
  ·intro γ w' he hf; have f7 : NatV w' (γ 7) N := hf 7 (by decide); clear hf; refine ⟨trivial, ?_⟩; intro R hR
   go_simp
   refine Calls.mono (show Calls _ _ _ w' (Gives w' fun r w'' => NatV w'' (r) M) from trimmed_num _ M n' w' (HM.out.ext he.a3)) ?_
   rintro e w2 ⟨v, rfl, hv, hx⟩
   exact ⟨v, rfl, hR v w2 hx rfl hv⟩
  ·intro γ w' he hf; have f7 : NatV w' (γ 7) N := hf 7 (by decide); have f10 : NatV w' (γ 10) M := hf 10 (by decide); clear hf; refine ⟨trivial, ?_⟩; intro R hR
   go_simp
   refine Calls.mono (show Calls _ _ _ w' (Gives w' fun r w'' => NumV w'' (r) (N * M) (sz N + sz M)) from times_num _ _ N M (sz N) (sz M) w' (f7.num (Nat.le_refl _)) (f10.num (Nat.le_refl _)) (by omega) (by omega)) ?_
   rintro e w2 ⟨v, rfl, hv, hx⟩
   exact ⟨v, rfl, hR v w2 hx rfl hv⟩
 case hloc3 =>
  exact ⟨⟨⟨⟨⟨⟨⟨⟨⟨⟨⟨⟨trivial, (fun γ γ' h => ⟨rfl, fun _ => rfl⟩)⟩, (fun γ γ' h => ⟨rfl, fun _ => rfl⟩)⟩, (fun γ γ' h => ⟨rfl, fun _ => rfl⟩)⟩, (fun γ γ' h => ⟨rfl, fun _ => rfl⟩)⟩, (fun γ γ' h => ⟨rfl, fun _ => rfl⟩)⟩, (fun γ γ' h => ⟨rfl, fun _ => rfl⟩)⟩, (fun γ γ' h => ⟨rfl, fun _ => rfl⟩)⟩, (fun γ γ' h => ⟨h 7 rfl, fun w' => (congrArg (fun a => NatV w' (a) N) (h 7 rfl))⟩)⟩, (fun γ γ' h => ⟨rfl, fun _ => rfl⟩)⟩, (fun γ γ' h => ⟨rfl, fun _ => rfl⟩)⟩, (fun γ γ' h => ⟨h 10 rfl, fun w' => (congrArg (fun a => NatV w' (a) M) (h 10 rfl))⟩)⟩, (fun γ γ' h => ⟨h 11 rfl, fun w' => (congrArg (fun a => NumV w' (a) (N * M) (sz N + sz M)) (h 11 rfl))⟩)⟩
 case hmono3 =>
  exact ⟨⟨⟨⟨⟨⟨⟨⟨⟨⟨⟨⟨trivial, (fun γ wA w' e h => h)⟩, (fun γ wA w' e h => h)⟩, (fun γ wA w' e h => h)⟩, (fun γ wA w' e h => h)⟩, (fun γ wA w' e h => h)⟩, (fun γ wA w' e h => h)⟩, (fun γ wA w' e h => h)⟩, (fun γ wA w' e h => (show NatV wA (γ 7) N from h).ext e)⟩, (fun γ wA w' e h => h)⟩, (fun γ wA w' e h => h)⟩, (fun γ wA w' e h => (show NatV wA (γ 10) M from h).ext e)⟩, (fun γ wA w' e h => (show NumV wA (γ 11) (N * M) (sz N + sz M) from h).ext e)⟩
 intro γ w1 hx1 hF
 have p7 : NatV w1 (γ 7) N := Each.get hF 7 (by decide)
 have p10 : NatV w1 (γ 10) M := Each.get hF 10 (by decide)
 have p11 : NumV w1 (γ 11) (N * M) (sz N + sz M) := Each.get hF 11 (by decide)
 clear hF
 simp only [fillAll, gV, kv, List.getD_cons_zero, List.getD_cons_succ, Act.put, List.setIfInBounds_toArray, List.set_cons_zero, List.set_cons_succ, List.toList_toArray, List.drop_succ_cons, List.drop_zero, List.drop_nil, Nat.zero_add, Nat.reduceAdd]
 generalize γ 7 = g7 at *
 generalize γ 10 = g10 at *
 generalize γ 11 = g11 at *
 clear γ
 go_wp2_with fail
 refine Calls.mono (signed_z (x * y) (neg != neg') _ (N * M) _ w1 Hz.out p11) ?_
 rintro e w2 ⟨r, rfl, hr, hx2⟩
 obtain ⟨b, A2, n2, c2, rfl⟩ := hr.cells
 replace hx1 := hx1.trans hx2
 have hc1 := hx1.cells
 have hf1 := hx1.frozens
 have Hfin := Lib.hid (fin_z hr hx1.a3 (NoDig.at_ hx1 (g := w.heap.size + 2) (by simp) (by simp [isDig])) (by omega))
 clear hr p7 p10 p11
 go_wp2
 refine bodyPost_ret (v := .agg #[.bool b, .slice A2 n2 c2]) (by simp [results, Tryd.results28, go_sem, hc1]) rfl ?_
 exact Hfin.out
end Go.Proofs.YtfacbpnegkjcgaaDoor
namespace Go.Hp
open Go.RowKit
theorem Ext.a4 {w w' : World} {o p q r : Obj} (h : Ext ((((w.alloc o).alloc p).alloc q).alloc r) w') : Ext w w' := h.a1.a1.a1.a1
theorem fin_zz {w w1 : World} {g h n c n' c' : Nat} {A A' : Option Addr} {b b' : Bool} {x y : Int} (hx : IsZ w1 (.agg #[.bool b, .slice A n c]) x) (hy : IsZ w1 (.agg #[.bool b', .slice A' n' c']) y) (he : Ext w w1) (hn : NoDig w1 g) (hn' : NoDig w1 h) (hg : w.heap.size ≤ g) (hh : w.heap.size ≤ h) :
  IsZ ((((w1.setCell ⟨g, 0, none⟩ (.bool b)).setCell ⟨g, 1, none⟩ (.slice A n c)).setCell ⟨h, 0, none⟩ (.bool b')).setCell ⟨h, 1, none⟩ (.slice A' n' c')) (.agg #[.bool b, .slice A n c]) x ∧
  IsZ ((((w1.setCell ⟨g, 0, none⟩ (.bool b)).setCell ⟨g, 1, none⟩ (.slice A n c)).setCell ⟨h, 0, none⟩ (.bool b')).setCell ⟨h, 1, none⟩ (.slice A' n' c')) (.agg #[.bool b', .slice A' n' c']) y ∧
  Ext w ((((w1.setCell ⟨g, 0, none⟩ (.bool b)).setCell ⟨g, 1, none⟩ (.slice A n c)).setCell ⟨h, 0, none⟩ (.bool b')).setCell ⟨h, 1, none⟩ (.slice A' n' c')) := by
 have k := ((((KD.refl w1).set_ (i := 0) hn (.bool b)).set_ (i := 1) (hn.set_ rfl) (.slice A n c)).set_ (i := 0) ((hn'.set_ rfl).set_ rfl) (.bool b')).set_ (i := 1) (((hn'.set_ rfl).set_ rfl).set_ rfl) (.slice A' n' c')
 exact ⟨hx.kd k, hy.kd k, (((he.setCell _ _ hg).setCell _ _ hg).setCell _ _ hh).setCell _ _ hh⟩
theorem IsZ.zero (w : World) : IsZ w (.agg #[.bool false, .slice none 0 0]) 0 :=
 ⟨false, [], ⟨_, rfl, none, 0, rfl, by simp, by omega, Digs.nil, fun h => by simp at h⟩, rfl, fun h => absurd rfl h, fun h => by cases h⟩
theorem euclid {x q r : Int} {M : Nat} (s : Bool) (h0 : 0 ≤ r) (h1 : r < M) (h : x = M * q + r) :
  x / (if s then -(M : Int) else M) = (if s then -q else q) ∧ x % (if s then -(M : Int) else M) = r := by
 have hp : (0 : Int) < M := by omega
 have k := (Int.ediv_emod_unique hp (a := x) (r := r) (q := q)).2 ⟨by rw [h, Int.add_comm], h0, h1⟩
 cases s
 ·exact k
 ·simp only [if_true, Int.ediv_neg, Int.emod_neg]
  exact ⟨by rw [k.1], k.2⟩
theorem euclid_pos {N M : Nat} (s : Bool) (h : 0 < M) : (N : Int) / (if s then -(M : Int) else M) = (if s then -((N / M : Nat) : Int) else (N / M : Nat)) ∧ (N : Int) % (if s then -(M : Int) else M) = (N % M : Nat) :=
 euclid s (by omega) (by have := Nat.mod_lt N h; omega) (by have := Nat.div_add_mod N M; rw [← Int.natCast_mul]; omega)
theorem euclid_neg0 {N M : Nat} (s : Bool) (h : 0 < M) (h0 : N % M = 0) : (-(N : Int)) / (if s then -(M : Int) else M) = (if (!s) then -((N / M : Nat) : Int) else (N / M : Nat)) ∧ (-(N : Int)) % (if s then -(M : Int) else M) = (N % M : Nat) := by
 have := euclid (x := -(N : Int)) (q := -((N / M : Nat) : Int)) (r := (N % M : Nat)) (M := M) s (by omega) (by have := Nat.mod_lt N h; omega) (by have := Nat.div_add_mod N M; rw [Int.mul_neg, ← Int.natCast_mul]; omega)
 cases s <;> simpa using this
theorem euclid_neg {N M : Nat} (s : Bool) (h : 0 < M) (h0 : 0 < N % M) : (-(N : Int)) / (if s then -(M : Int) else M) = (if (!s) then -((N / M + 1 : Nat) : Int) else (N / M + 1 : Nat)) ∧ (-(N : Int)) % (if s then -(M : Int) else M) = (M - N % M : Nat) := by
 have hl := Nat.mod_lt N h
 have := euclid (x := -(N : Int)) (q := -((N / M + 1 : Nat) : Int)) (r := (M - N % M : Nat)) (M := M) s (by omega) (by omega) (by have := Nat.div_add_mod N M; rw [Int.mul_neg, ← Int.natCast_mul, Nat.mul_add]; omega)
 cases s <;> simpa using this
theorem NumV.unit (w : World) (t : TypeId) : NumV (w.alloc (.cells #[.int .u32 1] t)) (.slice (some ⟨w.heap.size, 0, none⟩) 1 1) 1 1 := by
 have h : DBlk (w.alloc (.cells #[.int .u32 1] t)) w.heap.size t [1] := heap_alloc_new w _
 exact ⟨[1], h.digv (by simp) (by simp) (by omega), by simp [nv_cons, nv_nil], by simp⟩
end Go.Hp
namespace Go.Proofs.YtfacbpnegkjcgaaDoor
open Go.RowKit Go.Hp
def DivZ (x y : Int) (r : Value) (w : World) : Prop := ∃ a b, r = .tuple #[a, b, .int .i64 (if y = 0 then 5 else 0)] ∧ IsZ w a (x / y) ∧ IsZ w b (if y = 0 then 0 else x % y)
set_option maxHeartbeats 2000000 in
theorem divmod_z (v u : Value) (x y : Int) (w : World) (hv : HasZ w v x) (hu : HasZ w u y) : Calls Tryd.prog 55 #[v, u] w (Gives w (DivZ x y)) := by
 obtain ⟨neg, A, n, c, N, rfl, h1, h2, h3, hN, hx⟩ := hv.form
 obtain ⟨neg', A', n', c', M, rfl, k1, k2, k3, kN, hy⟩ := hu.form
 have HN := Lib.hid hN; have HM := Lib.hid kN; clear hN hv hu kN
 have hs : sz N ≤ n := HN.out.sz
 have hs' : sz M ≤ n' := HM.out.sz
 have Hxy := Lib.hid (And.intro hx hy); clear hx hy
 go_enter Tryd.func55, Tryd.ntmps55
 go_wp2_with fail
 refine Calls.mono (trimmed_num _ M n' _ (HM.out.ext (((((Ext.refl w).alloc _).alloc _).alloc _).alloc _))) ?_
 rintro e w1 ⟨r, rfl, hr, hx1⟩
 obtain ⟨A3, c3, rfl, q1, q2⟩ := hr.form
 by_cases hM0 : M = 0
 ·have hb : (((sz M : Nat) : Int) == 0) = true := by subst hM0; rfl
  have Hy := Lib.hid (show y = 0 by rw [Hxy.out.2, hM0]; cases neg' <;> rfl); clear Hxy hM0
  have hc1 := hx1.cells
  have hf1 := hx1.frozens
  have Hfin := Lib.hid (fin_zz (IsZ.zero w1) (IsZ.zero w1) hx1.a4 (NoDig.at_ hx1.a1 (g := w.heap.size + 1 + 1) (by simp) (by simp [isDig])) (NoDig.at_ hx1 (g := w.heap.size + 1 + 1 + 1) (by simp) (by simp [isDig])) (by omega) (by omega))
  clear hr
  go_wp2
  refine bodyPost_ret (v := .tuple #[.agg #[.bool false, .slice none 0 0], .agg #[.bool false, .slice none 0 0], .int .i64 5]) (by simp [results, Tryd.results55, go_sem, hc1]) rfl ?_
  refine Gives.mk ⟨_, _, by rw [Hy.out]; rfl, ?_, ?_⟩ Hfin.out.2.2
  ·rw [Hy.out, Int.ediv_zero]; exact Hfin.out.1
  ·rw [Hy.out, if_pos rfl]; exact Hfin.out.2.1
 ·have hMp := sz_pos hM0
  have hb : (((sz M : Nat) : Int) == 0) = false := by simp; omega
  have Hr := Lib.hid hr; clear hr
  have H0 := Lib.hid hM0; clear hM0
  have hc1 := hx1.cells
  have hf1 := hx1.frozens
  go_wp2_with fail
  refine Calls.mono (trimmed_num _ N n w1 (HN.out.ext hx1.a4)) ?_
  rintro e w2 ⟨r, rfl, hr, hx2⟩
  clear hc1 hf1
  replace Hr := Lib.hid (Hr.out.ext hx2)
  replace hx1 := hx1.trans hx2; clear hx2
  go_wp2_with fail
  refine Calls.mono (divide_nat _ _ N M w2 hr Hr.out (by have := H0.out; omega) (by omega) (by omega)) ?_
  rintro e w3 ⟨r2, rfl, ⟨a, b, rfl, ha, hb'⟩, hx2⟩
  obtain ⟨A4, c4, rfl, d1, d2⟩ := hb'.form
  replace Hr := Lib.hid (Hr.out.ext hx2)
  replace hx1 := hx1.trans hx2; clear hx2 hr
  have hc1 := hx1.cells
  have hf1 := hx1.frozens
  have Hq := Lib.hid ha; have Hm := Lib.hid hb'
  clear ha hb'
  have HY := Lib.hid (show y ≠ 0 by have := H0.out; rw [Hxy.out.2]; cases neg' <;> simp <;> omega)
  cases neg
  ·have HE := Lib.hid (show x / y = (if neg' = true then -((N / M : Nat) : Int) else (N / M : Nat)) ∧ x % y = (if false = true then -((N % M : Nat) : Int) else (N % M : Nat)) by
    rw [Hxy.out.1, Hxy.out.2]; exact euclid_pos neg' (by have := H0.out; omega))
   go_wp2_with fail
   refine Calls.mono (signed_z (x / y) neg' _ (N / M) _ w3 HE.out.1 (Hq.out.num (Nat.le_refl _))) ?_
   rintro e w4 ⟨rq, rfl, hrq, hx3⟩
   obtain ⟨bq, Aq, nq, cq, rfl⟩ := hrq.cells
   go_wp2_with fail
   refine Calls.mono (signed_z (x % y) false _ (N % M) _ w4 HE.out.2 (NumV.ext (Hm.out.num (Nat.le_refl _)) hx3)) ?_
   rintro e w5 ⟨rr, rfl, hrr, hx4⟩
   obtain ⟨br, Ar, nr, cr, rfl⟩ := hrr.cells
   replace hrq := hrq.ext hx4
   replace hx1 := (hx1.trans hx3).trans hx4
   clear hc1 hf1 hx3 hx4
   have hc1 := hx1.cells
   have hf1 := hx1.frozens
   have Hfin := Lib.hid (fin_zz hrq hrr hx1.a4 (NoDig.at_ hx1.a1 (g := w.heap.size + 1 + 1) (by simp) (by simp [isDig])) (NoDig.at_ hx1 (g := w.heap.size + 1 + 1 + 1) (by simp) (by simp [isDig])) (by omega) (by omega))
   clear hrq hrr
   go_wp2
   refine bodyPost_ret (v := .tuple #[.agg #[.bool bq, .slice Aq nq cq], .agg #[.bool br, .slice Ar nr cr], .int .i64 0]) (by simp [results, Tryd.results55, go_sem, hc1]) rfl ?_
   exact Gives.mk ⟨_, _, by rw [if_neg HY.out], Hfin.out.1, by rw [if_neg HY.out]; exact Hfin.out.2.1⟩ Hfin.out.2.2
  ·by_cases hr0 : N % M = 0
   ·have HE := Lib.hid (show x / y = (if (!neg') = true then -((N / M : Nat) : Int) else (N / M : Nat)) ∧ x % y = (if false = true then -((N % M : Nat) : Int) else (N % M : Nat)) by
     rw [Hxy.out.1, Hxy.out.2]; exact euclid_neg0 neg' (by have := H0.out; omega) hr0)
    have hb2 : decide (0 < sz (N % M)) = false := by rw [hr0]; rfl
    clear hr0
    go_wp2_with fail
    refine Calls.mono (signed_z (x / y) (!neg') _ (N / M) _ w3 HE.out.1 (Hq.out.num (Nat.le_refl _))) ?_
    rintro e w4 ⟨rq, rfl, hrq, hx3⟩
    obtain ⟨bq, Aq, nq, cq, rfl⟩ := hrq.cells
    go_wp2_with fail
    refine Calls.mono (signed_z (x % y) false _ (N % M) _ w4 HE.out.2 (NumV.ext (Hm.out.num (Nat.le_refl _)) hx3)) ?_
    rintro e w5 ⟨rr, rfl, hrr, hx4⟩
    obtain ⟨br, Ar, nr, cr, rfl⟩ := hrr.cells
    replace hrq := hrq.ext hx4
    replace hx1 := (hx1.trans hx3).trans hx4
    clear hc1 hf1 hx3 hx4
    have hc1 := hx1.cells
    have hf1 := hx1.frozens
    have Hfin := Lib.hid (fin_zz hrq hrr hx1.a4 (NoDig.at_ hx1.a1 (g := w.heap.size + 1 + 1) (by simp) (by simp [isDig])) (NoDig.at_ hx1 (g := w.heap.size + 1 + 1 + 1) (by simp) (by simp [isDig])) (by omega) (by omega))
    clear hrq hrr
    go_wp2
    refine bodyPost_ret (v := .tuple #[.agg #[.bool bq, .slice Aq nq cq], .agg #[.bool br, .slice Ar nr cr], .int .i64 0]) (by simp [results, Tryd.results55, go_sem, hc1]) rfl ?_
    exact Gives.mk ⟨_, _, by rw [if_neg HY.out], Hfin.out.1, by rw [if_neg HY.out]; exact Hfin.out.2.1⟩ Hfin.out.2.2
   ·have HE := Lib.hid (show x / y = (if (!neg') = true then -((N / M + 1 : Nat) : Int) else (N / M + 1 : Nat)) ∧ x % y = (if false = true then -((M - N % M : Nat) : Int) else (M - N % M : Nat)) by
     rw [Hxy.out.1, Hxy.out.2]; exact euclid_neg neg' (by have := H0.out; omega) (by omega))
    have hb2 : decide (0 < sz (N % M)) = true := by have := sz_pos hr0; simpa using this
    clear hr0
    have hsq : sz (N / M) ≤ sz N := sz_mono (Nat.div_le_self _ _)
    go_wp2_with fail
    refine Calls.mono (plus_num _ _ (N / M) 1 (sz N) 1 _ ((Hq.out.ext ((Ext.refl w3).alloc _)).num hsq) (NumV.unit _ _) (by omega) (by omega)) ?_
    rintro e w4 ⟨r4, rfl, hr4, hx4⟩
    replace Hr := Lib.hid (Hr.out.ext hx4.a1)
    replace Hm := Lib.hid (Hm.out.ext hx4.a1)
    replace hx1 := hx1.trans hx4.a1
    clear hc1 hf1 hx4 hb2 Hq
    have hc1 := hx1.cells
    have hf1 := hx1.frozens
    go_wp2_with fail
    refine Calls.mono (less_nat _ _ M (N % M) w4 Hr.out Hm.out (Nat.le_of_lt (Nat.mod_lt _ (by have := H0.out; omega))) (by omega)) ?_
    rintro e w5 ⟨r5, rfl, hr5, hx5⟩
    replace hr4 := hr4.ext hx5
    replace hx1 := hx1.trans hx5
    clear hc1 hf1 hx5 Hr Hm
    have hc1 := hx1.cells
    have hf1 := hx1.frozens
    have Hr4 := Lib.hid hr4; have Hr5 := Lib.hid hr5; clear hr4 hr5
    go_wp2_with fail
    refine Calls.mono (signed_z (x / y) (!neg') _ (N / M + 1) _ w5 HE.out.1 Hr4.out) ?_
    rintro e w6 ⟨rq, rfl, hrq, hx3⟩
    obtain ⟨bq, Aq, nq, cq, rfl⟩ := hrq.cells
    go_wp2_with fail
    refine Calls.mono (signed_z (x % y) false _ (M - N % M) _ w6 HE.out.2 (NumV.ext Hr5.out hx3)) ?_
    rintro e w7 ⟨rr, rfl, hrr, hx4⟩
    obtain ⟨br, Ar, nr, cr, rfl⟩ := hrr.cells
    replace hrq := hrq.ext hx4
    replace hx1 := (hx1.trans hx3).trans hx4
    clear hc1 hf1 hx3 hx4
    have hc1 := hx1.cells
    have hf1 := hx1.frozens
    have Hfin := Lib.hid (fin_zz hrq hrr hx1.a4 (NoDig.at_ hx1.a1 (g := w.heap.size + 1 + 1) (by simp) (by simp [isDig])) (NoDig.at_ hx1 (g := w.heap.size + 1 + 1 + 1) (by simp) (by simp [isDig])) (by omega) (by omega))
    clear hrq hrr
    go_wp2
    refine bodyPost_ret (v := .tuple #[.agg #[.bool bq, .slice Aq nq cq], .agg #[.bool br, .slice Ar nr cr], .int .i64 0]) (by simp [results, Tryd.results55, go_sem, hc1]) rfl ?_
    exact Gives.mk ⟨_, _, by rw [if_neg HY.out], Hfin.out.1, by rw [if_neg HY.out]; exact Hfin.out.2.1⟩ Hfin.out.2.2
end Go.Proofs.YtfacbpnegkjcgaaDoor
namespace Go.Hp
open Go.RowKit
theorem DigV.uniq {w : World} {v : Value} {ds es : List Nat} (h : DigV w v ds) (k : DigV w v es) : ds = es := by
 obtain ⟨A, c, rfl, h1, _, h2⟩ := h
 obtain ⟨A', c', he, k1, _, k2⟩ := k
 have hl : ds.length = es.length := by have := congrArg (fun v => match v with | Value.slice _ n _ => n | _ => 0) he; simpa using this
 obtain rfl : A = A' := by have := congrArg (fun v => match v with | Value.slice p _ _ => p | _ => none) he; simpa using this
 apply List.ext_getElem hl
 intro i hi hi'
 obtain ⟨a, rfl, ha⟩ := h2.2 (by omega)
 obtain ⟨b, hb, hb'⟩ := k2.2 (by omega)
 cases hb
 have h1 := ha i hi
 have h2 := hb' i hi'
 rw [h1] at h2
 simp only [Option.some.injEq, Value.int.injEq, true_and] at h2
 omega
theorem NatV.uniq {w : World} {v : Value} {n m : Nat} (h : NatV w v n) (k : NatV w v m) : n = m := by
 obtain ⟨ds, h1, rfl, _⟩ := h
 obtain ⟨es, k1, rfl, _⟩ := k
 rw [h1.uniq k1]
open Classical in
/-- The number that a value reads as. -/
noncomputable def natOf (v : Value) (w : World) : Nat := if h : ∃ n, NatV w v n then h.choose else 0
theorem natOf_eq {w : World} {v : Value} {n : Nat} (h : NatV w v n) : natOf v w = n := by
 unfold natOf
 rw [dif_pos ⟨n, h⟩]
 exact NatV.uniq (Exists.choose_spec (p := fun n => NatV w v n) ⟨n, h⟩) h
end Go.Hp
namespace Go.Proofs.YtfacbpnegkjcgaaDoor
open Go.RowKit Go.Hp
theorem gcd_step (a b : Nat) : Nat.gcd b (a % b) = Nat.gcd a b := by rw [Nat.gcd_comm a b, Nat.gcd_rec b a, Nat.gcd_comm]
set_option maxHeartbeats 2000000 in
theorem common_nat (v u : Value) (N M : Nat) (w : World) (hv : NatV w v N) (hu : NatV w u M) (hN : sz N ≤ 1099511627776) (hM : sz M ≤ 1099511627776) :
  Calls Tryd.prog 58 #[v, u] w (Gives w fun r w' => NatV w' r (Nat.gcd N M)) := by
 have Hv := Lib.hid hv; have Hu := Lib.hid hu; clear hv hu
 obtain ⟨G, hG⟩ : ∃ G, G = Nat.gcd N M := ⟨_, rfl⟩
 rw [← hG]
 have HG := Lib.hid hG; clear hG
 go_enter Tryd.func58, Tryd.ntmps58
 go_wp2
 go_loopw [0, 1] (fun av bv wr => ∃ A B : Nat, NatV wr av A ∧ NatV wr bv B ∧ Nat.gcd A B = G ∧ sz A ≤ 1099511627776 ∧ sz B ≤ 1099511627776 ∧ Ext w wr) (fun _ bv wr => natOf bv wr)
 case atStart => exact ⟨N, M, Hv.out, Hu.out, HG.out.symm, hN, hM, Ext.refl _⟩
 case round =>
  obtain ⟨A, B, hA, hB, hAB, h1, h2, hx⟩ := hrel
  have HA := Lib.hid hA; have HB := Lib.hid hB; have HAB := Lib.hid hAB
  obtain ⟨p, c, rfl, _, _⟩ := hA.form
  obtain ⟨p', c', rfl, _, _⟩ := hB.form
  clear hA hB hAB
  by_cases hB0 : B = 0
  ·have hb : decide (0 < sz B) = false := by rw [hB0]; rfl
   have H0 := Lib.hid hB0; clear hB0
   go_wp2_with fail
   refine Calls.mono (clone_nat _ A _ HA.out (by omega)) ?_
   rintro e w1 ⟨r, rfl, hr, hx1⟩
   go_wp2
   go_ret
   have := HAB.out
   rw [H0.out, Nat.gcd_zero_right] at this
   exact Gives.mk (this ▸ hr) (hx.trans hx1)
  ·have hb : decide (0 < sz B) = true := by have := sz_pos hB0; simpa using this
   have H0 := Lib.hid hB0; clear hB0
   by_cases hsm : sz A ≤ 2 ∧ sz B ≤ 2
   ·have hb1 : decide (((sz A : Nat) : Int) ≤ 2) = true := by have := hsm.1; simp; omega
    have hb2 : decide (((sz B : Nat) : Int) ≤ 2) = true := by have := hsm.2; simp; omega
    have hA64 : A < 18446744073709551616 := by have := sz_le_iff.1 hsm.1; rwa [bp_two] at this
    have hB64 : B < 18446744073709551616 := by have := sz_le_iff.1 hsm.2; rwa [bp_two] at this
    clear hsm
    go_wp2_with fail
    refine Calls.mono (word_nat _ A _ HA.out hA64) ?_
    rintro e w1 ⟨r, rfl, rfl, hx1⟩
    go_wp2_with fail
    refine Calls.mono (word_nat _ B _ (HB.out.ext hx1) hB64) ?_
    rintro e w2 ⟨r, rfl, rfl, hx2⟩
    replace hx := (hx.trans hx1).trans hx2
    clear hx1 hx2
    go_wp2
    go_loopw [5, 6] (fun av bv wx => ∃ A' B' : Nat, av = .int .u64 A' ∧ bv = .int .u64 B' ∧ Nat.gcd A' B' = G ∧ A' < 18446744073709551616 ∧ B' < 18446744073709551616 ∧ Ext w wx) (fun _ bv _ => (intOf bv).toNat)
    case atStart => exact ⟨A, B, rfl, rfl, HAB.out, hA64, hB64, hx⟩
    case round =>
     obtain ⟨A', B', rfl, rfl, hg, k1, k2, hx'⟩ := hrel
     have Hg := Lib.hid hg; clear hg
     by_cases hB0 : B' = 0
     ·subst hB0
      go_wp2_with fail
      refine Calls.mono (wide_nat A' _ rfl _ k1) ?_
      rintro e w3 ⟨r, rfl, hr, hx3⟩
      go_wp2
      go_ret
      have := Hg.out
      rw [Nat.gcd_zero_right] at this
      exact Gives.mk (this ▸ hr) (hx'.trans hx3)
     ·have hp : (1 : Int) ≤ B' := by omega
      have hb : ((B' : Int) != 0) = true := by simp; omega
      go_wp2
      go_quiet (fail)
      go_wp2
      go_roundw
      case rel => exact ⟨B', A' % B', by simp, by simp, by rw [gcd_step, Hg.out], k2, by have := Nat.mod_lt A' (show 0 < B' by omega); omega, hx'.drewN _⟩
      case measure =>
       have := Nat.mod_lt A' (show 0 < B' by omega)
       simp only [intOf, Array.getD, Int.toNat_natCast] <;> simp <;> omega
   ·have hb1 : decide (((sz A : Nat) : Int) ≤ 2) = false ∨ (decide (((sz A : Nat) : Int) ≤ 2) = true ∧ decide (((sz B : Nat) : Int) ≤ 2) = false) := by
     by_cases q : sz A ≤ 2
     ·right; simp; omega
     ·left; simp; omega
    clear hsm
    rcases hb1 with hb1 | ⟨hb1, hb2⟩
    all_goals
     go_wp2_with fail
     refine Calls.mono (divide_nat _ _ A B wr HA.out HB.out (by have := H0.out; omega) (by omega) (by omega)) ?_
     rintro e w1 ⟨r, rfl, ⟨q, m, rfl, hq, hm⟩, hx1⟩
     have hlt := Nat.mod_lt A (show 0 < B by have := H0.out; omega)
     have hm1 := natOf_eq hm
     have hb1 := natOf_eq HB.out
     have hsz := sz_mono (Nat.le_of_lt hlt)
     have Hm := Lib.hid hm; clear hm
     go_wp2
     go_roundw
     case rel => exact ⟨B, A % B, HB.out.ext hx1, Hm.out, by rw [gcd_step, HAB.out], h2, by omega, hx.trans hx1⟩
     case measure => simpa [hm1, hb1] using hlt
end Go.Proofs.YtfacbpnegkjcgaaDoor
namespace Go.Proofs.YtfacbpnegkjcgaaDoor
open Go.RowKit Go.Hp
theorem gcd_z (v u : Value) (x y : Int) (w : World) (hv : HasZ w v x) (hu : HasZ w u y) : Calls Tryd.prog 35 #[v, u] w (Gives w fun r w' => IsZ w' r (Int.gcd x y : Nat)) := by
 obtain ⟨neg, A, n, c, N, rfl, h1, h2, h3, hN, hx⟩ := hv.form
 obtain ⟨neg', A', n', c', M, rfl, k1, k2, k3, kN, hy⟩ := hu.form
 have HN := Lib.hid hN; have HM := Lib.hid kN; clear hN hv hu kN
 have hs : sz N ≤ n := HN.out.sz
 have hs' : sz M ≤ n' := HM.out.sz
 have hg : Int.gcd x y = Nat.gcd N M := by unfold Int.gcd; rw [hx, hy]; cases neg <;> cases neg' <;> simp
 rw [hg]
 clear hx hy hg
 go_enter Tryd.func35, Tryd.ntmps35
 go_wp2_with fail
 refine wp_region_par (k := 5) (D := [5, 6, 7, 8, 9]) (T := [[], [0], [0, 1], [], [3], [0, 1, 2, 3, 4], [0, 1, 2, 3, 4, 5], [0, 1, 2, 3, 4, 5, 6], [0, 1, 2, 3, 4, 5, 6, 7]]) (EK := [2, 3]) (EV := [?e1x0, ?e1x1]) (VL := [(kv ?v1x0), (kv ?v1x1), (fun γ => γ 2), (kv ?v1x3), (kv ?v1x4)]) (FL := fun γ w' => [True, True, NatV w' (γ 2) N, True, True]) ?hE1 (by kernel_rfl) (by kernel_rfl) (by rfl) (by kernel_rfl) ?hloc1 ?hmono1 ?hstep1 ?htail1
 case hE1 => refine ⟨?_, ?_, trivial⟩ <;> (simp only [List.getElem?_toArray, List.getElem?_cons_succ, List.getElem?_cons_zero]; rfl)
 case hstep1 =>
  refine ⟨⟨⟨⟨⟨trivial, ?_⟩, ?_⟩, ?_⟩, ?_⟩, ?_⟩
  iterate 2 focus
   intro γ w' he hf; clear hf; refine ⟨by trivial, ?_⟩; intro R hR; have hc := he.cells
   go_simp; (try go_ints); (try (rw [if_neg (by omega)])); (try (rw [if_pos (by omega)])); (try go_simp); (try go_ints)
   refine hR _ _ (Ext.refl _) ?_ trivial; rfl
  ·intro γ w' he hf; clear hf; refine ⟨trivial, ?_⟩; intro R hR
   go_simp
   refine Calls.mono (show Calls _ _ _ w' (Gives w' fun r w'' => NatV w'' (r) N) from trimmed_num _ N n w' (HN.out.ext he.a3)) ?_
   rintro e w2 ⟨v, rfl, hv, hx⟩
   exact ⟨v, rfl, hR v w2 hx rfl hv⟩
  iterate 2 focus
   intro γ w' he hf; clear hf; refine ⟨by trivial, ?_⟩; intro R hR; have hc := he.cells
   go_simp; (try go_ints); (try (rw [if_neg (by omega)])); (try (rw [if_pos (by omega)])); (try go_simp); (try go_ints)
   refine hR _ _ (Ext.refl _) ?_ trivial; rfl
 case hloc1 =>
  exact ⟨⟨⟨⟨⟨trivial, (fun γ γ' h => ⟨rfl, fun _ => rfl⟩)⟩, (fun γ γ' h => ⟨rfl, fun _ => rfl⟩)⟩, (fun γ γ' h => ⟨h 2 rfl, fun w' => (congrArg (fun a => NatV w' (a) N) (h 2 rfl))⟩)⟩, (fun γ γ' h => ⟨rfl, fun _ => rfl⟩)⟩, (fun γ γ' h => ⟨rfl, fun _ => rfl⟩)⟩
 case hmono1 =>
  exact ⟨⟨⟨⟨⟨trivial, (fun γ wA w' e h => h)⟩, (fun γ wA w' e h => h)⟩, (fun γ wA w' e h => (show NatV wA (γ 2) N from h).ext e)⟩, (fun γ wA w' e h => h)⟩, (fun γ wA w' e h => h)⟩
 intro γ w1 hx1 hF
 have p2 : NatV w1 (γ 2) N := Each.get hF 2 (by decide)
 clear hF
 simp only [fillAll, gV, kv, List.getD_cons_zero, List.getD_cons_succ, Act.put, List.setIfInBounds_toArray, List.set_cons_zero, List.set_cons_succ, List.toList_toArray, List.drop_succ_cons, List.drop_zero, List.drop_nil, Nat.zero_add, Nat.reduceAdd]
 generalize γ 2 = g2 at *
 clear γ
 go_wp2_with fail
 refine Calls.mono (trimmed_num _ M n' w1 (HM.out.ext hx1.a3)) ?_
 rintro e w2 ⟨r2, rfl, hr2, hx2⟩
 replace p2 := p2.ext hx2
 replace hx1 := hx1.trans hx2
 clear hx2
 go_wp2_with fail
 refine Calls.mono (common_nat _ _ N M w2 p2 hr2 (by omega) (by omega)) ?_
 rintro e w3 ⟨r3, rfl, hr3, hx2⟩
 replace hx1 := hx1.trans hx2
 clear hx2 p2 hr2
 go_wp2_with fail
 refine Calls.mono (signed_z (Nat.gcd N M : Nat) false _ (Nat.gcd N M) _ w3 rfl (hr3.num (Nat.le_refl _))) ?_
 rintro e w4 ⟨r, rfl, hr, hx2⟩
 obtain ⟨b, A2, n2, c2, rfl⟩ := hr.cells
 replace hx1 := hx1.trans hx2
 have hc1 := hx1.cells
 have hf1 := hx1.frozens
 have Hfin := Lib.hid (fin_z hr hx1.a3 (NoDig.at_ hx1 (g := w.heap.size + 2) (by simp) (by simp [isDig])) (by omega))
 clear hr hr3
 go_wp2
 refine bodyPost_ret (v := .agg #[.bool b, .slice A2 n2 c2]) (by simp [results, Tryd.results35, go_sem, hc1]) rfl ?_
 exact Hfin.out
set_option maxHeartbeats 1000000 in
theorem exact_z (v u : Value) (x y : Int) (w : World) (hv : HasZ w v x) (hu : HasZ w u y) (h0 : y ≠ 0) (hd : y ∣ x) : Calls Tryd.prog 26 #[v, u] w (Gives w fun r w' => ∃ a, r = .tuple #[a, .int .i64 0] ∧ IsZ w' a (x / y)) := by
 have Hv := Lib.hid hv; have Hu := Lib.hid hu
 obtain ⟨neg, A, n, c, N, rfl, h1, h2, h3, hN, hx⟩ := hv.form
 obtain ⟨neg', A', n', c', M, rfl, k1, k2, k3, kN, hy⟩ := hu.form
 clear hN hx hv hu kN hy
 have H0 := Lib.hid h0; have Hd := Lib.hid hd; clear h0 hd
 go_enter Tryd.func26, Tryd.ntmps26
 go_wp2_with fail
 refine Calls.mono (divmod_z _ _ x y _ (Hv.out.ext ((((Ext.refl w).alloc _).alloc _).alloc _)) (Hu.out.ext ((((Ext.refl w).alloc _).alloc _).alloc _))) ?_
 rintro e w1 ⟨r, rfl, ⟨q, m, rfl, hq, hm⟩, hx1⟩
 rw [if_neg H0.out, Int.emod_eq_zero_of_dvd Hd.out] at hm
 rw [if_neg H0.out]
 obtain ⟨b, A1, n1, c1, rfl⟩ := hq.cells
 obtain ⟨A2, c2, rfl⟩ : ∃ A2 c2, m = .agg #[.bool false, .slice A2 0 c2] := by obtain ⟨A, c, e, _⟩ := hm.form; exact ⟨A, c, e⟩
 have Hq := Lib.hid hq; clear hq hm
 have hx2 := (hx1.alloc (Obj.cells #[Value.bool b, Value.slice A1 n1 c1] 28)).alloc (Obj.cells #[Value.bool false, Value.slice A2 0 c2] 28)
 have hc2 := hx2.cells
 have hf2 := hx2.frozens
 have Hfin := Lib.hid (fin_z (Hq.out.ext (((Ext.refl w1).alloc _).alloc _)) hx2.a3 (NoDig.at_ hx2 (g := w.heap.size + 1 + 1) (by simp) (by simp [isDig])) (by omega))
 have hc1 := hx1.cells
 have hf1 := hx1.frozens
 go_wp2
 refine bodyPost_ret (v := .tuple #[.agg #[.bool b, .slice A1 n1 c1], .int .i64 0]) (by simp [results, Tryd.results26, go_sem, hc2]) rfl ?_
 obtain ⟨r, e, hr, hx⟩ := Hfin.out
 cases e
 exact Gives.mk ⟨_, rfl, hr⟩ hx
end Go.Proofs.YtfacbpnegkjcgaaDoor
namespace Go.Hp
end Go.Hp
namespace Go.Proofs.YtfacbpnegkjcgaaDoor
open Go.RowKit Go.Hp
end Go.Proofs.YtfacbpnegkjcgaaDoor
namespace Go.Hp
open Go.RowKit
theorem ZsV.trim {base : Nat} {w : World} {A : Option Addr} {l : List Int} (h : ZsAt base w A l) {c : Nat} (hl : l.length ≤ c) (hc : c ≤ 9223372036854775807 := by omega) : ZsV base w (.slice A (trimR (zq l)).length c) (trimZ l) := by
 refine ⟨A, c, by rw [trimZ_len], by rw [trimZ_len]; have := trimZ_le l; omega, hc, RowAt.take h _⟩
theorem trimZ_take {l : List Int} {m : Nat} (hm : m ≤ l.length) (hz : ∀ j, m ≤ j → (h : j < l.length) → l[j] = 0) (hlast : ∀ h : m - 1 < l.length, 0 < m → l[m - 1] ≠ 0) : (trimR (zq l)).length = m := by
 have := trimR_take (l := zq l) (m := m) (by rw [zq_len]; exact hm) (fun j h1 h2 => by rw [zq_len] at h2; rw [zq_get h2, hz j h1 h2]; rfl) (fun h h0 => by
  rw [zq_len] at h; rw [zq_get h]; intro e; exact hlast h h0 (by exact_mod_cast e))
 rw [this, List.length_take, zq_len]; omega
theorem ZArr.isZP {base : Nat} {w : World} {g : Nat} {t : TypeId} {l : List Int} {F : Nat → Rat} (h : ZArr w g t l) (hF : cz l = F) (hb : base ≤ g) {c : Nat} (hc : l.length ≤ c) (hm : c ≤ 9223372036854775807) : IsZP base w (.slice (some ⟨g, 0, none⟩) (trimR (zq l)).length c) F :=
 IsZP.of_trim (ZsV.trim (h.row hb) hc hm) hF
theorem trimZ_pl (l : List Int) : (trimR (zq l)).length = pl (cz l) := by unfold cz; rw [← (topR_trim (zq l)).pl, co_trimR]
end Go.Hp
namespace Go.Proofs.YtfacbpnegkjcgaaDoor
open Go.RowKit Go.Hp
set_option maxHeartbeats 400000 in
/-- zpoly.trimmed: without the zeros at the end, in place. -/
theorem trimmed_zs (base : Nat) (A : Option Addr) (c : Nat) (l : List Int) (w : World) (hl : l.length ≤ c) (hc : c ≤ 9223372036854775807) (hA : ZsAt base w A l) :
  Calls Tryd.prog 31 #[.slice A l.length c] w fun e w' => e = .returned (.slice A (trimR (zq l)).length c) ∧ w = w' := by
 go_enter Tryd.func31, Tryd.ntmps31
 go_wp2
 go_loop [0] (fun v => ∃ m : Nat, m ≤ l.length ∧ v = .slice A m c ∧ ∀ j, m ≤ j → (h : j < l.length) → l[j] = 0) (fun v => match v with | .slice _ m _ => m | _ => 0)
 case atStart => exact ⟨l.length, Nat.le_refl _, rfl, fun j h1 h2 => by omega⟩
 case round =>
  obtain ⟨m, hm, rfl, hz⟩ := hrel
  by_cases h0 : 0 < m
  ·obtain ⟨m, rfl⟩ : ∃ k, m = k + 1 := ⟨m - 1, by omega⟩
   obtain ⟨g, o, b, A1, n, c1, rfl, hb, q0, q1, hq⟩ := hA.at_ (j := m) (by omega)
   have hn := hq.two.1
   by_cases hd0 : l[m]'(by omega) = 0
   ·have hb : (((n : Nat) : Int) == 0) = true := by rw [hn, hd0]; rfl
    clear hA hn
    go_wp2
    go_round
    case rel => exact ⟨m, by omega, rfl, fun j h1 h2 => by
     rcases Nat.eq_or_lt_of_le h1 with e | e
     ·subst e; exact hd0
     ·exact hz j (by omega) h2⟩
    case measure => simp
   ·have hb : (((n : Nat) : Int) == 0) = false := by
     have := sz_pos (n := l[m].natAbs) (by omega)
     rw [← hn] at this; simp; omega
    clear hA hn
    go_wp2
    go_ret
    have hlen := trimZ_take hm hz (fun h _ => by simpa using hd0)
    exact ⟨by rw [hlen]; rfl, rfl⟩
  ·obtain rfl : m = 0 := by omega
   go_wp2
   go_ret
   have hlen := trimZ_take hm hz (fun h hh => by omega)
   exact ⟨by rw [hlen]; rfl, rfl⟩
theorem info_int : (Tryd.prog.info? 28).map (fun i => (i.zero, i.size, i.bytes)) = some (some (.agg #[.bool false, .slice none 0 0]), 2, 32) := by kernel_rfl
theorem make_zs (n : Nat) (x : Int) (hx : x = n) (hn : n ≤ 1099511627776) (w : World) : ∃ W, (Instr.makeSlice 23 (.int .i64 x) (.int .i64 x)).run Tryd.prog w = .ok (.slice (some ⟨w.heap.size, 0, none⟩) n n) W ∧ ZArr W w.heap.size 28 (List.replicate n 0) ∧ Ext w W := by
 subst hx
 obtain ⟨i0, hi, hz0, hz1, hz2⟩ := info_parts info_int
 have h := run_make (P := Tryd.prog) w 23 28 i0 (.agg #[.bool false, .slice none 0 0]) Tryd.underlying23 hi hz0 .i64 .i64 (n : Int) (n : Int) (by omega) (by omega) (by rw [hz2]; omega) (by omega)
 rw [h, hz1, Int.toNat_natCast]
 exact ⟨_, rfl, ZArr.new w _ n, (Ext.refl w).alloc _⟩
theorem set_z {la m : List Int} {k n : Nat} (h : la = m.take k ++ List.replicate (n - k) 0) (hk : k < n) (hm : m.length = n) {q : Int} (hq : q = m[k]'(by omega)) : la.set k q = m.take (k + 1) ++ List.replicate (n - (k + 1)) 0 := by
 subst h
 have h1 : (m.take k).length = k := by simp; omega
 rw [List.set_append, if_neg (by rw [h1]; omega), h1, Nat.sub_self, show n - k = (n - (k + 1)) + 1 from by omega, List.replicate_succ, List.set_cons_zero, List.take_succ_eq_append_getElem (by omega), hq, List.append_assoc]
 rfl
set_option maxHeartbeats 1000000 in
theorem normal_zarr (v : Value) (l : List Int) (w : World) (hv : HzV 0 w v l) (hn : l.length ≤ 1099511627776) : Calls Tryd.prog 22 #[v] w (Gives w fun r w' => r = .slice (some ⟨w.heap.size, 0, none⟩) (trimR (zq l)).length l.length ∧ ZArr w' w.heap.size 28 l) := by
 obtain ⟨A, c, rfl, hl, hc, hA⟩ := hv
 obtain ⟨W0, hmk, ea, hx⟩ := make_zs l.length (l.length : Int) rfl hn w
 have HA : Hid (HzAt 0 w A l) := Lib.hid hA; clear hA
 go_enter Tryd.func22, Tryd.ntmps22
 go_wp2
 go_loopw [11] (fun iv wr => ∃ (k : Nat) (la : List Int), k ≤ l.length ∧ iv = .int .i64 k ∧ ZArr wr w.heap.size 28 la ∧ la.length = l.length ∧ la = l.take k ++ List.replicate (l.length - k) 0 ∧ Ext w wr) (fun iv _ => l.length - (intOf iv).toNat)
 case atStart => exact ⟨0, _, Nat.zero_le _, rfl, ea, by simp, by simp, hx⟩
 case round =>
  obtain ⟨k, la, hk, rfl, ea, hlen, hla, hx⟩ := hrel
  have Hla := Lib.hid hla; clear hla
  have Hlen := Lib.hid hlen; clear hlen
  by_cases hkl : k < l.length
  ·obtain ⟨g, o, b, A1, n, c1, rfl, _, q0, q1, hq⟩ := HA.out.at_ (j := k) hkl
   replace q0 := hx.cell q0
   replace q1 := hx.cell q1
   have Hq := Lib.hid hq; clear hq
   go_wp2_with fail
   refine Calls.mono (normal_z _ _ _ (Hq.out.kd (hx.alloc _).kd)) ?_
   rintro e w2 ⟨r, rfl, hr, hx2⟩
   replace ea := ea.ext hx2.a1
   replace hx := hx.trans hx2.a1
   clear hx2 q0 q1
   obtain ⟨b5, A5, n5, c5, rfl⟩ := hr.cells
   have hkla : k < la.length := by have := Hlen.out; omega
   obtain ⟨_, _, _, _, ca0, ca1, -⟩ := ea.at_ (j := k) (by first | omega | (simp; omega))
   have fa0 := ea.frozen (k * 2)
   have fa1 := ea.frozen (k * 2 + 1)
   go_wp2
   obtain ⟨W3, eW, ea', U⟩ := ea.put (k := k) (by first | omega | (simp; omega)) hr
   rw [← eW]
   clear eW ea
   replace hx := U.from_ hx (by simp <;> omega)
   have ea := ea'
   clear U ea'
   go_roundw
   case rel => exact ⟨k + 1, _, by omega, by go_num, ea, by simpa using Hlen.out, set_z Hla.out hkl rfl rfl, hx⟩
   case measure => simp [intOf]; omega
  ·obtain rfl : k = l.length := by omega
   replace ea : ZArr wr w.heap.size 28 l := by
    have := Hla.out
    rw [Nat.sub_self, List.replicate_zero, List.append_nil, List.take_of_length_le (Nat.le_refl _)] at this
    rw [← this]; exact ea
   have hrow := ea.row (Nat.le_refl _)
   go_wp2_with fail
   refine Calls.mono (trimmed_zs w.heap.size _ _ l _ (Nat.le_refl _) (by omega) hrow) ?_
   rintro e w2 ⟨rfl, rfl⟩
   go_wp2
   go_ret
   exact Gives.mk ⟨rfl, ea⟩ hx
theorem normal_zp (v : Value) (l : List Int) (w : World) (hv : HzV 0 w v l) (hn : l.length ≤ 1099511627776) : Calls Tryd.prog 22 #[v] w (Gives w fun r w' => IsZP w.heap.size w' r (cz l)) :=
 Gives.imp (normal_zarr v l w hv hn) fun _ _ ⟨e, h⟩ => by subst e; exact h.isZP rfl (Nat.le_refl _) (Nat.le_refl _) (by omega)
end Go.Proofs.YtfacbpnegkjcgaaDoor
namespace Go.Hp
open Go.RowKit
def BoxZ (w : World) (g : Nat) (t : TypeId) (x : Int) : Prop := ∃ b A n c, Box w g t #[.bool b, .slice A n c] ∧ IsZ w (.agg #[.bool b, .slice A n c]) x
theorem BoxZ.ext {w w' : World} {g : Nat} {t : TypeId} {x : Int} (h : BoxZ w g t x) (e : Ext w w') : BoxZ w' g t x := by
 obtain ⟨b, A, n, c, h1, h2⟩ := h; exact ⟨b, A, n, c, h1.ext e, h2.kd e.kd⟩
theorem BoxZ.lt {w : World} {g : Nat} {t : TypeId} {x : Int} (h : BoxZ w g t x) : g < w.heap.size := by obtain ⟨b, A, n, c, h1, h2⟩ := h; exact h1.lt
theorem BoxZ.upd {w w' : World} {g : Nat} {t : TypeId} {x : Int} {G : List Nat} (h : BoxZ w g t x) (U : Upd G w w') (hg : g ∉ G) : BoxZ w' g t x := by
 obtain ⟨b, A, n, c, h1, h2⟩ := h; exact ⟨b, A, n, c, h1.upd U hg, h2.kd U.kd⟩
theorem BoxZ.mk {w : World} {g : Nat} {t : TypeId} {x : Int} {b : Bool} {A : Option Addr} {n c : Nat} (h : Box w g t #[.bool b, .slice A n c]) (k : IsZ w (.agg #[.bool b, .slice A n c]) x) : BoxZ w g t x := ⟨b, A, n, c, h, k⟩
theorem BoxZ.zero {w : World} {g : Nat} {t : TypeId} (h : Box w g t #[.bool false, .slice none 0 0]) : BoxZ w g t 0 := ⟨_, _, _, _, h, isZ_zero w⟩
def ct : Nat → (Nat → Rat) → Nat
 | 0, _ => 0
 | n + 1, F => Int.gcd (ct n F) (F n).num
theorem ct_succ (n : Nat) (F : Nat → Rat) : ct (n + 1) F = Int.gcd (ct n F) (F n).num := rfl
theorem ct_dvd (F : Nat → Rat) : ∀ n i, i < n → (ct n F : Int) ∣ (F i).num
 | n + 1, i, h => by
  rw [ct_succ]
  rcases Nat.lt_or_ge i n with l | l
  ·exact Int.dvd_trans (Int.gcd_dvd_left _ _) (ct_dvd F n i l)
  ·obtain rfl : i = n := by omega
   exact Int.gcd_dvd_right _ _
theorem dvd_ct {F : Nat → Rat} {d : Int} : ∀ {n : Nat}, (∀ i, i < n → d ∣ (F i).num) → d ∣ (ct n F : Int)
 | 0, _ => ⟨0, by show ((0 : Nat) : Int) = _; simp⟩
 | n + 1, h => by rw [ct_succ]; exact Int.dvd_coe_gcd (dvd_ct fun i hi => h i (by omega)) (h n (by omega))
theorem ct_sup {F : Nat → Rat} {n m : Nat} (h : Sup n F) (k : n ≤ m) : ct m F = ct n F := by
 induction m with
 | zero =>
  obtain rfl : n = 0 := by omega
  rfl
 | succ m ih =>
  rcases Nat.eq_or_lt_of_le k with e | e
  ·rw [e]
  ·rw [ct_succ, h m (by omega), ih (by omega)]; simp
noncomputable def cn (F : Nat → Rat) : Nat := ct (pl F) F
theorem cn_eq {F : Nat → Rat} {n : Nat} (h : Sup n F) : cn F = ct n F := (ct_sup (pl_sup ⟨n, h⟩) (pl_le h)).symm
theorem cn_dvd {F : Nat → Rat} (h : Fin_ F) (i : Nat) : (cn F : Int) ∣ (F i).num := by
 rcases Nat.lt_or_ge i (pl F) with l | l
 ·exact ct_dvd F _ i l
 ·rw [pl_sup h i l]; exact ⟨0, by simp⟩
theorem dvd_cn {F : Nat → Rat} {d : Int} (h : ∀ i, d ∣ (F i).num) : d ∣ (cn F : Int) := dvd_ct fun i _ => h i
theorem cn_pz : cn pz = 0 := by unfold cn; rw [pl_pz]; rfl
theorem cn_ne {F : Nat → Rat} (hz : ZI F) (h : Fin_ F) (h0 : F ≠ pz) : cn F ≠ 0 := fun e => h0 (by
 funext i
 have := cn_dvd h i
 rw [e] at this
 have h1 : (F i).num = 0 := by simpa using this
 rw [hz.num i, h1]; rfl)
theorem cn_sz {F : Nat → Rat} {s : Nat} (h : ∀ i, qsz (F i) ≤ s) (n : Nat) : sz (ct n F) ≤ s := by
 induction n with
 | zero => show sz 0 ≤ s; rw [sz_zero]; exact Nat.zero_le _
 | succ n ih =>
  rw [ct_succ]
  by_cases h0 : ct n F = 0
  ·rw [h0]
   have := h n
   unfold qsz at this
   have e : Int.gcd ((0 : Nat) : Int) (F n).num = (F n).num.natAbs := by simp
   rw [e]; omega
  ·refine Nat.le_trans (sz_mono ?_) ih
   exact Nat.le_of_dvd (by omega) (by have := Int.gcd_dvd_left (ct n F : Int) (F n).num; exact Int.natCast_dvd_natCast.1 this)
noncomputable def pcn (F : Nat → Rat) : Int := if ld F < 0 then -(cn F : Int) else cn F
theorem pcn_dvd {F : Nat → Rat} (h : Fin_ F) (i : Nat) : pcn F ∣ (F i).num := by
 unfold pcn; split
 ·exact Int.neg_dvd.2 (cn_dvd h i)
 ·exact cn_dvd h i
theorem pcn_abs (F : Nat → Rat) : (pcn F).natAbs = cn F := by unfold pcn; split <;> simp
theorem pcn_ne {F : Nat → Rat} (hz : ZI F) (h : Fin_ F) (h0 : F ≠ pz) : pcn F ≠ 0 := fun e => cn_ne hz h h0 (by rw [← pcn_abs, e]; rfl)
noncomputable def pp (F : Nat → Rat) : Nat → Rat := psc (1 / (pcn F : Rat)) F
theorem pp_pz : pp pz = pz := psc_pz _
theorem pp_at {F : Nat → Rat} (hz : ZI F) (h : Fin_ F) (h0 : F ≠ pz) (i : Nat) : pp F i = (((F i).num / pcn F : Int) : Rat) := by
 obtain ⟨k, hk⟩ := pcn_dvd h i
 have hp := pcn_ne hz h h0
 have hp' : (pcn F : Rat) ≠ 0 := fun e => hp (by exact_mod_cast e)
 rw [hk, Int.mul_ediv_cancel_left _ hp]
 show 1 / (pcn F : Rat) * F i = _
 rw [hz.num i, hk, Rat.intCast_mul]
 grind
theorem pp_zi {F : Nat → Rat} (hz : ZI F) (h : Fin_ F) : ZI (pp F) := by
 by_cases h0 : F = pz
 ·rw [h0, pp_pz]; intro i; exact ⟨0, rfl⟩
 ·intro i; exact ⟨_, pp_at hz h h0 i⟩
theorem pp_fin {F : Nat → Rat} (h : Fin_ F) : Fin_ (pp F) := h.psc _
theorem pp_pl {F : Nat → Rat} (hz : ZI F) (h : Fin_ F) : pl (pp F) = pl F := by
 by_cases h0 : F = pz
 ·rw [h0, pp_pz]
 ·have hp' : (pcn F : Rat) ≠ 0 := fun e => pcn_ne hz h h0 (by exact_mod_cast e)
  exact pl_psc (inv_ne hp') h
theorem pp_ne {F : Nat → Rat} (hz : ZI F) (h : Fin_ F) (h0 : F ≠ pz) : pp F ≠ pz := fun e => h0 ((pl_zero h).1 (by rw [← pp_pl hz h, e, pl_pz]))
theorem pp_eq {F : Nat → Rat} (hz : ZI F) (h : Fin_ F) (h0 : F ≠ pz) : F = psc (pcn F : Rat) (pp F) := by
 have hp' : (pcn F : Rat) ≠ 0 := fun e => pcn_ne hz h h0 (by exact_mod_cast e)
 unfold pp
 rw [psc_psc, show (pcn F : Rat) * (1 / (pcn F : Rat)) = 1 from by grind, psc_one]
theorem sz_ediv {x y : Int} (hy : y ∣ x) : sz (x / y).natAbs ≤ sz x.natAbs := by
 obtain ⟨k, rfl⟩ := hy
 by_cases h : y = 0
 ·subst h; simp
 ·rw [Int.mul_ediv_cancel_left _ h, Int.natAbs_mul]
  exact sz_mono (Nat.le_mul_of_pos_left _ (by omega))
theorem pp_qsz {F : Nat → Rat} (hz : ZI F) (h : Fin_ F) {s : Nat} (hs : ∀ i, qsz (F i) ≤ s) (i : Nat) : qsz (pp F i) ≤ s := by
 by_cases h0 : F = pz
 ·rw [h0, pp_pz]; have := hs 0; rw [h0] at this; exact this
 ·rw [pp_at hz h h0, qsz_cast]
  have h1 := sz_ediv (pcn_dvd h i)
  have h2 := hs i
  have h3 := qsz_pos (F i)
  unfold qsz at h2 h3
  have : sz 1 = 1 := by decide
  have : 1 ≤ s := by have := hs i; have := qsz_pos (F i); omega
  omega
theorem lzf_get {n i : Nat} (F : Nat → Rat) (h : i < (lzf n F).length) : (lzf n F)[i] = (F i).num := by simp [lzf]
end Go.Hp
namespace Go.Hp
def tk (i : Nat) (L : Nat → Rat) (n : Nat) : Rat := if n < i then L n else 0
theorem tk_zero (L : Nat → Rat) : tk 0 L = pz := by funext n; unfold tk; rw [if_neg (by omega)]; rfl
theorem tk_succ (i : Nat) (L : Nat → Rat) : tk (i + 1) L = pad (tk i L) (mono i (L i)) := by
 funext n
 simp only [tk, pad]
 by_cases h : n = i
 ·subst h; rw [if_pos (by omega), if_neg (by omega), mono_at]; grind
 ·rw [mono_off h]
  by_cases h2 : n < i
  ·rw [if_pos (by omega), if_pos h2]; grind
  ·rw [if_neg (by omega), if_neg h2]; grind
theorem tk_all {n : Nat} {L : Nat → Rat} (h : Sup n L) : tk n L = L := by
 funext i; unfold tk
 by_cases hi : i < n
 ·rw [if_pos hi]
 ·rw [if_neg hi, h i (by omega)]
def mulG (i j : Nat) (L M : Nat → Rat) (n : Nat) : Rat := cv (tk i L) M n + (if i ≤ n ∧ n - i < j then L i * M (n - i) else 0)
theorem mulG_zero (i : Nat) (L M : Nat → Rat) : mulG i 0 L M = cv (tk i L) M := by
 funext n; unfold mulG; rw [if_neg (by omega)]; grind
theorem cv_tk (i : Nat) (L M : Nat → Rat) (n : Nat) : cv (tk (i + 1) L) M n = cv (tk i L) M n + (if i ≤ n then L i * M (n - i) else 0) := by
 rw [tk_succ, pad_cv, mono_cv]
 show _ + L i * sh i M n = _
 unfold sh
 by_cases h : n < i
 ·rw [if_pos h, if_neg (by omega)]; grind
 ·rw [if_neg h, if_pos (by omega)]
theorem mulG_full {i m : Nat} {L M : Nat → Rat} (h : Sup m M) : mulG i m L M = cv (tk (i + 1) L) M := by
 funext n; rw [cv_tk]; unfold mulG
 by_cases h1 : i ≤ n
 ·by_cases h2 : n - i < m
  ·rw [if_pos ⟨h1, h2⟩, if_pos h1]
  ·rw [if_neg (by omega), if_pos h1, h _ (by omega)]; grind
 ·rw [if_neg (by omega), if_neg h1]
theorem mulG_succ (i j : Nat) (L M : Nat → Rat) (n : Nat) : mulG i (j + 1) L M n = if n = i + j then mulG i j L M n + L i * M j else mulG i j L M n := by
 unfold mulG
 by_cases h : n = i + j
 ·subst h; rw [if_pos rfl, if_pos (by omega), if_neg (by omega), show i + j - i = j from by omega]; grind
 ·rw [if_neg h]
  by_cases h2 : i ≤ n ∧ n - i < j
  ·rw [if_pos h2, if_pos (by omega)]
  ·rw [if_neg h2, if_neg (by omega)]
theorem qsz_zero : qsz 0 = 1 := by decide
theorem cv_tk_qsz {s t : Nat} {L M : Nat → Rat} (hL : ∀ i, qsz (L i) ≤ s) (hM : ∀ i, qsz (M i) ≤ t) (i n : Nat) : qsz (cv (tk i L) M n) ≤ 1 + i * (s + t + 1) := by
 induction i with
 | zero => rw [tk_zero, pz_cv]; have : qsz (pz n) = 1 := qsz_zero; omega
 | succ i ih =>
  rw [cv_tk]
  split
  ·have h1 := qsz_add (cv (tk i L) M n) (L i * M (n - i))
   have h2 := qsz_mul (L i) (M (n - i))
   have := hL i; have := hM (n - i)
   rw [Nat.succ_mul]; omega
  ·have e : cv (tk i L) M n + 0 = cv (tk i L) M n := by grind
   rw [e, Nat.succ_mul]; omega
theorem mulG_qsz {s t : Nat} {L M : Nat → Rat} (hL : ∀ i, qsz (L i) ≤ s) (hM : ∀ i, qsz (M i) ≤ t) (i j n : Nat) : qsz (mulG i j L M n) ≤ 1 + (i + 1) * (s + t + 1) := by
 have h0 := cv_tk_qsz hL hM i n
 unfold mulG
 rw [Nat.succ_mul]
 split
 ·have h1 := qsz_add (cv (tk i L) M n) (L i * M (n - i))
  have h2 := qsz_mul (L i) (M (n - i))
  have := hL i; have := hM (n - i)
  omega
 ·have e : cv (tk i L) M n + 0 = cv (tk i L) M n := by grind
  rw [e]; omega
def full (N : Nat) (F : Nat → Rat) : List (Option Rat) := (List.range N).map fun i => some (F i)
theorem full_row (N : Nat) (F : Nat → Rat) : full N F = ((List.range N).map F).map some := by simp [full]
theorem range_len (N : Nat) (F : Nat → Rat) : ((List.range N).map F).length = N := by simp
end Go.Hp
namespace Go.Hp
def mx (j : Nat) (F' F : Nat → Rat) (i : Nat) : Rat := if i < j then F' i else F i
theorem mx_zero (F' F : Nat → Rat) : mx 0 F' F = F := by funext i; unfold mx; rw [if_neg (by omega)]
theorem mx_at (j : Nat) (F' F : Nat → Rat) : mx j F' F j = F j := by unfold mx; rw [if_neg (by omega)]
theorem mx_set {N j : Nat} (F' F : Nat → Rat) : (lzf N (mx j F' F)).set j (F' j).num = lzf N (mx (j + 1) F' F) := by
 apply List.ext_getElem
 ·simp [lzf]
 ·intro i h1 h2
  rw [List.getElem_set, lzf_get, lzf_get]
  unfold mx
  by_cases e : j = i
  ·subst e; rw [if_pos rfl, if_pos (by omega)]
  ·rw [if_neg e]
   by_cases e2 : i < j
   ·rw [if_pos e2, if_pos (by omega)]
   ·rw [if_neg e2, if_neg (by omega)]
theorem mx_all {N j : Nat} (h : N ≤ j) (F' F : Nat → Rat) : lzf N (mx j F' F) = lzf N F' := by
 apply List.ext_getElem
 ·simp [lzf]
 ·intro i h1 h2
  rw [lzf_get, lzf_get]; unfold mx
  rw [lzf_len] at h1
  rw [if_pos (by omega)]
theorem mx_all' {j : Nat} {F' F : Nat → Rat} (h : ∀ i, j ≤ i → F' i = F i) : mx j F' F = F' := by
 funext i; unfold mx; split
 ·rfl
 ·exact (h i (by omega)).symm
theorem mx_from {j : Nat} {F' F : Nat → Rat} (h : ∀ i, i < j → F' i = F i) : mx j F' F = F := by
 funext i; unfold mx; split
 ·exact h i (by omega)
 ·rfl
theorem ZI.psc {F : Nat → Rat} (h : ZI F) (a : Int) : ZI (psc (a : Rat) F) := fun i => by
 obtain ⟨n, e⟩ := h i; exact ⟨a * n, by show (a : Rat) * F i = _; rw [e, Rat.intCast_mul]⟩
theorem ZI.pad {F G : Nat → Rat} (h : ZI F) (k : ZI G) : ZI (pad F G) := fun i => by
 obtain ⟨n, e⟩ := h i; obtain ⟨m, e'⟩ := k i; exact ⟨n + m, by show F i + G i = _; rw [e, e', Rat.intCast_add]⟩
theorem ZI.psb {F G : Nat → Rat} (h : ZI F) (k : ZI G) : ZI (psb F G) := fun i => by
 obtain ⟨n, e⟩ := h i; obtain ⟨m, e'⟩ := k i; exact ⟨n - m, by show F i - G i = _; rw [e, e', Rat.intCast_sub]⟩
theorem ZI.pz : ZI pz := fun _ => ⟨0, rfl⟩
theorem ZI.sh {F : Nat → Rat} (h : ZI F) (k : Nat) : ZI (sh k F) := fun i => by
 unfold Hp.sh; split
 ·exact ⟨0, rfl⟩
 ·exact h _
theorem ZI.mono (k : Nat) (a : Int) : ZI (mono k (a : Rat)) := fun i => by
 unfold Hp.mono; split
 ·exact ⟨a, rfl⟩
 ·exact ⟨0, rfl⟩
theorem ZI.at_ {F : Nat → Rat} (h : ZI F) (i : Nat) : F i = ((F i).num : Rat) := h.num i
theorem num_add (a b : Int) : ((a : Rat) + (b : Rat)).num = a + b := by rw [← Rat.intCast_add]; rfl
theorem num_sub (a b : Int) : ((a : Rat) - (b : Rat)).num = a - b := by rw [← Rat.intCast_sub]; rfl
theorem num_mul (a b : Int) : ((a : Rat) * (b : Rat)).num = a * b := by rw [← Rat.intCast_mul]; rfl
theorem ZI.num_add {F G : Nat → Rat} (h : ZI F) (k : ZI G) (i j : Nat) : (F i + G j).num = (F i).num + (G j).num := by rw [h.num i, k.num j, Hp.num_add]; rfl
theorem ZI.num_sub {F G : Nat → Rat} (h : ZI F) (k : ZI G) (i j : Nat) : (F i - G j).num = (F i).num - (G j).num := by rw [h.num i, k.num j, Hp.num_sub]; rfl
theorem ZI.num_mul {F G : Nat → Rat} (h : ZI F) (k : ZI G) (i j : Nat) : (F i * G j).num = (F i).num * (G j).num := by rw [h.num i, k.num j, Hp.num_mul]; rfl
theorem qsz_subz {F G : Nat → Rat} (h : ZI F) (k : ZI G) (i j : Nat) : qsz (F i - G j) ≤ max (qsz (F i)) (qsz (G j)) + 1 := by
 rw [h.num i, k.num j, ← Rat.intCast_sub, qsz_cast, qsz_cast, qsz_cast]
 have h1 := sz_add (F i).num.natAbs (G j).num.natAbs
 have h2 := sz_mono (show ((F i).num - (G j).num).natAbs ≤ (F i).num.natAbs + (G j).num.natAbs by omega)
 omega
/-! ### pseudo-division -/
noncomputable def psR (F G : Nat → Rat) : Nat → Nat → Rat
 | 0 => F
 | k + 1 => psb (psc (ld G) (psR F G k)) (psc (psR F G k (pl F - 1 - k)) (sh (pl F - pl G - k) G))
noncomputable def psQ (F G : Nat → Rat) : Nat → Nat → Rat
 | 0 => pz
 | k + 1 => pad (psc (ld G) (psQ F G k)) (mono (pl F - pl G - k) (psR F G k (pl F - 1 - k)))
theorem psR_zi {F G : Nat → Rat} (hF : ZI F) (hG : ZI G) : ∀ k, ZI (psR F G k)
 | 0 => hF
 | k + 1 => by
  have ih := psR_zi hF hG k
  have h1 := hG.num (pl G - 1)
  have h2 := ih.num (pl F - 1 - k)
  unfold psR
  rw [show ld G = ((G (pl G - 1)).num : Rat) from h1, h2]
  exact (ih.psc _).psb ((hG.sh _).psc _)
theorem psQ_zi {F G : Nat → Rat} (hF : ZI F) (hG : ZI G) : ∀ k, ZI (psQ F G k)
 | 0 => ZI.pz
 | k + 1 => by
  have ih := psQ_zi hF hG k
  have h1 := hG.num (pl G - 1)
  have h2 := (psR_zi hF hG k).num (pl F - 1 - k)
  unfold psQ
  rw [show ld G = ((G (pl G - 1)).num : Rat) from h1, h2]
  exact (ih.psc _).pad (ZI.mono _ _)
theorem psR_sup {F G : Nat → Rat} (hF : Fin_ F) (hG : Fin_ G) (h0 : G ≠ pz) : ∀ k, k ≤ pl F + 1 - pl G → Sup (pl F - k) (psR F G k)
 | 0, _ => pl_sup hF
 | k + 1, hk => fun i hi => by
  have ih := psR_sup hF hG h0 k (by omega)
  have hp := pl_pos hG h0
  unfold psR
  show ld G * psR F G k i - psR F G k (pl F - 1 - k) * sh (pl F - pl G - k) G i = 0
  by_cases e : i = pl F - 1 - k
  ·subst e
   have : sh (pl F - pl G - k) G (pl F - 1 - k) = ld G := by
    unfold sh; rw [if_neg (by omega)]; show G _ = G _; congr 1; omega
   rw [this]; grind
  ·have h1 : psR F G k i = 0 := ih i (by omega)
   have h2 : sh (pl F - pl G - k) G i = 0 := by
    unfold sh; split
    ·rfl
    ·exact pl_sup hG _ (by omega)
   rw [h1, h2]; grind
theorem psQ_sup {F G : Nat → Rat} (h : pl G ≤ pl F) : ∀ k, k ≤ pl F + 1 - pl G → Sup (pl F + 1 - pl G) (psQ F G k) ∧ ∀ i, i + k < pl F + 1 - pl G → psQ F G k i = 0
 | 0, _ => ⟨Sup.pz _, fun _ _ => rfl⟩
 | k + 1, hk => by
  obtain ⟨h1, h2⟩ := psQ_sup h k (by omega)
  unfold psQ
  refine ⟨(h1.psc _).pad ((mono_sup _ _).mono (by omega)), fun i hi => ?_⟩
  show ld G * psQ F G k i + mono (pl F - pl G - k) _ i = 0
  rw [h2 i (by omega), mono_off (by omega)]; grind
theorem psQR_eq {F G : Nat → Rat} : ∀ k, psc (ld G ^ k) F = pad (cv (psQ F G k) G) (psR F G k)
 | 0 => by rw [Rat.pow_zero, psc_one]; unfold psQ psR; rw [pz_cv]; funext i; simp only [pad, pz]; grind
 | k + 1 => by
  have ih := psQR_eq (F := F) (G := G) k
  rw [show psQ F G (k + 1) = pad (psc (ld G) (psQ F G k)) (mono (pl F - pl G - k) (psR F G k (pl F - 1 - k))) from rfl, show psR F G (k + 1) = psb (psc (ld G) (psR F G k)) (psc (psR F G k (pl F - 1 - k)) (sh (pl F - pl G - k) G)) from rfl]
  generalize psR F G k (pl F - 1 - k) = a
  generalize psR F G k = P at ih ⊢
  generalize psQ F G k = Q at ih ⊢
  rw [pad_cv, mono_cv, psc_cv]
  generalize sh (pl F - pl G - k) G = H
  funext i
  have := congrFun ih i
  simp only [psc, pad, psb, Rat.pow_succ] at this ⊢
  generalize cv Q G i = u at this ⊢
  generalize P i = v at this ⊢
  generalize H i = y at this ⊢
  grind
theorem psR_end {F G : Nat → Rat} (hF : Fin_ F) (hG : Fin_ G) (h0 : G ≠ pz) : psQ F G (pl F + 1 - pl G) = psc (ld G ^ (pl F + 1 - pl G)) (pq F G) ∧ psR F G (pl F + 1 - pl G) = psc (ld G ^ (pl F + 1 - pl G)) (pr F G) := by
 have hp := pl_pos hG h0
 have e1 := psQR_eq (F := F) (G := G) (pl F + 1 - pl G)
 have hs : Sup (pl G - 1) (psR F G (pl F + 1 - pl G)) := by
  by_cases h : pl G ≤ pl F
  ·exact (psR_sup hF hG h0 _ (Nat.le_refl _)).mono (by omega)
  ·rw [show pl F + 1 - pl G = 0 from by omega]; exact (pl_sup hF).mono (by omega)
 have hq : Fin_ (psQ F G (pl F + 1 - pl G)) := by
  by_cases h : pl G ≤ pl F
  ·exact ⟨_, (psQ_sup h _ (Nat.le_refl _)).1⟩
  ·rw [show pl F + 1 - pl G = 0 from by omega]; exact Fin_.pz
 have d1 := div_eq (hF.psc (ld G ^ (pl F + 1 - pl G))) hG h0 hq e1 hs
 have d2 := div_eq (hF.psc (ld G ^ (pl F + 1 - pl G))) hG h0 ((pq_fin F G).psc (ld G ^ (pl F + 1 - pl G))) (R := psc (ld G ^ (pl F + 1 - pl G)) (pr F G)) (by
  rw [psc_cv]
  funext i
  have := congrFun (pq_pr F G) i
  simp only [psc, pad] at this ⊢
  rw [this]; grind) ((pr_sup hF hG h0).psc _)
 exact ⟨d1.1.trans d2.1.symm, d1.2.trans d2.2.symm⟩
theorem psR_qsz {F G : Nat → Rat} {s t : Nat} (hF : ZI F) (hG : ZI G) (hs : ∀ i, qsz (F i) ≤ s) (ht : ∀ i, qsz (G i) ≤ t) : ∀ k i, qsz (psR F G k i) ≤ s + k * (t + 1)
 | 0, i => by have := hs i; show qsz (F i) ≤ _; omega
 | k + 1, i => by
  have ih := psR_qsz hF hG hs ht k
  have hz := psR_zi hF hG k
  have h1 := hG.num (pl G - 1)
  have h2 := hz.num (pl F - 1 - k)
  have hA : ZI (psc (ld G) (psR F G k)) := by rw [show ld G = ((G (pl G - 1)).num : Rat) from h1]; exact hz.psc _
  have hB : ZI (psc (psR F G k (pl F - 1 - k)) (sh (pl F - pl G - k) G)) := by rw [h2]; exact (hG.sh _).psc _
  have h3 := qsz_subz hA hB i i
  have h4 : qsz (psc (ld G) (psR F G k) i) ≤ t + (s + k * (t + 1)) := by
   have a := qsz_mul (ld G) (psR F G k i); have b := ht (pl G - 1); have c := ih i
   show qsz (ld G * psR F G k i) ≤ _
   have : qsz (ld G) ≤ t := b
   omega
  have h5 : qsz (psc (psR F G k (pl F - 1 - k)) (sh (pl F - pl G - k) G) i) ≤ (s + k * (t + 1)) + t := by
   have a := qsz_mul (psR F G k (pl F - 1 - k)) (sh (pl F - pl G - k) G i); have c := ih (pl F - 1 - k)
   have b : qsz (sh (pl F - pl G - k) G i) ≤ t := by
    unfold sh; split
    ·have := ht 0; have h1 := qsz_pos (G 0); rw [qsz_zero]; omega
    ·exact ht _
   show qsz (psR F G k (pl F - 1 - k) * sh (pl F - pl G - k) G i) ≤ _
   omega
  unfold psR
  rw [Nat.succ_mul]
  show qsz (psc (ld G) (psR F G k) i - psc (psR F G k (pl F - 1 - k)) (sh (pl F - pl G - k) G) i) ≤ _
  omega
theorem psQ_qsz {F G : Nat → Rat} {s t : Nat} (hF : ZI F) (hG : ZI G) (hs : ∀ i, qsz (F i) ≤ s) (ht : ∀ i, qsz (G i) ≤ t) (h : pl G ≤ pl F) : ∀ k, k ≤ pl F + 1 - pl G → ∀ i, qsz (psQ F G k i) ≤ s + k * (t + 1)
 | 0, _, i => by have := hs i; have h1 := qsz_pos (F i); show qsz 0 ≤ _; rw [qsz_zero]; omega
 | k + 1, hk, i => by
  have ih := psQ_qsz hF hG hs ht h k (by omega)
  have h2 := (psQ_sup h k (by omega)).2
  have h3 := psR_qsz hF hG hs ht k (pl F - 1 - k)
  unfold psQ
  rw [Nat.succ_mul]
  show qsz (ld G * psQ F G k i + mono (pl F - pl G - k) _ i) ≤ _
  by_cases e : i = pl F - pl G - k
  ·subst e
   rw [h2 _ (by omega), mono_at, show ∀ x : Rat, ld G * 0 + x = x from fun x => by grind]
   omega
  ·rw [mono_off e, show ∀ x : Rat, x + 0 = x from fun x => by grind]
   have a := qsz_mul (ld G) (psQ F G k i); have b := ht (pl G - 1); have c := ih i
   have : qsz (ld G) ≤ t := b
   omega
end Go.Hp
namespace Go.Proofs.YtfacbpnegkjcgaaDoor
open Go.RowKit Go.Hp
theorem sub_z (v u : Value) (x y : Int) (w : World) (hv : HasZ w v x) (hu : HasZ w u y) : Calls Tryd.prog 54 #[v, u] w (Gives w fun r w' => IsZ w' r (x - y)) := by
 have Hv := Lib.hid hv
 obtain ⟨neg, A, n, c, N, rfl, h1, h2, h3, hN, hx⟩ := hv.form
 obtain ⟨neg', A', n', c', M, rfl, k1, k2, k3, kN, hy⟩ := hu.form
 have HN := Lib.hid kN; clear hN hv hu kN hx
 have hs : sz M ≤ n' := HN.out.sz
 have Hy := Lib.hid (show x + (if (!neg') = true then -(M : Int) else M) = x - y by rw [hy]; cases neg' <;> simp <;> omega); clear hy
 go_enter Tryd.func54, Tryd.ntmps54
 go_wp2_with fail
 refine wp_region_par (k := 7) (D := [5, 6, 7, 8, 9, 10, 11]) (T := [[], [], [1], [1, 2], [], [4], [4, 5], [0, 1, 2, 3, 4, 5, 6], [0, 1, 2, 3, 4, 5, 6, 7]]) (EK := [2, 3]) (EV := [?e1x0, ?e1x1]) (VL := [(kv ?v1x0), (kv ?v1x1), (kv ?v1x2), (kv ?v1x3), (kv ?v1x4), (kv ?v1x5), (fun γ => γ 6)]) (FL := fun γ w' => [True, True, True, True, True, True, NatV w' (γ 6) M]) ?hE1 (by kernel_rfl) (by kernel_rfl) (by rfl) (by kernel_rfl) ?hloc1 ?hmono1 ?hstep1 ?htail1
 case hE1 => refine ⟨?_, ?_, trivial⟩ <;> (simp only [List.getElem?_toArray, List.getElem?_cons_succ, List.getElem?_cons_zero]; rfl)
 case hstep1 =>
  refine ⟨⟨⟨⟨⟨⟨⟨trivial, ?_⟩, ?_⟩, ?_⟩, ?_⟩, ?_⟩, ?_⟩, ?_⟩
  iterate 6 focus
   intro γ w' he hf; clear hf; refine ⟨by trivial, ?_⟩; intro R hR; have hc := he.cells
   go_simp; (try go_ints); (try (rw [if_neg (by omega)])); (try (rw [if_pos (by omega)])); (try go_simp); (try go_ints)
   refine hR _ _ (Ext.refl _) ?_ trivial; rfl
  ·intro γ w' he hf; clear hf; refine ⟨trivial, ?_⟩; intro R hR
   go_simp
   refine Calls.mono (show Calls _ _ _ w' (Gives w' fun r w'' => NatV w'' (r) M) from trimmed_num _ M n' w' (HN.out.ext he.a3)) ?_
   rintro e w2 ⟨v, rfl, hv, hx⟩
   exact ⟨v, rfl, hR v w2 hx rfl hv⟩
 case hloc1 =>
  exact ⟨⟨⟨⟨⟨⟨⟨trivial, (fun γ γ' h => ⟨rfl, fun _ => rfl⟩)⟩, (fun γ γ' h => ⟨rfl, fun _ => rfl⟩)⟩, (fun γ γ' h => ⟨rfl, fun _ => rfl⟩)⟩, (fun γ γ' h => ⟨rfl, fun _ => rfl⟩)⟩, (fun γ γ' h => ⟨rfl, fun _ => rfl⟩)⟩, (fun γ γ' h => ⟨rfl, fun _ => rfl⟩)⟩, (fun γ γ' h => ⟨h 6 rfl, fun w' => (congrArg (fun a => NatV w' (a) M) (h 6 rfl))⟩)⟩
 case hmono1 =>
  exact ⟨⟨⟨⟨⟨⟨⟨trivial, (fun γ wA w' e h => h)⟩, (fun γ wA w' e h => h)⟩, (fun γ wA w' e h => h)⟩, (fun γ wA w' e h => h)⟩, (fun γ wA w' e h => h)⟩, (fun γ wA w' e h => h)⟩, (fun γ wA w' e h => (show NatV wA (γ 6) M from h).ext e)⟩
 intro γ w1 hx1 hF
 have p6 : NatV w1 (γ 6) M := Each.get hF 6 (by decide)
 clear hF
 simp only [fillAll, gV, kv, List.getD_cons_zero, List.getD_cons_succ, Act.put, List.setIfInBounds_toArray, List.set_cons_zero, List.set_cons_succ, List.toList_toArray, List.drop_succ_cons, List.drop_zero, List.drop_nil, Nat.zero_add, Nat.reduceAdd]
 generalize γ 6 = g6 at *
 clear γ
 go_wp2_with fail
 refine Calls.mono (add_in _ _ (!neg') x M w1 (Hv.out.ext hx1.a3) p6 (by omega)) ?_
 rintro e w2 ⟨r, rfl, hr, hx2⟩
 rw [Hy.out] at hr
 obtain ⟨b, A2, n2, c2, rfl⟩ := hr.cells
 replace hx1 := hx1.trans hx2
 have hc1 := hx1.cells
 have hf1 := hx1.frozens
 have Hfin := Lib.hid (fin_z hr hx1.a3 (NoDig.at_ hx1 (g := w.heap.size + 2) (by simp) (by simp [isDig])) (by omega))
 clear hr p6
 go_wp2
 refine bodyPost_ret (v := .agg #[.bool b, .slice A2 n2 c2]) (by simp [results, Tryd.results54, go_sem, hc1]) rfl ?_
 exact Hfin.out
end Go.Proofs.YtfacbpnegkjcgaaDoor
namespace Go.Hp
theorem HasZ.zero (w : World) : HasZ w (.agg #[.bool false, .slice none 0 0]) 0 := (isZ_zero w).has (by decide)
end Go.Hp
namespace Go.Proofs.YtfacbpnegkjcgaaDoor
open Go.RowKit Go.Hp
theorem scale1_z (v u : Value) (x a : Int) (gb : Nat) (b : Bool) (A : Option Addr) (n c : Nat) (w : World) (hv : HasZ w v x) (hu : HasZ w u 0) (h0 : w.cell? ⟨gb, 0, none⟩ = some (.bool b)) (h1 : w.cell? ⟨gb, 1, none⟩ = some (.slice A n c)) (ha : HasZ w (.agg #[.bool b, .slice A n c]) a) :
  Calls Tryd.prog 60 #[v, u, .pointer (some ⟨gb, 0, none⟩)] w (Gives w fun r w' => IsZ w' r (x * a)) := by
 have HV := Lib.hid hv; have HA := Lib.hid ha
 obtain ⟨b1, A1, n1, c1, rfl⟩ := hv.cells
 obtain ⟨b2, A2, n2, c2, rfl⟩ := hu.cells
 clear hv hu ha
 have k0 := fun o o' o'' => ((((Ext.refl w).alloc o).alloc o').alloc o'').cell h0
 have k1 := fun o o' o'' => ((((Ext.refl w).alloc o).alloc o').alloc o'').cell h1
 clear h0 h1
 go_enter Tryd.func60, Tryd.ntmps60
 go_wp2_with fail
 refine Calls.mono (mul_z _ _ x a _ (HV.out.ext ((((Ext.refl w).alloc _).alloc _).alloc _)) (HA.out.ext ((((Ext.refl w).alloc _).alloc _).alloc _))) ?_
 rintro e w1 ⟨r, rfl, hr, hx1⟩
 obtain ⟨b5, A5, n5, c5, rfl⟩ := hr.cells
 have hc1 := hx1.cells
 have hf1 := hx1.frozens
 have Hfin := Lib.hid (fin_z hr hx1.a3 (NoDig.at_ hx1 (g := w.heap.size + 2) (by simp) (by simp [isDig])) (by omega))
 clear hr
 go_wp2
 refine bodyPost_ret (v := .agg #[.bool b5, .slice A5 n5 c5]) (by simp [results, Tryd.results60, go_sem, hc1]) rfl ?_
 exact Hfin.out
set_option maxRecDepth 20000 in
set_option maxHeartbeats 4000000 in
theorem zmerge_scale (v : Value) (l : List Int) (a : Int) (gb : Nat) (bb0 : Bool) (B0 : Option Addr) (m0 d0 : Nat) (w : World) (hv : HzV 0 w v l) (k0 : w.cell? ⟨gb, 0, none⟩ = some (.bool bb0)) (k1 : w.cell? ⟨gb, 1, none⟩ = some (.slice B0 m0 d0)) (ha : HasZ w (.agg #[.bool bb0, .slice B0 m0 d0]) a) (hn : l.length ≤ 1099511627776) :
  Calls Tryd.prog 59 #[v, .slice none 0 0, .func (.func 60) #[] #[.pointer (some ⟨gb, 0, none⟩)]] w (Gives w fun r w' => IsZP w.heap.size w' r (psc (a : Rat) (cz l))) := by
 obtain ⟨A, c, rfl, hl, hc, hA⟩ := hv
 obtain ⟨N, hN⟩ : ∃ N, N = l.length := ⟨_, rfl⟩
 obtain ⟨W0, hmk, ea, hx⟩ := make_zs N (l.length : Int) (by omega) (by omega) w
 have hlN : l.length ≤ N := by omega
 have hN40 : N ≤ 1099511627776 := by omega
 have HN := Lib.hid hN; clear hN
 have HA : Hid (HzAt 0 w A l) := Lib.hid hA; clear hA
 have HC := Lib.hid (And.intro k0 (And.intro k1 ha)); clear k0 k1 ha
 obtain ⟨F, hF⟩ : ∃ F : Nat → Rat, F = psc (a : Rat) (cz l) := ⟨_, rfl⟩
 rw [← hF]
 have HZ := Lib.hid (show ZI F ∧ Sup N F from ⟨by rw [hF]; exact (ZI.cz l).psc a, by rw [hF]; exact ((cz_sup l).mono hlN).psc _⟩)
 have HF := Lib.hid hF; clear hF
 have HL := Lib.hid (lzf_len N F)
 go_enter Tryd.func59, Tryd.ntmps59
 go_wp2
 go_loopw [19] (fun iv wr => ∃ (k : Nat) (la : List Int), k ≤ N ∧ iv = .int .i64 k ∧ ZArr wr w.heap.size 28 la ∧ la.length = N ∧ la = (lzf N F).take k ++ List.replicate (N - k) 0 ∧ Ext w wr) (fun iv _ => N - (intOf iv).toNat)
 case atStart => exact ⟨0, _, Nat.zero_le _, rfl, ea, by simp, by simp, hx⟩
 case round =>
  obtain ⟨k, la, hk, rfl, ea, hlen, hla, hx⟩ := hrel
  have Hla := Lib.hid hla; clear hla
  have Hlen := Lib.hid hlen; clear hlen
  have hbk : k < N ∨ k = N := by omega
  rcases hbk with hkl | hkl
  ·have hk1 : k < l.length := by have := HN.out; omega
   have hk2 : ¬ (k : Int) < 0 := by omega
   obtain ⟨g, o, b, A1, n, c1, rfl, _, q0, q1, hq⟩ := HA.out.at_ (j := k) hk1
   replace q0 := fun o o' => (((Ext.refl wr).alloc o).alloc o').cell (hx.cell q0)
   replace q1 := fun o o' => (((Ext.refl wr).alloc o).alloc o').cell (hx.cell q1)
   have Hq := Lib.hid hq; clear hq
   go_wp2_with fail
   refine Calls.mono (scale1_z _ _ l[k] a gb bb0 B0 m0 d0 _ (Hq.out.ext ((hx.alloc _).alloc _)) (HasZ.zero _) (((hx.alloc _).alloc _).cell HC.out.1) (((hx.alloc _).alloc _).cell HC.out.2.1) (HC.out.2.2.ext ((hx.alloc _).alloc _))) ?_
   rintro e w2 ⟨r, rfl, hr, hx2⟩
   replace ea := ea.ext hx2.a2
   replace hx := hx.trans hx2.a2
   clear hx2
   obtain ⟨b5, A5, n5, c5, rfl⟩ := hr.cells
   have hkla : k < la.length := by have := Hlen.out; omega
   obtain ⟨_, _, _, _, ca0, ca1, -⟩ := ea.at_ (j := k) (by first | omega | (simp; omega))
   have fa0 := ea.frozen (k * 2)
   have fa1 := ea.frozen (k * 2 + 1)
   go_wp2
   obtain ⟨W3, eW, ea', U⟩ := ea.put (k := k) (by first | omega | (simp; omega)) hr
   rw [← eW]
   clear eW ea
   replace hx := U.from_ hx (by simp <;> omega)
   have ea := ea'
   clear U ea'
   go_roundw
   case rel => exact ⟨k + 1, _, by omega, by go_num, ea, by simpa using Hlen.out, set_z Hla.out hkl HL.out (by rw [lzf_get, HF.out]; show _ = ((a : Rat) * cz l k).num; rw [cz_lt hk1, num_mul, Int.mul_comm]), hx⟩
   case measure => simp [intOf]; omega
  ·obtain rfl : N = k := hkl.symm
   replace ea : ZArr wr w.heap.size 28 (lzf N F) := by
    have := Hla.out
    rw [Nat.sub_self, List.replicate_zero, List.append_nil, List.take_of_length_le (by rw [HL.out]; omega)] at this
    rw [← this]; exact ea
   have hrow := ea.row (Nat.le_refl _)
   have hT := trimmed_zs w.heap.size (some ⟨w.heap.size, 0, none⟩) N (lzf N F) wr (by rw [HL.out]; omega) (by omega) hrow
   rw [HL.out] at hT
   have Hrow := Lib.hid hrow; clear hrow
   go_wp2_with fail
   refine Calls.mono hT ?_
   rintro e w2 ⟨rfl, rfl⟩
   go_wp2
   go_ret
   exact Gives.mk (IsZP.of_trim (ZsV.trim Hrow.out (by rw [HL.out]; omega)) (cz_lzf HZ.out.1 HZ.out.2)) hx
theorem zscale_p (v u : Value) (l : List Int) (a : Int) (w : World) (hv : HzV 0 w v l) (hu : HasZ w u a) (hn : l.length ≤ 1099511627776) :
  Calls Tryd.prog 37 #[v, u] w (Gives w fun r w' => IsZP w.heap.size w' r (psc (a : Rat) (cz l))) := by
 have HV := Lib.hid hv; have HU := Lib.hid hu
 obtain ⟨A, c, rfl⟩ := hv.len
 obtain ⟨b1, A1, n1, c1, rfl⟩ := hu.cells
 clear hv hu
 have hb := Box.new w 28 #[.bool b1, .slice A1 n1 c1] (by simp [isDig])
 have HB := Lib.hid hb.cells2; clear hb
 go_enter Tryd.func37, Tryd.ntmps37
 go_wp2_with fail
 refine Calls.mono (zmerge_scale _ l a w.heap.size b1 A1 n1 c1 _ (HV.out.ext ((Ext.refl w).alloc _)) HB.out.1 HB.out.2 (HU.out.ext ((Ext.refl w).alloc _)) hn) ?_
 rintro e w1 ⟨r, rfl, hr, hx1⟩
 go_wp2
 go_ret
 exact Gives.mk (hr.base_le (by simp)) hx1.a1
end Go.Proofs.YtfacbpnegkjcgaaDoor
namespace Go.Hp
def dl : Nat → (Nat → Rat) → Nat
 | 0, _ => 1
 | n + 1, F => Nat.lcm (dl n F) (F n).den
theorem dl_succ (n : Nat) (F : Nat → Rat) : dl (n + 1) F = Nat.lcm (dl n F) (F n).den := rfl
theorem dl_pos (F : Nat → Rat) : ∀ n, 0 < dl n F
 | 0 => by show 0 < 1; omega
 | n + 1 => Nat.lcm_pos (dl_pos F n) (F n).den_pos
theorem dl_dvd (F : Nat → Rat) : ∀ n i, i < n → (F i).den ∣ dl n F
 | n + 1, i, h => by
  rw [dl_succ]
  rcases Nat.lt_or_ge i n with l | l
  ·exact Nat.dvd_trans (dl_dvd F n i l) (Nat.dvd_lcm_left _ _)
  ·obtain rfl : i = n := by omega
   exact Nat.dvd_lcm_right _ _
def clr (n : Nat) (F : Nat → Rat) : Nat → Rat := psc ((dl n F : Nat) : Rat) F
theorem clr_at {n : Nat} {F : Nat → Rat} (h : Sup n F) (i : Nat) : clr n F i = (((F i).num * ((dl n F : Int) / ((F i).den : Int)) : Int) : Rat) := by
 rcases Nat.lt_or_ge i n with hi | hi
 ·obtain ⟨k, hk⟩ := dl_dvd F n i hi
  have hd : ((F i).den : Int) ≠ 0 := by have := (F i).den_pos; omega
  have e : (dl n F : Int) / ((F i).den : Int) = k := by rw [hk, Int.natCast_mul, Int.mul_ediv_cancel_left _ hd]
  rw [e]
  show ((dl n F : Nat) : Rat) * F i = _
  rw [hk]
  have h1 : F i = ((F i).num : Rat) / ((F i).den : Rat) := rat_eq _
  have hd' : ((F i).den : Rat) ≠ 0 := natq (F i).den_pos
  have h2 : (((F i).num * (k : Int) : Int) : Rat) = ((F i).num : Rat) * (k : Rat) := by rw [Rat.intCast_mul]; rfl
  have h3 : (((F i).den * k : Nat) : Rat) = ((F i).den : Rat) * (k : Rat) := by rw [Rat.natCast_mul]
  rw [h2, h3]
  generalize ((F i).num : Rat) = a at *
  generalize ((F i).den : Rat) = d at *
  rw [h1]
  grind
 ·show ((dl n F : Nat) : Rat) * F i = _
  rw [h i hi]; simp
theorem clr_zi {n : Nat} {F : Nat → Rat} (h : Sup n F) : ZI (clr n F) := fun i => ⟨_, clr_at h i⟩
theorem clr_fin {n : Nat} {F : Nat → Rat} (h : Fin_ F) : Fin_ (clr n F) := h.psc _
theorem dl_ne (n : Nat) (F : Nat → Rat) : ((dl n F : Nat) : Rat) ≠ 0 := natq (dl_pos F n)
theorem ld_psc {a : Rat} (ha : a ≠ 0) {F : Nat → Rat} (h : Fin_ F) : ld (psc a F) = a * ld F := by unfold ld; rw [pl_psc ha h]; rfl
theorem ld_pp {F : Nat → Rat} (hz : ZI F) (h : Fin_ F) (h0 : F ≠ pz) : ld (pp F) = ld F / (pcn F : Rat) := by
 have hp' : (pcn F : Rat) ≠ 0 := fun e => pcn_ne hz h h0 (by exact_mod_cast e)
 unfold pp
 rw [ld_psc (inv_ne hp') h]; grind
theorem cn_pp {F : Nat → Rat} (hz : ZI F) (h : Fin_ F) (h0 : F ≠ pz) : cn (pp F) = 1 := by
 have hpf := pp_fin h
 have hp := pcn_ne hz h h0
 have hc := cn_ne hz h h0
 have key : (pcn F * (cn (pp F) : Int)) ∣ (cn F : Int) := dvd_cn fun i => by
  obtain ⟨k, hk⟩ := cn_dvd hpf i
  obtain ⟨j, hj⟩ := pcn_dvd h i
  have e := pp_at hz h h0 i
  rw [hj, Int.mul_ediv_cancel_left _ hp] at e
  have e2 : (pp F i).num = j := by rw [e]; rfl
  rw [hj, ← e2, hk]
  exact ⟨k, by rw [Int.mul_assoc]⟩
 have h1 := Int.natAbs_dvd_natAbs.2 key
 rw [Int.natAbs_mul, pcn_abs] at h1
 have h2 : cn F * cn (pp F) ∣ cn F * 1 := by simpa using h1
 exact Nat.eq_one_of_dvd_one (Nat.dvd_of_mul_dvd_mul_left (Nat.pos_of_ne_zero hc) h2)
theorem pp_lead {F : Nat → Rat} (hz : ZI F) (h : Fin_ F) (h0 : F ≠ pz) : 0 < ld (pp F) := by
 rw [ld_pp hz h h0]
 have hl := ld_ne h h0
 have hc := cn_ne hz h h0
 have hc' : (0 : Rat) < (cn F : Rat) := by exact_mod_cast Nat.pos_of_ne_zero hc
 by_cases hn : ld F < 0
 ·have e : pcn F = -(cn F : Int) := by unfold pcn; rw [if_pos hn]
  rw [e]
  have e2 : ((-(cn F : Int) : Int) : Rat) = -(cn F : Rat) := by rw [Rat.intCast_neg]; rfl
  rw [e2]
  have : ld F / -(cn F : Rat) = (-ld F) / (cn F : Rat) := by grind
  rw [this, Rat.div_def]
  exact Rat.mul_pos (by grind) (Rat.inv_pos.2 hc')
 ·have e : pcn F = (cn F : Int) := by unfold pcn; rw [if_neg hn]
  rw [e]
  have e2 : (((cn F : Nat) : Int) : Rat) = (cn F : Rat) := rfl
  rw [e2, Rat.div_def]
  exact Rat.mul_pos (by grind) (Rat.inv_pos.2 hc')
theorem pp_pp {F : Nat → Rat} (hz : ZI F) (h : Fin_ F) : pp (pp F) = pp F := by
 by_cases h0 : F = pz
 ·rw [h0, pp_pz, pp_pz]
 ·have h1 : pcn (pp F) = 1 := by
   unfold pcn
   rw [if_neg (by have := pp_lead hz h h0; grind), cn_pp hz h h0]; rfl
  show psc (1 / ((pcn (pp F) : Int) : Rat)) (pp F) = pp F
  rw [h1]
  have : 1 / ((1 : Int) : Rat) = 1 := by decide +kernel
  rw [this, psc_one]
end Go.Hp
namespace Go.Hp
theorem first_of {P : Nat → Prop} (h : ∃ i, P i) : ∃ i, P i ∧ ∀ j, j < i → ¬ P j := least h
def Prm (p : Nat) : Prop := 1 < p ∧ ∀ k, k ∣ p → k = 1 ∨ k = p
theorem prm_of {d : Nat} (h : 1 < d) : ∃ p, Prm p ∧ p ∣ d := by
 obtain ⟨p, ⟨h1, h2⟩, h3⟩ := first_of (P := fun p => 1 < p ∧ p ∣ d) ⟨d, h, Nat.dvd_refl d⟩
 refine ⟨p, ⟨h1, fun k hk => ?_⟩, h2⟩
 have hkp := Nat.le_of_dvd (by omega) hk
 have hk0 : k ≠ 0 := fun e => by subst e; have := Nat.eq_zero_of_zero_dvd hk; omega
 by_cases e : k = p
 ·exact .inr e
 ·exact .inl (by
   by_cases e1 : 1 < k
   ·exact absurd ⟨e1, Nat.dvd_trans hk h2⟩ (h3 k (by omega))
   ·omega)
theorem Prm.mul {p : Nat} (h : Prm p) {a b : Int} (k : (p : Int) ∣ a * b) : (p : Int) ∣ a ∨ (p : Int) ∣ b := by
 rw [Int.ofNat_dvd_left, Int.natAbs_mul] at k
 rw [Int.ofNat_dvd_left, Int.ofNat_dvd_left]
 rcases h.2 _ (Nat.gcd_dvd_left p a.natAbs) with e | e
 ·exact .inr (Nat.Coprime.dvd_of_dvd_mul_left e k)
 ·exact .inl (by rw [← e]; exact Nat.gcd_dvd_right _ _)
def Dz (p : Nat) (x : Rat) : Prop := ∃ z : Int, x = (p : Rat) * (z : Rat)
theorem Dz.add {p : Nat} {x y : Rat} (h : Dz p x) (k : Dz p y) : Dz p (x + y) := by
 obtain ⟨a, rfl⟩ := h; obtain ⟨b, rfl⟩ := k; exact ⟨a + b, by rw [Rat.intCast_add]; grind⟩
theorem Dz.sub {p : Nat} {x y : Rat} (h : Dz p x) (k : Dz p y) : Dz p (x - y) := by
 obtain ⟨a, rfl⟩ := h; obtain ⟨b, rfl⟩ := k; exact ⟨a - b, by rw [Rat.intCast_sub]; grind⟩
theorem Dz.zero (p : Nat) : Dz p 0 := ⟨0, by simp⟩
theorem Dz.mul {p : Nat} {x : Rat} (h : Dz p x) (y : Int) : Dz p (x * (y : Rat)) := by
 obtain ⟨a, rfl⟩ := h; exact ⟨a * y, by rw [Rat.intCast_mul]; grind⟩
theorem dz_int {p : Nat} {n : Int} : Dz p (n : Rat) ↔ (p : Int) ∣ n := by
 constructor
 ·rintro ⟨z, h⟩
  refine ⟨z, ?_⟩
  rw [show ((p : Nat) : Rat) = (((p : Nat) : Int) : Rat) from rfl, ← Rat.intCast_mul] at h
  exact int_cast_inj h
 ·rintro ⟨z, rfl⟩
  exact ⟨z, by rw [Rat.intCast_mul]; rfl⟩
theorem sm_dz {p n i : Nat} {f : Nat → Rat} (hi : i < n) (h : ∀ k, k < n → k ≠ i → Dz p (f k)) : Dz p (sm n f - f i) := by
 induction n with
 | zero => omega
 | succ n ih =>
  rw [sm_succ]
  by_cases e : i = n
  ·subst e
   rw [show sm i f + f i - f i = sm i f from by grind]
   clear ih hi
   have : ∀ m, m ≤ i → Dz p (sm m f) := fun m => by
    induction m with
    | zero => intro _; exact Dz.zero p
    | succ m ih => intro hm; rw [sm_succ]; exact (ih (by omega)).add (h m (by omega) (by omega))
   exact this i (Nat.le_refl _)
  ·have h1 := ih (by omega) fun k hk => h k (by omega)
   rw [show sm n f + f n - f i = (sm n f - f i) + f n from by grind]
   exact h1.add (h n (by omega) fun q => e q.symm)
theorem ZI.cv {F G : Nat → Rat} (h : ZI F) (k : ZI G) : ZI (cv F G) := fun i => by
 rw [cv_sm]
 have : ∀ n (f : Nat → Rat), (∀ j, ∃ z : Int, f j = (z : Rat)) → ∃ z : Int, sm n f = (z : Rat) := fun n f hf => by
  induction n with
  | zero => exact ⟨0, rfl⟩
  | succ n ih =>
   obtain ⟨a, ha⟩ := ih; obtain ⟨b, hb⟩ := hf n
   exact ⟨a + b, by rw [sm_succ, ha, hb, Rat.intCast_add]⟩
 refine this _ _ fun j => ?_
 obtain ⟨a, ha⟩ := h j; obtain ⟨b, hb⟩ := k (i - j)
 exact ⟨a * b, by rw [ha, hb, Rat.intCast_mul]⟩
theorem cn_dvd_all {F : Nat → Rat} (h : Fin_ F) {d : Nat} : d ∣ cn F ↔ ∀ i, (d : Int) ∣ (F i).num :=
 ⟨fun k i => Int.dvd_trans (Int.natCast_dvd_natCast.2 k) (cn_dvd h i), fun k => Int.natCast_dvd_natCast.1 (dvd_cn k)⟩
theorem gauss1 {F G : Nat → Rat} (zF : ZI F) (zG : ZI G) (fF : Fin_ F) (fG : Fin_ G) (hF : cn F = 1) (hG : cn G = 1) : cn (cv F G) = 1 := by
 have nF : F ≠ pz := fun e => by rw [e, cn_pz] at hF; omega
 have nG : G ≠ pz := fun e => by rw [e, cn_pz] at hG; omega
 have h0 : cn (cv F G) ≠ 0 := cn_ne (zF.cv zG) (fF.cv fG) fun e => by
  have := pl_cv fF fG nF nG; have a := pl_pos fF nF; have b := pl_pos fG nG
  rw [e, pl_pz] at this; omega
 by_cases h1 : cn (cv F G) = 1
 ·exact h1
 ·obtain ⟨p, hp, hd⟩ := prm_of (d := cn (cv F G)) (by omega)
  have hall := (cn_dvd_all (fF.cv fG)).1 hd
  have ex : ∀ {H : Nat → Rat}, Fin_ H → cn H = 1 → ∃ i, ¬ (p : Int) ∣ (H i).num := fun {H} fH hH => by
   by_cases k : ∃ i, ¬ (p : Int) ∣ (H i).num
   ·exact k
   ·have := (cn_dvd_all fH (d := p)).2 fun i => by
     by_cases q : (p : Int) ∣ (H i).num
     ·exact q
     ·exact absurd ⟨i, q⟩ k
    rw [hH] at this; have := Nat.le_of_dvd (by omega) this; have := hp.1; omega
  obtain ⟨i, hi, hi'⟩ := first_of (ex fF hF)
  obtain ⟨j, hj, hj'⟩ := first_of (ex fG hG)
  have hs := sm_dz (p := p) (n := i + j + 1) (i := i) (f := fun k => F k * G (i + j - k)) (by omega) fun k hk hne => by
   rcases Nat.lt_or_ge k i with a | a
   ·have : Dz p (F k) := by
     rw [zF.num k]; refine dz_int.2 ?_
     by_cases q : (p : Int) ∣ (F k).num
     ·exact q
     ·exact absurd q (hi' k a)
    show Dz p (F k * G (i + j - k))
    rw [zG.num (i + j - k)]; exact this.mul _
   ·have : Dz p (G (i + j - k)) := by
     rw [zG.num]; refine dz_int.2 ?_
     by_cases q : (p : Int) ∣ (G (i + j - k)).num
     ·exact q
     ·exact absurd q (hj' _ (by omega))
    show Dz p (F k * G (i + j - k))
    rw [Rat.mul_comm, zF.num k]; exact this.mul _
  rw [← cv_sm] at hs
  simp only [show i + j - i = j from by omega] at hs
  have ht : Dz p (cv F G (i + j)) := by rw [(zF.cv zG).num]; exact dz_int.2 (hall _)
  have hu := ht.sub hs
  rw [show cv F G (i + j) - (cv F G (i + j) - F i * G j) = F i * G j from by grind, zF.num i, zG.num j, ← Rat.intCast_mul] at hu
  rcases hp.mul (dz_int.1 hu) with q | q
  ·exact absurd q hi
  ·exact absurd q hj
theorem ct_psc (a : Int) {F : Nat → Rat} (z : ZI F) : ∀ n, ct n (psc (a : Rat) F) = a.natAbs * ct n F
 | 0 => by show 0 = _ * 0; omega
 | n + 1 => by
  rw [ct_succ, ct_succ, ct_psc a z n]
  have : (psc (a : Rat) F n).num = a * (F n).num := by show ((a : Rat) * F n).num = _; rw [z.num n, num_mul]; rfl
  rw [this]
  show Nat.gcd _ _ = _ * Nat.gcd _ _
  rw [Int.natAbs_mul, Int.natAbs_natCast, Int.natAbs_natCast, Nat.gcd_mul_left]
theorem cn_psc {a : Int} (h : a ≠ 0) {F : Nat → Rat} (z : ZI F) (f : Fin_ F) : cn (psc (a : Rat) F) = a.natAbs * cn F := by
 unfold cn
 rw [pl_psc (fun e => h (by exact_mod_cast e)) f, ct_psc a z]
theorem gauss {F G : Nat → Rat} (zF : ZI F) (zG : ZI G) (fF : Fin_ F) (fG : Fin_ G) : cn (cv F G) = cn F * cn G := by
 by_cases hF : F = pz
 ·rw [hF, pz_cv, cn_pz]; omega
 by_cases hG : G = pz
 ·rw [hG, cv_pz, cn_pz]; omega
 have nF := pcn_ne zF fF hF
 have nG := pcn_ne zG fG hG
 have e : cv F G = psc ((pcn F * pcn G : Int) : Rat) (cv (pp F) (pp G)) := by
  have e1 := pp_eq zF fF hF
  have e2 := pp_eq zG fG hG
  have : cv F G = cv (psc (pcn F : Rat) (pp F)) (psc (pcn G : Rat) (pp G)) := by rw [← e1, ← e2]
  rw [this, psc_cv, cv_psc, psc_psc, Rat.intCast_mul]
 rw [e, cn_psc (Int.mul_ne_zero nF nG) ((pp_zi zF fF).cv (pp_zi zG fG)) ((pp_fin fF).cv (pp_fin fG)), gauss1 (pp_zi zF fF) (pp_zi zG fG) (pp_fin fF) (pp_fin fG) (cn_pp zF fF hF) (cn_pp zG fG hG), Int.natAbs_mul, pcn_abs, pcn_abs]; omega
end Go.Hp
namespace Go.Hp
def sg (i : Nat) : Rat := if i % 2 = 0 then 1 else -1
theorem sg_zero : sg 0 = 1 := rfl
theorem sg_succ (i : Nat) : sg (i + 1) = - sg i := by
 unfold sg
 rcases Nat.mod_two_eq_zero_or_one i with h | h
 ·rw [if_neg (by omega), if_pos h]
 ·rw [if_pos (by omega), if_neg (by omega)]; rfl
theorem sg_add (i j : Nat) : sg (i + j) = sg i * sg j := by
 induction j with
 | zero => rw [Nat.add_zero, sg_zero]; grind
 | succ j ih => rw [← Nat.add_assoc, sg_succ, sg_succ, ih]; grind
theorem sg_sq (i : Nat) : sg i * sg i = 1 := by
 induction i with
 | zero => rw [sg_zero]; grind
 | succ i ih => rw [sg_succ]; grind
def sk (i k : Nat) : Nat := if k < i then k else k + 1
theorem sk_ne (i k : Nat) : sk i k ≠ i := by unfold sk; split <;> omega
theorem sk_lt {i k n : Nat} (h : k < n) : sk i k < n + 1 := by unfold sk; split <;> omega
def minor (i : Nat) (A : Nat → Nat → Rat) : Nat → Nat → Rat := fun r c => A (sk i r) (c + 1)
def det : Nat → (Nat → Nat → Rat) → Rat
 | 0, _ => 1
 | n + 1, A => sm (n + 1) fun i => sg i * A i 0 * det n (minor i A)
theorem det_succ (n : Nat) (A : Nat → Nat → Rat) : det (n + 1) A = sm (n + 1) fun i => sg i * A i 0 * det n (minor i A) := by rw [det]
theorem det_congr : ∀ {n : Nat} {A B : Nat → Nat → Rat}, (∀ i j, i < n → j < n → A i j = B i j) → det n A = det n B
 | 0, _, _, _ => rfl
 | n + 1, A, B, h => by
  rw [det_succ, det_succ]
  refine sm_congr fun i hi => ?_
  rw [h i 0 hi (by omega), det_congr (n := n) (A := minor i A) (B := minor i B) fun r c hr hc => h _ _ (sk_lt hr) (by omega)]
def rw_ (A : Nat → Nat → Rat) (i : Nat) (v : Nat → Rat) : Nat → Nat → Rat := fun r c => if r = i then v c else A r c
theorem rw_self (A : Nat → Nat → Rat) (i : Nat) : rw_ A i (A i) = A := by
 funext r c; unfold rw_; split
 ·rename_i h; rw [h]
 ·rfl
theorem minor_rw_same (A : Nat → Nat → Rat) (i : Nat) (v : Nat → Rat) : minor i (rw_ A i v) = minor i A := by
 funext r c; unfold minor rw_; rw [if_neg (sk_ne i r)]
theorem minor_rw_other (A : Nat → Nat → Rat) {i k : Nat} (h : i ≠ k) (v : Nat → Rat) : minor k (rw_ A i v) = rw_ (minor k A) (if i < k then i else i - 1) (fun c => v (c + 1)) := by
 funext r c
 unfold minor rw_
 have : sk k r = i ↔ r = (if i < k then i else i - 1) := by unfold sk; split <;> split <;> omega
 by_cases e : sk k r = i
 ·rw [if_pos e, if_pos (this.1 e)]
 ·rw [if_neg e, if_neg (fun q => e (this.2 q))]
theorem det_lin : ∀ {n : Nat} (A : Nat → Nat → Rat) {i : Nat}, i < n → ∀ (a b : Rat) (u v : Nat → Rat), det n (rw_ A i fun c => a * u c + b * v c) = a * det n (rw_ A i u) + b * det n (rw_ A i v)
 | 0, _, _, h, _, _, _, _ => absurd h (by omega)
 | n + 1, A, i, h, a, b, u, v => by
  rw [det_succ, det_succ, det_succ, ← sm_mul, ← sm_mul, ← sm_add]
  refine sm_congr fun k hk => ?_
  by_cases e : i = k
  ·subst e
   rw [minor_rw_same, minor_rw_same, minor_rw_same]
   simp only [rw_, if_pos]
   grind
  ·rw [minor_rw_other A e, minor_rw_other A e, minor_rw_other A e]
   have := det_lin (n := n) (minor k A) (i := if i < k then i else i - 1) (by split <;> omega) a b (fun c => u (c + 1)) (fun c => v (c + 1))
   rw [this]
   simp only [rw_, if_neg (Ne.symm e)]
   grind
def sw (i : Nat) (A : Nat → Nat → Rat) : Nat → Nat → Rat := fun r => A (if r = i then i + 1 else if r = i + 1 then i else r)
theorem sm_swap {f g : Nat → Rat} {i : Nat} (h1 : f i = - g (i + 1)) (h2 : f (i + 1) = - g i) : ∀ {n : Nat}, i + 1 < n → (∀ k, k < n → k ≠ i → k ≠ i + 1 → f k = - g k) → sm n f = - sm n g
 | 0, h, _ => absurd h (by omega)
 | n + 1, h, k => by
  by_cases e : i + 1 = n
  ·subst e
   have : sm i f = sm i (fun k => (-1) * g k) := sm_congr fun j hj => by rw [k j (by omega) (by omega) (by omega)]; grind
   rw [sm_succ, sm_succ, sm_succ, sm_succ, this, sm_mul, h1, h2]; grind
  ·rw [sm_succ, sm_succ, sm_swap h1 h2 (n := n) (by omega) fun j hj => k j (by omega), k n (by omega) (by omega) (by omega)]; grind
theorem det_sw : ∀ {n : Nat} (A : Nat → Nat → Rat) {i : Nat}, i + 1 < n → det n (sw i A) = - det n A
 | 0, _, _, h => absurd h (by omega)
 | n + 1, A, i, h => by
  rw [det_succ, det_succ]
  refine sm_swap (i := i) ?_ ?_ h fun k hk h1 h2 => ?_
  ·have : minor i (sw i A) = minor (i + 1) A := by
    funext r c; unfold minor sw sk
    refine congrArg (fun x => A x (c + 1)) ?_
    repeat' split
    all_goals omega
   rw [this, sg_succ]
   have : sw i A i 0 = A (i + 1) 0 := by unfold sw; rw [if_pos rfl]
   rw [this]; grind
  ·have : minor (i + 1) (sw i A) = minor i A := by
    funext r c; unfold minor sw sk
    refine congrArg (fun x => A x (c + 1)) ?_
    repeat' split
    all_goals omega
   rw [this, sg_succ]
   have : sw i A (i + 1) 0 = A i 0 := by unfold sw; rw [if_neg (by omega), if_pos rfl]
   rw [this]; grind
  ·have e : minor k (sw i A) = sw (if i < k then i else i - 1) (minor k A) := by
    funext r c; unfold minor sw sk
    refine congrArg (fun x => A x (c + 1)) ?_
    repeat' split
    all_goals omega
   rw [e, det_sw (n := n) (minor k A) (i := if i < k then i else i - 1) (by split <;> omega)]
   have : sw i A k 0 = A k 0 := by unfold sw; rw [if_neg h1, if_neg h2]
   rw [this]; grind
theorem det_same : ∀ (d : Nat) {n : Nat} (A : Nat → Nat → Rat) {i : Nat}, i + d + 1 < n → A i = A (i + d + 1) → det n A = 0
 | 0, n, A, i, h, e => by
  have : sw i A = A := by
   funext r; unfold sw
   by_cases a : r = i
   ·subst a; rw [if_pos rfl]; exact e.symm
   ·rw [if_neg a]
    by_cases b : r = i + 1
    ·subst b; rw [if_pos rfl]; exact e
    ·rw [if_neg b]
  have h2 := det_sw A (i := i) (by omega : i + 1 < n)
  rw [this] at h2; grind
 | d + 1, n, A, i, h, e => by
  have h2 := det_sw A (i := i + d + 1) (by omega : i + d + 1 + 1 < n)
  have h3 := det_same d (n := n) (sw (i + d + 1) A) (i := i) (by omega) (by
   unfold sw; rw [if_neg (by omega), if_neg (by omega), if_pos rfl]; exact e)
  grind
theorem det_equal {n i j : Nat} {A : Nat → Nat → Rat} (hi : i < n) (hj : j < n) (h : i ≠ j) (e : A i = A j) : det n A = 0 := by
 rcases Nat.lt_or_gt_of_ne h with h | h
 ·exact det_same (j - i - 1) A (i := i) (by omega) (by rw [show i + (j - i - 1) + 1 = j from by omega]; exact e)
 ·exact det_same (i - j - 1) A (i := j) (by omega) (by rw [show j + (i - j - 1) + 1 = i from by omega]; exact e.symm)
theorem det_add {n i j : Nat} (A : Nat → Nat → Rat) (hi : i < n) (hj : j < n) (h : i ≠ j) (t : Rat) : det n (rw_ A i fun c => A i c + t * A j c) = det n A := by
 have h1 := det_lin A hi 1 t (A i) (A j)
 rw [rw_self, det_equal (A := rw_ A i (A j)) hi hj h (by funext c; simp only [rw_, if_pos]; rw [if_neg (Ne.symm h)])] at h1
 rw [show (fun c => A i c + t * A j c) = fun c => 1 * A i c + t * A j c from by funext c; grind, h1]; grind
theorem rw_rw (A : Nat → Nat → Rat) (i : Nat) (u v : Nat → Rat) : rw_ (rw_ A i u) i v = rw_ A i v := by funext r c; unfold rw_; split <;> rfl
theorem det_adds {n i : Nat} (A : Nat → Nat → Rat) (hi : i < n) (t : Nat → Rat) (p : Nat → Nat) : ∀ k, (∀ j, j < k → p j < n ∧ p j ≠ i) → det n (rw_ A i fun c => A i c + sm k fun j => t j * A (p j) c) = det n A
 | 0, _ => by
  rw [show (fun c => A i c + sm 0 fun j => t j * A (p j) c) = A i from by funext c; rw [sm_zero]; grind, rw_self]
 | k + 1, h => by
  have h1 := det_adds A hi t p k fun j hj => h j (by omega)
  obtain ⟨h2, h3⟩ := h k (by omega)
  have h4 := det_add (rw_ A i fun c => A i c + sm k fun j => t j * A (p j) c) hi h2 (Ne.symm h3) (t k)
  rw [h1, rw_rw] at h4
  rw [← h4]
  congr 2; funext c
  simp only [rw_, if_pos, if_neg h3, sm_succ]; grind
theorem det_rows {n : Nat} (A : Nat → Nat → Rat) (P : Nat → Bool) (k : Nat → Nat) (t : Nat → Nat → Rat) (p : Nat → Nat → Nat) (h : ∀ i j, i < n → P i = true → j < k i → p i j < n ∧ P (p i j) = false) :
  det n (fun r c => if P r then A r c + sm (k r) (fun j => t r j * A (p r j) c) else A r c) = det n A := by
 have key : ∀ s, s ≤ n → det n (fun r c => if P r && decide (r < s) then A r c + sm (k r) (fun j => t r j * A (p r j) c) else A r c) = det n A := by
  intro s
  induction s with
  | zero => intro _; refine det_congr fun i j _ _ => ?_; rw [if_neg (by simp)]
  | succ s ih =>
   intro hs
   have h1 := ih (by omega)
   cases hP : P s with
   | false =>
    rw [← h1]
    refine det_congr fun i j _ _ => ?_
    by_cases e : i = s
    ·subst e; rw [if_neg (by simp [hP]), if_neg (by simp [hP])]
    ·have : decide (i < s + 1) = decide (i < s) := by simp; omega
     rw [this]
   | true =>
    obtain ⟨B, hB⟩ : ∃ B : Nat → Nat → Rat, B = fun r c => if P r && decide (r < s) then A r c + sm (k r) (fun j => t r j * A (p r j) c) else A r c := ⟨_, rfl⟩
    rw [← hB] at h1
    have hs0 : B s = A s := by funext c; rw [hB]; show (if _ then _ else _) = _; rw [if_neg (by simp)]
    have hp : ∀ j, j < k s → B (p s j) = A (p s j) := fun j hj => by
     obtain ⟨_, h3⟩ := h s j (by omega) hP hj
     funext c; rw [hB]; show (if _ then _ else _) = _; rw [if_neg (by simp [h3])]
    have h2 := det_adds B (i := s) (by omega : s < n) (t s) (p s) (k s) fun j hj => by
     obtain ⟨h2, h3⟩ := h s j (by omega) hP hj
     exact ⟨h2, fun e => by rw [e, hP] at h3; cases h3⟩
    rw [← h1, ← h2]
    refine det_congr fun i c _ _ => ?_
    unfold rw_
    by_cases e : i = s
    ·subst e
     rw [if_pos (by simp [hP]), if_pos rfl, hs0]
     congr 1
     exact sm_congr fun j hj => by rw [hp j hj]
    ·have : decide (i < s + 1) = decide (i < s) := by simp; omega
     rw [this, if_neg e, hB]
 rw [← key n (Nat.le_refl n)]
 refine det_congr fun i j hi _ => ?_
 rw [show decide (i < n) = true from by simpa using hi, Bool.and_true]
theorem det_scale {n : Nat} (A : Nat → Nat → Rat) (a : Rat) : ∀ s, s ≤ n → det n (fun r c => if r < s then a * A r c else A r c) = a ^ s * det n A
 | 0, _ => by
  rw [show (fun r c => if r < 0 then a * A r c else A r c) = A from by funext r c; rw [if_neg (by omega)]]
  rw [Rat.pow_zero]; grind
 | s + 1, h => by
  obtain ⟨B, hB⟩ : ∃ B : Nat → Nat → Rat, B = fun r c => if r < s then a * A r c else A r c := ⟨_, rfl⟩
  have h1 := det_scale (n := n) A a s (by omega)
  rw [← hB] at h1
  have h2 := det_lin B (i := s) (by omega : s < n) a 0 (B s) (B s)
  rw [rw_self, h1] at h2
  rw [Rat.pow_succ]
  rw [show det n (fun r c => if r < s + 1 then a * A r c else A r c) = det n (rw_ B s fun c => a * B s c + 0 * B s c) from ?_, h2]
  ·grind
  ·refine det_congr fun i c _ _ => ?_
   unfold rw_
   by_cases e : i = s
   ·subst e; rw [if_pos (by omega), if_pos rfl, hB]; simp only; rw [if_neg (by omega)]; grind
   ·rw [if_neg e, hB]; simp only
    by_cases e2 : i < s
    ·rw [if_pos e2, if_pos (by omega)]
    ·rw [if_neg e2, if_neg (by omega)]
theorem sm_one {n k : Nat} {f : Nat → Rat} (hk : k < n) (h : ∀ i, i < n → i ≠ k → f i = 0) : sm n f = f k := by
 induction n with
 | zero => omega
 | succ n ih =>
  rw [sm_succ]
  by_cases e : k = n
  ·subst e
   have : sm k f = sm k (fun _ => 0) := sm_congr fun j hj => h j (by omega) (by omega)
   rw [this, sm_nil]; grind
  ·rw [ih (by omega) fun i hi => h i (by omega), h n (by omega) (fun q => e q.symm)]; grind
theorem det_col {n k : Nat} {A : Nat → Nat → Rat} (hk : k < n + 1) (h : ∀ i, i < n + 1 → i ≠ k → A i 0 = 0) : det (n + 1) A = sg k * A k 0 * det n (minor k A) := by
 rw [det_succ, sm_one (f := fun i => sg i * A i 0 * det n (minor i A)) hk fun i hi e => by rw [h i hi e]; grind]
end Go.Hp
namespace Go.Hp
def syl (m : Nat) (F : Nat → Rat) (n : Nat) (G : Nat → Rat) : Nat → Nat → Rat := fun r c => if r < n then (if c ≤ m + r then F (m + r - c) else 0) else (if c ≤ r then G (r - c) else 0)
def rsf (m : Nat) (F : Nat → Rat) (n : Nat) (G : Nat → Rat) : Rat := det (m + n) (syl m F n G)
theorem sk_0 (r : Nat) : sk 0 r = r + 1 := by unfold sk; rw [if_neg (by omega)]
theorem rsf_f0 {m n : Nat} {F G : Nat → Rat} (hF : Sup (m + 1) F) (hG : Sup (n + 1) G) : rsf (m + 1) F n G = sg n * G n * rsf m F n G := by
 unfold rsf
 rw [show m + 1 + n = m + n + 1 from by omega, det_col (k := n) (by omega)]
 ·congr 1
  ·congr 1
   show (if n < n then _ else _) = _
   rw [if_neg (by omega), if_pos (by omega)]; rfl
  ·refine det_congr fun r c hr hc => ?_
   unfold minor syl sk
   by_cases h : r < n
   ·rw [if_pos h, if_pos h, if_pos h]
    by_cases h2 : c ≤ m + r
    ·rw [if_pos h2, if_pos (by omega)]; congr 1; omega
    ·rw [if_neg h2, if_neg (by omega)]
   ·rw [if_neg h, if_neg (by omega), if_neg h]
    by_cases h2 : c ≤ r
    ·rw [if_pos h2, if_pos (by omega)]; congr 1; omega
    ·rw [if_neg h2, if_neg (by omega)]
 ·intro i hi hne
  unfold syl
  by_cases h : i < n
  ·rw [if_pos h, if_pos (by omega)]; exact hF _ (by omega)
  ·rw [if_neg h, if_pos (by omega)]; exact hG _ (by omega)
theorem rsf_g0 {m n : Nat} {F G : Nat → Rat} (hF : Sup (m + 1) F) (hG : m = 0 ∨ Sup (n + 1) G) : rsf m F (n + 1) G = F m * rsf m F n G := by
 unfold rsf
 rw [show m + (n + 1) = m + n + 1 from by omega, det_col (k := 0) (by omega)]
 ·rw [sg_zero, show syl m F (n + 1) G 0 0 = F m from by unfold syl; rw [if_pos (by omega), if_pos (by omega)]; rfl]
  rw [show (1 : Rat) * F m = F m from by grind]
  congr 1
  refine det_congr fun r c hr hc => ?_
  unfold minor
  rw [sk_0]
  unfold syl
  by_cases h : r < n
  ·rw [if_pos (by omega), if_pos h]
   by_cases h2 : c ≤ m + r
   ·rw [if_pos h2, if_pos (by omega)]; congr 1; omega
   ·rw [if_neg h2, if_neg (by omega)]
  ·rw [if_neg (by omega), if_neg h]
   by_cases h2 : c ≤ r
   ·rw [if_pos h2, if_pos (by omega)]; congr 1; omega
   ·rw [if_neg h2, if_neg (by omega)]
 ·intro i hi hne
  unfold syl
  by_cases h : i < n + 1
  ·rw [if_pos h, if_pos (by omega)]; exact hF _ (by omega)
  ·rw [if_neg h, if_pos (by omega)]
   rcases hG with rfl | hG
   ·omega
   ·exact hG _ (by omega)
theorem sm_tail {f : Nat → Rat} {a : Nat} (h : ∀ i, a ≤ i → f i = 0) : ∀ {b}, a ≤ b → sm b f = sm a f := by
 intro b hb
 obtain ⟨k, rfl⟩ : ∃ k, b = a + k := ⟨b - a, by omega⟩
 clear hb
 induction k with
 | zero => rfl
 | succ k ih => rw [← Nat.add_assoc, sm_succ, ih, h _ (by omega)]; grind
theorem cv_at {Q G : Nat → Rat} {k : Nat} (h : Sup k Q) (d : Nat) : cv Q G d = sm k fun j => Q j * if j ≤ d then G (d - j) else 0 := by
 obtain ⟨f, hf⟩ : ∃ f : Nat → Rat, f = fun j => Q j * if j ≤ d then G (d - j) else 0 := ⟨_, rfl⟩
 rw [← hf]
 have h1 : cv Q G d = sm (d + 1) f := by
  rw [cv_sm]
  refine sm_congr fun i hi => ?_
  rw [hf]; simp only; rw [if_pos (by omega)]
 have h2 : sm (max k (d + 1)) f = sm k f := sm_tail (fun i hi => by rw [hf]; simp only; rw [h i hi]; grind) (by omega)
 have h3 : sm (max k (d + 1)) f = sm (d + 1) f := sm_tail (fun i hi => by rw [hf]; simp only; rw [if_neg (by omega)]; grind) (by omega)
 rw [h1, ← h3, h2]
theorem rsf_red {m n : Nat} {F G Q : Nat → Rat} (h : n ≤ m) (hQ : Sup (m - n + 1) Q) : rsf m (pad F (cv Q G)) n G = rsf m F n G := by
 unfold rsf
 rw [← det_rows (syl m F n G) (fun r => decide (r < n)) (fun _ => m - n + 1) (fun _ j => Q j) (fun r j => m + r - j) fun i j hi hp hj => by
  simp only [decide_eq_true_eq] at hp
  exact ⟨by omega, by simp; omega⟩]
 refine det_congr fun r c hr hc => ?_
 by_cases h1 : r < n
 ·rw [if_pos (by simpa using h1)]
  unfold syl
  rw [if_pos h1, if_pos h1]
  by_cases h2 : c ≤ m + r
  ·rw [if_pos h2, if_pos h2]
   show F _ + cv Q G _ = _
   rw [cv_at hQ]
   congr 1
   refine sm_congr fun j hj => ?_
   rw [if_neg (show ¬ m + r - j < n by omega)]
   by_cases h3 : j ≤ m + r - c
   ·rw [if_pos h3, if_pos (by omega)]; congr 2; omega
   ·rw [if_neg h3, if_neg (by omega)]
  ·rw [if_neg h2, if_neg h2]
   have : sm (m - n + 1) (fun j => Q j * if m + r - j < n then (if c ≤ m + (m + r - j) then F (m + (m + r - j) - c) else 0) else if c ≤ m + r - j then G (m + r - j - c) else 0) = sm (m - n + 1) (fun _ => 0) := sm_congr fun j hj => by
    rw [if_neg (by omega), if_neg (by omega)]; grind
   rw [this, sm_nil]; grind
 ·rw [if_neg (by simpa using h1)]
  unfold syl
  rw [if_neg h1, if_neg h1]
theorem rsf_red' {m n : Nat} {F G Q : Nat → Rat} (h : m ≤ n) (hQ : Sup (n - m + 1) Q) : rsf m F n (pad G (cv Q F)) = rsf m F n G := by
 unfold rsf
 rw [← det_rows (syl m F n G) (fun r => decide (n ≤ r)) (fun _ => n - m + 1) (fun _ j => Q j) (fun r j => r - j - m) fun i j hi hp hj => by
  simp only [decide_eq_true_eq] at hp
  exact ⟨by omega, by simp; omega⟩]
 refine det_congr fun r c hr hc => ?_
 by_cases h1 : r < n
 ·rw [if_neg (by simp; omega)]
  unfold syl
  rw [if_pos h1, if_pos h1]
 ·rw [if_pos (by simp; omega)]
  unfold syl
  rw [if_neg h1, if_neg h1]
  by_cases h2 : c ≤ r
  ·rw [if_pos h2, if_pos h2]
   show G _ + cv Q F _ = _
   rw [cv_at hQ]
   congr 1
   refine sm_congr fun j hj => ?_
   rw [if_pos (show r - j - m < n by omega)]
   by_cases h3 : j ≤ r - c
   ·rw [if_pos h3, if_pos (by omega)]; congr 2; omega
   ·rw [if_neg h3, if_neg (by omega)]
  ·rw [if_neg h2, if_neg h2]
   have : sm (n - m + 1) (fun j => Q j * if r - j - m < n then (if c ≤ m + (r - j - m) then F (m + (r - j - m) - c) else 0) else if c ≤ r - j - m then G (r - j - m - c) else 0) = sm (n - m + 1) (fun _ => 0) := sm_congr fun j hj => by
    rw [if_pos (by omega), if_neg (by omega)]; grind
   rw [this, sm_nil]; grind
theorem rsf_fc {F : Nat → Rat} (hF : Sup 1 F) (G : Nat → Rat) : ∀ n, rsf 0 F n G = F 0 ^ n
 | 0 => by rw [Rat.pow_zero]; rfl
 | n + 1 => by rw [rsf_g0 hF (.inl rfl), rsf_fc hF G n, Rat.pow_succ]; grind
theorem rsf_gc (F : Nat → Rat) {G : Nat → Rat} (hG : Sup 1 G) : ∀ m, rsf m F 0 G = G 0 ^ m
 | 0 => by rw [Rat.pow_zero]; rfl
 | m + 1 => by
  have : rsf (m + 1) F 0 G = sg 0 * G 0 * rsf m F 0 G := by
   unfold rsf
   rw [show m + 1 + 0 = m + 0 + 1 from by omega, det_col (k := 0) (by omega)]
   ·rw [show syl (m + 1) F 0 G 0 0 = G 0 from by unfold syl; rw [if_neg (by omega), if_pos (by omega)]]
    congr 1
    refine det_congr fun r c hr hc => ?_
    unfold minor
    rw [sk_0]
    unfold syl
    rw [if_neg (show ¬ r + 1 < 0 by omega), if_neg (show ¬ r < 0 by omega)]
    by_cases h2 : c ≤ r
    ·rw [if_pos h2, if_pos (show c + 1 ≤ r + 1 by omega)]; congr 1; omega
    ·rw [if_neg h2, if_neg (show ¬ c + 1 ≤ r + 1 by omega)]
   ·intro i hi hne
    unfold syl
    rw [if_neg (by omega), if_pos (by omega)]; exact hG _ (by omega)
  rw [this, rsf_gc F hG m, Rat.pow_succ, sg_zero]; grind
theorem sg_mul_succ (m n : Nat) : sg ((m + 1) * n) = sg (m * n) * sg n := by rw [Nat.succ_mul, sg_add]
theorem red_top {m n : Nat} {F G : Nat → Rat} (h : n ≤ m) (hF : Sup (m + 1) F) (hG : Sup (n + 1) G) (h0 : G n ≠ 0) : ∃ Q, Sup (m - n + 1) Q ∧ Sup m (pad F (cv Q G)) := by
 refine ⟨mono (m - n) (-(F m / G n)), mono_sup _ _, fun i hi => ?_⟩
 rw [mono_cv]
 show F i + _ * sh (m - n) G i = 0
 rcases Nat.eq_or_lt_of_le hi with e | e
 ·subst e; unfold sh; rw [if_neg (by omega), show m - (m - n) = n from by omega]; grind
 ·unfold sh; rw [hF i (by omega), if_neg (by omega), hG (i - (m - n)) (by omega)]; grind
theorem rsf_symm : ∀ (s : Nat) {m n : Nat} {F G : Nat → Rat}, m + n ≤ s → Sup (m + 1) F → Sup (n + 1) G → rsf n G m F = sg (m * n) * rsf m F n G
 | s, 0, n, F, G, _, hF, _ => by rw [rsf_gc G hF, rsf_fc hF G, Nat.zero_mul, sg_zero]; grind
 | s, m + 1, 0, F, G, _, _, hG => by rw [rsf_fc hG F, rsf_gc F hG, Nat.mul_zero, sg_zero]; grind
 | 0, m + 1, n + 1, _, _, h, _, _ => absurd h (by omega)
 | s + 1, m + 1, n + 1, F, G, hs, hF, hG => by
  have hf : ∀ {F : Nat → Rat}, Sup (m + 1) F → rsf (n + 1) G (m + 1) F = sg ((m + 1) * (n + 1)) * rsf (m + 1) F (n + 1) G := fun {F} h => by
   rw [rsf_g0 hG (.inr h), rsf_f0 h hG, rsf_symm s (m := m) (n := n + 1) (by omega) h hG, sg_mul_succ]
   have := sg_sq (n + 1)
   grind
  have hg : ∀ {G : Nat → Rat}, Sup (n + 1) G → rsf (n + 1) G (m + 1) F = sg ((m + 1) * (n + 1)) * rsf (m + 1) F (n + 1) G := fun {G} h => by
   rw [rsf_f0 h hF, rsf_g0 hF (.inr h), rsf_symm s (m := m + 1) (n := n) (by omega) hF h, Nat.mul_comm (m + 1) (n + 1), sg_mul_succ n (m + 1), Nat.mul_comm n (m + 1)]
   have := sg_sq (m + 1)
   grind
  by_cases h1 : F (m + 1) = 0
  ·exact hf fun i hi => by
    rcases Nat.eq_or_lt_of_le hi with e | e
    ·rw [← e]; exact h1
    ·exact hF i (by omega)
  ·by_cases h2 : G (n + 1) = 0
   ·exact hg fun i hi => by
     rcases Nat.eq_or_lt_of_le hi with e | e
     ·rw [← e]; exact h2
     ·exact hG i (by omega)
   ·rcases Nat.le_total (n + 1) (m + 1) with h3 | h3
    ·obtain ⟨Q, hQ, hR⟩ := red_top h3 hF hG h2
     rw [← rsf_red h3 hQ, ← rsf_red' h3 hQ]
     exact hf hR
    ·obtain ⟨Q, hQ, hR⟩ := red_top h3 hG hF h1
     rw [← rsf_red h3 hQ, ← rsf_red' h3 hQ]
     exact hg hR
theorem rsf_sym {m n : Nat} {F G : Nat → Rat} (hF : Sup (m + 1) F) (hG : Sup (n + 1) G) : rsf n G m F = sg (m * n) * rsf m F n G := rsf_symm (m + n) (Nat.le_refl _) hF hG
theorem rsf_down {r n : Nat} {R G : Nat → Rat} (hR : Sup (r + 1) R) (hG : Sup (n + 1) G) : ∀ k, rsf (r + k) R n G = sg (n * k) * G n ^ k * rsf r R n G
 | 0 => by rw [Nat.mul_zero, sg_zero, Rat.pow_zero]; show rsf r R n G = _; grind
 | k + 1 => by
  rw [← Nat.add_assoc, rsf_f0 (hR.mono (by omega)) hG, rsf_down hR hG k, Nat.mul_succ, sg_add, Rat.pow_succ]; grind
theorem rsf_step {m n r : Nat} {F G Q R : Nat → Rat} (h : n ≤ m) (hr : r ≤ m) (hG : Sup (n + 1) G) (hQ : Sup (m - n + 1) Q) (hR : Sup (r + 1) R) (e : F = pad (cv Q G) R) : rsf m F n G = sg (m * n) * G n ^ (m - r) * rsf n G r R := by
 rw [show F = pad R (cv Q G) from by rw [e]; funext i; simp only [pad]; grind, rsf_red h hQ]
 have h1 := rsf_down hR hG (m - r)
 rw [show r + (m - r) = m from by omega] at h1
 rw [h1, rsf_sym hR hG, show m * n = n * (m - r) + r * n from by rw [Nat.mul_sub, Nat.mul_comm n m, Nat.mul_comm n r]; have := Nat.mul_le_mul_right n hr; omega, sg_add]
 have := sg_sq (r * n)
 grind
theorem rsf_pz {m n : Nat} (G : Nat → Rat) (h : 0 < n) : rsf m pz n G = 0 := by
 unfold rsf
 have h1 := det_lin (n := m + n) (syl m pz n G) (i := 0) (by omega) 0 0 (syl m pz n G 0) (syl m pz n G 0)
 rw [show rw_ (syl m pz n G) 0 (fun c => 0 * syl m pz n G 0 c + 0 * syl m pz n G 0 c) = syl m pz n G from ?_] at h1
 ·rw [h1]; grind
 ·funext r c
  unfold rw_
  by_cases e : r = 0
  ·subst e; rw [if_pos rfl]; unfold syl; rw [if_pos h]
   have : (if c ≤ m + 0 then pz (m + 0 - c) else 0) = 0 := by split <;> rfl
   rw [this]; grind
  ·rw [if_neg e]
theorem rsf_psc {m n : Nat} (a : Rat) (F G : Nat → Rat) : rsf m (psc a F) n G = a ^ n * rsf m F n G := by
 unfold rsf
 rw [← det_scale (syl m F n G) a n (by omega)]
 refine det_congr fun r c _ _ => ?_
 unfold syl
 by_cases h : r < n
 ·rw [if_pos h, if_pos h, if_pos h]
  split
  ·rfl
  ·grind
 ·rw [if_neg h, if_neg h, if_neg h]
theorem rsf_psc' {m n : Nat} (a : Rat) {F G : Nat → Rat} (hF : Sup (m + 1) F) (hG : Sup (n + 1) G) : rsf m F n (psc a G) = a ^ m * rsf m F n G := by
 have h1 := rsf_sym (hG.psc a) hF
 have h2 := rsf_sym hG hF
 rw [h1, h2, rsf_psc]; grind
noncomputable def res (F G : Nat → Rat) : Rat := if pl F = 0 ∨ pl G = 0 then 0 else rsf (pl F - 1) F (pl G - 1) G
theorem sm_int {f : Nat → Rat} : ∀ {n : Nat}, (∀ i, i < n → ∃ z : Int, f i = (z : Rat)) → ∃ z : Int, sm n f = (z : Rat)
 | 0, _ => ⟨0, rfl⟩
 | n + 1, h => by
  obtain ⟨a, ha⟩ := sm_int (n := n) fun i hi => h i (by omega)
  obtain ⟨b, hb⟩ := h n (by omega)
  exact ⟨a + b, by rw [sm_succ, ha, hb, Rat.intCast_add]⟩
theorem sg_int (i : Nat) : ∃ z : Int, sg i = (z : Rat) := by
 unfold sg; split
 ·exact ⟨1, rfl⟩
 ·exact ⟨-1, rfl⟩
theorem det_int : ∀ {n : Nat} {A : Nat → Nat → Rat}, (∀ i j, ∃ z : Int, A i j = (z : Rat)) → ∃ z : Int, det n A = (z : Rat)
 | 0, _, _ => ⟨1, rfl⟩
 | n + 1, A, h => by
  rw [det_succ]
  refine sm_int fun i hi => ?_
  obtain ⟨a, ha⟩ := sg_int i
  obtain ⟨b, hb⟩ := h i 0
  obtain ⟨c, hc⟩ := det_int (n := n) (A := minor i A) fun r c => h _ _
  exact ⟨a * b * c, by rw [ha, hb, hc, Rat.intCast_mul, Rat.intCast_mul]⟩
theorem res_int {F G : Nat → Rat} (hF : ∀ i, ∃ z : Int, F i = (z : Rat)) (hG : ∀ i, ∃ z : Int, G i = (z : Rat)) : ∃ z : Int, res F G = (z : Rat) := by
 unfold res
 split
 ·exact ⟨0, rfl⟩
 ·refine det_int fun i j => ?_
  unfold syl
  split
  ·split
   ·exact hF _
   ·exact ⟨0, rfl⟩
  ·split
   ·exact hG _
   ·exact ⟨0, rfl⟩
end Go.Hp
namespace Go.Hp
theorem res_eq {F G : Nat → Rat} (hF : Fin_ F) (hG : Fin_ G) (h : F ≠ pz) (k : G ≠ pz) : res F G = rsf (pl F - 1) F (pl G - 1) G := by
 have := pl_pos hF h; have := pl_pos hG k
 unfold res; rw [if_neg (by omega)]
theorem sup_top {F : Nat → Rat} (h : Fin_ F) : Sup (pl F - 1 + 1) F := (pl_sup h).mono (by omega)
theorem qsz_nm (q : Rat) : sz q.num.natAbs ≤ qsz q := by unfold qsz; omega
theorem pow_int (a : Int) : ∀ n : Nat, ((a : Rat)) ^ n = ((a ^ n : Int) : Rat)
 | 0 => by rw [Rat.pow_zero, Int.pow_zero]; rfl
 | n + 1 => by rw [Rat.pow_succ, pow_int a n, Int.pow_succ, Rat.intCast_mul]
theorem pow_ne {a : Rat} (h : a ≠ 0) : ∀ n : Nat, a ^ n ≠ 0
 | 0 => by rw [Rat.pow_zero]; decide
 | n + 1 => by
  rw [Rat.pow_succ]; intro e
  rcases Rat.mul_eq_zero.1 e with e | e
  ·exact pow_ne h n e
  ·exact h e
theorem pow_mul_ (a : Rat) (m : Nat) : ∀ n : Nat, (a ^ m) ^ n = a ^ (m * n)
 | 0 => by rw [Rat.pow_zero, Nat.mul_zero, Rat.pow_zero]
 | n + 1 => by
  rw [Rat.pow_succ, pow_mul_ a m n, Nat.mul_succ]
  generalize m * n = k
  induction m with
  | zero => rw [Rat.pow_zero]; grind
  | succ m ih => rw [Rat.pow_succ, ← Nat.add_assoc, Rat.pow_succ, ← ih]; grind
theorem sz_powz (x : Int) (s : Nat) (h : sz x.natAbs ≤ s) : ∀ n : Nat, sz (x ^ n).natAbs ≤ 1 + n * s
  | 0 => by rw [Int.pow_zero]; have : sz (1 : Int).natAbs ≤ 1 := by decide
            omega
  | n + 1 => by
    rw [Int.pow_succ, Int.natAbs_mul, Nat.succ_mul]
    have h1 := sz_mul (x ^ n).natAbs x.natAbs; have h2 := sz_powz x s h n
    omega
theorem sz_powz' (x : Int) (s : Nat) (h : sz x.natAbs ≤ s) {n : Nat} (hn : 0 < n) : sz (x ^ n).natAbs ≤ n * s := by
 obtain ⟨n, rfl⟩ : ∃ k, n = k + 1 := ⟨n - 1, by omega⟩
 clear hn
 induction n with
 | zero => rw [Int.pow_succ, Int.pow_zero, Int.one_mul]; omega
 | succ n ih =>
  rw [Int.pow_succ, Int.natAbs_mul, Nat.succ_mul]
  have h1 := sz_mul (x ^ (n + 1)).natAbs x.natAbs
  omega
theorem res_round {F G : Nat → Rat} (hF : Fin_ F) (hG : Fin_ G) (hf : F ≠ pz) (hg : G ≠ pz) (h : pl G ≤ pl F) (hzF : ZI F) (hzG : ZI G) {R : Nat → Rat} (hR : R = psR F G (pl F + 1 - pl G)) (h0 : R ≠ pz) :
  res F G * ld G ^ ((pl F + 1 - pl G) * (pl G - 1)) = sg ((pl F - 1) * (pl G - 1)) * ((pcn R : Int) : Rat) ^ (pl G - 1) * ld G ^ (pl F - 1 - (pl R - 1)) * res G (pp R) := by
 have hp := pl_pos hG hg
 have hRz : ZI R := hR ▸ psR_zi hzF hzG _
 have hRs : Sup (pl G - 1) R := by
  rw [hR]; exact (psR_sup hF hG hg _ (Nat.le_refl _)).mono (by omega)
 have hRf : Fin_ R := ⟨_, hRs⟩
 have hrl := pl_le hRs
 have hrp := pl_pos hRf h0
 have hP := pp_ne hRz hRf h0
 have hPf := pp_fin hRf
 have hPl := pp_pl hRz hRf
 rw [res_eq hF hG hf hg, res_eq hG hPf hg hP, hPl, ← pow_mul_, Rat.mul_comm, ← rsf_psc]
 have e := psQR_eq (F := F) (G := G) (pl F + 1 - pl G)
 rw [← hR] at e
 rw [rsf_step (r := pl R - 1) (by omega) (by omega) (sup_top hG) ((psQ_sup h _ (Nat.le_refl _)).1.mono (by omega)) (sup_top hRf) e]
 have e2 : rsf (pl G - 1) G (pl R - 1) R = ((pcn R : Int) : Rat) ^ (pl G - 1) * rsf (pl G - 1) G (pl R - 1) (pp R) := by
  have := rsf_psc' ((pcn R : Int) : Rat) (m := pl G - 1) (n := pl R - 1) (sup_top hG) (G := pp R) (by have := sup_top hPf; rw [hPl] at this; exact this)
  rw [← pp_eq hRz hRf h0] at this
  exact this
 rw [e2]
 show _ * G (pl G - 1) ^ _ * _ = _ * _ * G (pl G - 1) ^ _ * _
 grind
theorem res_swap {F G : Nat → Rat} (hF : Fin_ F) (hG : Fin_ G) (hf : F ≠ pz) (hg : G ≠ pz) : res F G = sg ((pl F - 1) * (pl G - 1)) * res G F := by
 rw [res_eq hF hG hf hg, res_eq hG hF hg hf, rsf_sym (sup_top hF) (sup_top hG)]
 have := sg_sq ((pl F - 1) * (pl G - 1))
 grind
theorem res_zero {F G : Nat → Rat} (hF : Fin_ F) (hG : Fin_ G) (hf : F ≠ pz) (h : pl G ≤ pl F) (h1 : 1 < pl G) (hR : psR F G (pl F + 1 - pl G) = pz) : res F G = 0 := by
 have hg : G ≠ pz := fun e => by rw [e, pl_pz] at h1; omega
 have e := psQR_eq (F := F) (G := G) (pl F + 1 - pl G)
 rw [hR] at e
 have e2 : psc (ld G ^ (pl F + 1 - pl G)) F = pad pz (cv (psQ F G (pl F + 1 - pl G)) G) := by rw [e]; funext i; simp only [pad, pz]; grind
 have h3 := rsf_psc (m := pl F - 1) (n := pl G - 1) (ld G ^ (pl F + 1 - pl G)) F G
 rw [e2, rsf_red (by omega) ((psQ_sup h _ (Nat.le_refl _)).1.mono (by omega)), rsf_pz G (by omega)] at h3
 rw [res_eq hF hG hf hg]
 rcases Rat.mul_eq_zero.1 h3.symm with h4 | h4
 ·exact absurd h4 (pow_ne (pow_ne (ld_ne hG hg) _) _)
 ·exact h4
theorem res_const {F G : Nat → Rat} (hF : Fin_ F) (hG : Fin_ G) (hf : F ≠ pz) (h : pl G = 1) : res F G = G 0 ^ (pl F - 1) := by
 have hg : G ≠ pz := fun e => by rw [e, pl_pz] at h; omega
 rw [res_eq hF hG hf hg, h]
 exact rsf_gc F (h ▸ pl_sup hG) _
structure RsSt (F0 G0 : Nat → Rat) (D S : Nat) (F G : Nat → Rat) (x y : Int) : Prop where
 fF : Fin_ F
 fG : Fin_ G
 nF : F ≠ pz
 nG : G ≠ pz
 zF : ZI F
 zG : ZI G
 eq : res F0 G0 * (y : Rat) = (x : Rat) * res F G
 ny : y ≠ 0
 len : pl F + pl G ≤ D
 qF : ∀ i, qsz (F i) + 1 ≤ (S + 1) * 2 ^ (D - (pl F + pl G))
 qG : ∀ i, qsz (G i) + 1 ≤ (S + 1) * 2 ^ (D - (pl F + pl G))
 sx : sz x.natAbs ≤ 1 + (D - (pl F + pl G)) * (D * ((S + 1) * 2 ^ D))
 sy : sz y.natAbs ≤ 1 + (D - (pl F + pl G)) * (D * ((S + 1) * 2 ^ D))
theorem RsSt.start {F G : Nat → Rat} {S : Nat} (hF : Fin_ F) (hG : Fin_ G) (hf : F ≠ pz) (hg : G ≠ pz) (zF : ZI F) (zG : ZI G) (qF : ∀ i, qsz (F i) ≤ S) (qG : ∀ i, qsz (G i) ≤ S) : RsSt F G (pl F + pl G) S F G 1 1 :=
  ⟨hF, hG, hf, hg, zF, zG, by grind, by decide, Nat.le_refl _, fun i => by have := qF i; rw [Nat.sub_self, Nat.pow_zero]; omega, fun i => by have := qG i; rw [Nat.sub_self, Nat.pow_zero]; omega,
    by have : sz (1 : Int).natAbs ≤ 1 := by decide
       omega, by have : sz (1 : Int).natAbs ≤ 1 := by decide
                 omega⟩
def sgz (k : Nat) (x : Int) : Int := if k % 2 = 1 then -x else x
theorem sgz_q (k : Nat) (x : Int) : ((sgz k x : Int) : Rat) = sg k * (x : Rat) := by
 unfold sgz sg
 rcases Nat.mod_two_eq_zero_or_one k with h | h
 ·rw [if_neg (by omega), if_pos h]; grind
 ·rw [if_pos h, if_neg (by omega), Rat.intCast_neg]; grind
theorem sgz_abs (k : Nat) (x : Int) : (sgz k x).natAbs = x.natAbs := by unfold sgz; split <;> simp
theorem RsSt.swap {F0 G0 F G : Nat → Rat} {D S : Nat} {x y : Int} (h : RsSt F0 G0 D S F G x y) : RsSt F0 G0 D S G F (sgz ((pl F - 1) * (pl G - 1)) x) y :=
 ⟨h.fG, h.fF, h.nG, h.nF, h.zG, h.zF, by rw [h.eq, res_swap h.fF h.fG h.nF h.nG, sgz_q]; grind, h.ny, by have := h.len; omega, by rw [Nat.add_comm (pl G)]; exact h.qG, by rw [Nat.add_comm (pl G)]; exact h.qF,
  by rw [sgz_abs, Nat.add_comm (pl G)]; exact h.sx, by rw [Nat.add_comm (pl G)]; exact h.sy⟩
theorem two_le_pow (d : Nat) : d + 1 ≤ 2 ^ d := by
 induction d with
 | zero => decide
 | succ d ih => rw [Nat.pow_succ]; omega
theorem RsSt.room {F0 G0 F G : Nat → Rat} {D S : Nat} {x y : Int} (h : RsSt F0 G0 D S F G x y) (hl : pl G ≤ pl F) {R : Nat → Rat} (hR : R = psR F G (pl F + 1 - pl G)) :
  (∀ i, qsz (F i) ≤ (S + 1) * 2 ^ D) ∧ (∀ i, qsz (G i) ≤ (S + 1) * 2 ^ D) ∧ (∀ i, qsz (R i) + 1 ≤ (S + 1) * 2 ^ (D - (pl F + pl G) + (pl F + 1 - pl G))) := by
 have up : ∀ a : Nat, a ≤ D → (S + 1) * 2 ^ a ≤ (S + 1) * 2 ^ D := fun a ha => Nat.mul_le_mul_left _ (Nat.pow_le_pow_right (by decide) ha)
 have h1 := up (D - (pl F + pl G)) (by omega)
 refine ⟨fun i => by have := h.qF i; omega, fun i => by have := h.qG i; omega, fun i => ?_⟩
 obtain ⟨M, hM⟩ : ∃ M, M = (S + 1) * 2 ^ (D - (pl F + pl G)) := ⟨_, rfl⟩
 have hp : 0 < M := by rw [hM]; exact Nat.mul_pos (by omega) (Nat.pow_pos (by decide))
 have h2 := psR_qsz (s := M - 1) (t := M - 1) h.zF h.zG (fun i => by have := h.qF i; omega) (fun i => by have := h.qG i; omega) (pl F + 1 - pl G) i
 rw [← hR] at h2
 rw [Nat.pow_add, ← Nat.mul_assoc, ← hM]
 have h3 := two_le_pow (pl F + 1 - pl G)
 have h4 : M * (pl F + 1 - pl G + 1) ≤ M * 2 ^ (pl F + 1 - pl G) := Nat.mul_le_mul_left _ h3
 rw [Nat.mul_succ, Nat.mul_comm M] at h4
 rw [show M - 1 + 1 = M from by omega] at h2
 omega
theorem RsSt.step {F0 G0 F G : Nat → Rat} {D S : Nat} {x y : Int} (h : RsSt F0 G0 D S F G x y) (h1 : 1 < pl G) (hl : pl G ≤ pl F) {R : Nat → Rat} (hR : R = psR F G (pl F + 1 - pl G)) (h0 : R ≠ pz) :
  RsSt F0 G0 D S G (pp R) (sgz ((pl F - 1) * (pl G - 1)) x * pcn R ^ (pl G - 1) * (ld G).num ^ (pl F - 1 - (pl R - 1))) (y * (ld G).num ^ ((pl F + 1 - pl G) * (pl G - 1))) := by
 have hRz : ZI R := hR ▸ psR_zi h.zF h.zG _
 have hRs : Sup (pl G - 1) R := by rw [hR]; exact (psR_sup h.fF h.fG h.nG _ (Nat.le_refl _)).mono (by omega)
 have hRf : Fin_ R := ⟨_, hRs⟩
 have hrl := pl_le hRs
 have hrp := pl_pos hRf h0
 have hPl := pp_pl hRz hRf
 have hld : ld G = ((ld G).num : Rat) := h.zG.num _
 have hldn : (ld G).num ≠ 0 := fun e => ld_ne h.fG h.nG (by rw [hld, e]; rfl)
 obtain ⟨b1, b2, b3⟩ := h.room hl hR
 have hlen := h.len
 obtain ⟨M, hM⟩ : ∃ M, M = (S + 1) * 2 ^ D := ⟨_, rfl⟩
 have hup : ∀ a : Nat, a ≤ D → (S + 1) * 2 ^ a ≤ M := fun a ha => by rw [hM]; exact Nat.mul_le_mul_left _ (Nat.pow_le_pow_right (by decide) ha)
 have hRq : ∀ i, qsz (R i) ≤ M := fun i => by
  have a := b3 i; have b := hup (D - (pl F + pl G) + (pl F + 1 - pl G)) (by omega); omega
 have hmono : ∀ a b : Nat, a ≤ b → (S + 1) * 2 ^ a ≤ (S + 1) * 2 ^ b := fun a b hab => Nat.mul_le_mul_left _ (Nat.pow_le_pow_right (by decide) hab)
 have hsld : sz (ld G).num.natAbs ≤ M := by
  have a := qsz_nm (G (pl G - 1)); have b := b2 (pl G - 1); show sz (G (pl G - 1)).num.natAbs ≤ M; omega
 have hspc : sz (pcn R).natAbs ≤ M := by rw [pcn_abs]; exact cn_sz hRq _
 obtain ⟨d, hd⟩ : ∃ d, d = pl F - pl R := ⟨_, rfl⟩
 have hD : D - (pl G + pl R) = D - (pl F + pl G) + d := by omega
 refine ⟨h.fG, pp_fin hRf, h.nG, pp_ne hRz hRf h0, h.zG, pp_zi hRz hRf, ?_, ?_, by rw [hPl]; omega, fun i => ?_, fun i => ?_, ?_, ?_⟩
 ·have e := res_round h.fF h.fG h.nF h.nG hl h.zF h.zG hR h0
  have e2 := h.eq
  rw [Rat.intCast_mul, Rat.intCast_mul, Rat.intCast_mul, ← pow_int, ← pow_int, ← pow_int, ← hld, sgz_q]
  grind
 ·exact Int.mul_ne_zero h.ny (Int.pow_ne_zero hldn)
 ·rw [hPl, hD]; exact Nat.le_trans (h.qG i) (hmono _ _ (by omega))
 ·have a := pp_qsz hRz hRf (s := (S + 1) * 2 ^ (D - (pl F + pl G) + (pl F + 1 - pl G)) - 1) (fun i => by have := b3 i; omega) i
  have b := hmono (D - (pl F + pl G) + (pl F + 1 - pl G)) (D - (pl F + pl G) + d) (by omega)
  have c := qsz_pos (pp R i)
  have p : 0 < (S + 1) * 2 ^ (D - (pl F + pl G) + (pl F + 1 - pl G)) := Nat.mul_pos (by omega) (Nat.pow_pos (by decide))
  rw [hPl, hD]; omega
 ·rw [hPl, hD, Nat.add_mul, ← hM, Int.natAbs_mul, Int.natAbs_mul, sgz_abs]
  have a1 := h.sx
  rw [← hM] at a1
  have a2 := sz_mul (x.natAbs * (pcn R ^ (pl G - 1)).natAbs) ((ld G).num ^ (pl F - 1 - (pl R - 1))).natAbs
  have a3 := sz_mul x.natAbs (pcn R ^ (pl G - 1)).natAbs
  have a4 := sz_powz' _ _ hspc (n := pl G - 1) (by omega)
  have a5 := sz_powz' _ _ hsld (n := pl F - 1 - (pl R - 1)) (by omega)
  rw [show pl F - 1 - (pl R - 1) = d from by omega] at a2 a5 ⊢
  have a6 : (pl G - 1) * M + d * M ≤ d * (D * M) := by
   have c1 : (pl G - 1 + d) * M ≤ (d * D) * M := Nat.mul_le_mul_right _ (by
    have c2 : d * (pl G) ≤ d * D := Nat.mul_le_mul_left _ (by omega)
    have c3 : 1 * (pl G - 1) ≤ d * (pl G - 1) := Nat.mul_le_mul_right _ (by omega)
    have c4 : d * (pl G) = d * (pl G - 1) + d := by rw [← Nat.mul_succ]; congr 1; omega
    omega)
   rw [Nat.add_mul, Nat.mul_assoc] at c1; exact c1
  omega
 ·rw [hPl, hD, Nat.add_mul, ← hM, Int.natAbs_mul]
  have a1 := h.sy
  rw [← hM] at a1
  have a2 := sz_mul y.natAbs ((ld G).num ^ ((pl F + 1 - pl G) * (pl G - 1))).natAbs
  have a4 := sz_powz' _ _ hsld (n := (pl F + 1 - pl G) * (pl G - 1)) (Nat.mul_pos (by omega) (by omega))
  have a6 : (pl F + 1 - pl G) * (pl G - 1) * M ≤ d * (D * M) := by
   rw [Nat.mul_assoc]
   exact Nat.mul_le_mul (by omega) (Nat.mul_le_mul_right _ (by omega))
  omega
theorem RsSt.end_ {F0 G0 F G : Nat → Rat} {D S : Nat} {x y : Int} (h : RsSt F0 G0 D S F G x y) (h1 : pl G = 1) (hz : ∃ z : Int, res F0 G0 = (z : Rat)) :
  y ∣ x * (G 0).num ^ (pl F - 1) ∧ x * (G 0).num ^ (pl F - 1) / y = (res F0 G0).num := by
 obtain ⟨z, hz⟩ := hz
 have e := h.eq
 rw [res_const h.fF h.fG h.nF h1, h.zG.num 0, pow_int, ← Rat.intCast_mul, hz, ← Rat.intCast_mul] at e
 have e2 := int_cast_inj e
 rw [← e2, hz]
 exact ⟨⟨z, Int.mul_comm _ _⟩, by rw [Int.mul_ediv_cancel _ h.ny]; rfl⟩
end Go.Hp
namespace Go.Hp
theorem take_of_trim {ds : List Nat} {m : Nat} (h : ds.take m = trim ds) (hm : m ≤ ds.length) : (trim ds).length = m := by rw [← h, List.length_take]; omega
end Go.Hp
namespace Go.Proofs.YtfacbpnegkjcgaaDoor
open Go.RowKit Go.Hp
def DigO (base : Nat) (w : World) (v : Value) (ds : List Nat) : Prop := DigV w v ds ∧ (0 < ds.length → ∀ a n c, v = .slice (some a) n c → base ≤ a.block)
theorem DigO.of_own {w : World} {base e n : Nat} {v : Value} {ds : List Nat} (h : w.ownsRow base e 1 v n (ds.map fun d => Value.int .u32 (d : Nat))) (hd : ∀ d ∈ ds, d < 4294967296) : DigO base w v ds :=
 ⟨DigV.of_own h hd, fun _ a n c e => by
  obtain ⟨_, h | ⟨g, cap, cur, h1, h2, _⟩⟩ := h
  ·rw [h.1] at e; cases e
  ·rw [h1] at e; cases e; exact h2⟩
theorem append_nothing {P : Program} (w : World) (t ty e : TypeId) (i : TypeInfo) (ht : P.underlying t = some (.slice e)) (hi : P.info? e = some i) (g c : Nat) :
  (Builtin.append_ #[t, t] ty #[.slice (some ⟨g, 0, none⟩) 0 0, .slice none 0 c]).run P w = .ok (.slice (some ⟨g, 0, none⟩) 0 0) w := by
 simp [Builtin.append_, run_underlying ht, sizeOf, typeInfo, hi, Builtin.lenOf, run_firstCells_none, storeCells]
set_option maxHeartbeats 1000000 in
theorem trim_own (v : Value) (ds : List Nat) (w : World) (h : DigV w v ds) (hn : ds.length ≤ 8796093022208) : Calls Tryd.prog 32 #[v] w (Gives w fun r w' => DigO w.heap.size w' r (trim ds)) := by
 obtain ⟨A, c, rfl, hl, hc, hd, hA⟩ := h
 have HA := Lib.hid hA; have HD := Lib.hid hd; clear hA hd
 obtain ⟨i0, hi, hz0, hz1, hz2⟩ := info_parts info_u32
 have HI := Lib.hid (And.intro hi (And.intro hz0 (And.intro hz1 hz2))); clear hi hz0 hz1 hz2
 go_enter Tryd.func32, Tryd.ntmps32
 go_wp2
 go_loop [3] (fun v => ∃ m : Nat, m ≤ ds.length ∧ v = .int .i64 m ∧ ∀ j, m ≤ j → (h : j < ds.length) → ds[j] = 0) (fun v => (intOf v).toNat)
 case atStart => exact ⟨ds.length, Nat.le_refl _, rfl, fun j h1 h2 => by omega⟩
 case round =>
  obtain ⟨m, hm, rfl, hz⟩ := hrel
  have Hz := Lib.hid hz; clear hz
  by_cases hgo : ∃ h : 0 < m, ds[m - 1]'(by omega) = 0
  ·obtain ⟨h0, hd0⟩ := hgo
   obtain ⟨m, rfl⟩ : ∃ k, m = k + 1 := ⟨m - 1, by omega⟩
   obtain ⟨a, rfl, hcell⟩ := HA.out (by omega)
   have hcm := hcell m (by omega)
   have hb : (((ds[m]'(by omega) : Nat) : Int) == 0) = true := by simpa using hd0
   clear hcell
   have Hd0 := Lib.hid hd0; clear hd0
   go_wp2
   go_round
   case rel => exact ⟨m, by omega, by go_num, fun j h1 h2 => by
    rcases Nat.eq_or_lt_of_le h1 with e | e
    ·subst e; exact Hd0.out
    ·exact Hz.out j (by omega) h2⟩
   case measure => simp [intOf] <;> omega
  ·have ht := trim_take hm Hz.out (fun h hh e => hgo ⟨hh, e⟩)
   have hlen := take_of_trim ht hm
   have HT := Lib.hid (And.intro ht hlen); clear ht hlen
   have hcase : m = 0 ∨ ∃ k, m = k + 1 ∧ ∃ h : k < ds.length, ds[k] ≠ 0 := by
    rcases Nat.eq_zero_or_pos m with h | h
    ·exact .inl h
    ·exact .inr ⟨m - 1, by omega, by omega, fun e => hgo ⟨h, e⟩⟩
   clear hgo
   obtain ⟨news, hnw⟩ : ∃ news : List Value, news = (trim ds).map fun d => Value.int .u32 (d : Nat) := ⟨_, rfl⟩
   have fin : ∀ (v' : Value) (w' : World), w'.ownsRow w.heap.size 57 1 v' m news → DigO w.heap.size w' v' (trim ds) := by
    intro v' w' h
    rw [hnw] at h
    exact DigO.of_own h (trim_digs HD.out)
   have Hfin := Lib.hid fin; clear fin
   have hnews : ∀ a, A = some a → ∀ (j : Nat) (u : Value), news[j]? = some u → w.cell? (a.add j) = some u := by
    intro a ha j u hu
    rw [hnw, ← HT.out.1, List.getElem?_map] at hu
    rcases Nat.lt_or_ge j (ds.take m).length with h | h
    ·rw [List.getElem?_eq_getElem h] at hu
     have hj : j < ds.length := by have := List.length_take_le' m ds; omega
     obtain ⟨a', ha', hc⟩ := HA.out (by omega)
     rw [ha] at ha'; cases ha'
     rw [hc j hj]; simpa using hu
    ·rw [List.getElem?_eq_none h] at hu; cases hu
   have Hn := Lib.hid hnews; clear hnews
   have hone : news.length = m * 1 ∧ ∀ u ∈ news, u.oneCell' = true := by
    rw [hnw]
    refine ⟨by simp [HT.out.2], fun u hu => ?_⟩
    simp at hu; obtain ⟨d, _, rfl⟩ := hu; rfl
   have Ho := Lib.hid hone; clear hone hnw
   rcases hcase with h0 | ⟨k, h0, hk, hd0⟩
   ·obtain rfl : m = 0 := h0
    cases A with
    | none =>
     have hds : ds = [] := by
      rcases Nat.eq_zero_or_pos ds.length with h | h
      ·exact List.eq_nil_of_length_eq_zero h
      ·obtain ⟨a, ha, _⟩ := HA.out h; cases ha
     clear Hfin Hn HT HA Hz HD hl hm hn Ho
     subst hds
     have hap := fun W ty g c' => append_nothing (P := Tryd.prog) W 26 ty 57 i0 Tryd.underlying26 HI.out.1 g c'
     go_wp2
     go_ret
     exact Gives.mk ⟨⟨_, 0, rfl, Nat.le_refl _, by omega, Digs.nil, fun h => absurd h (by simp [trim_nil])⟩, fun h => absurd h (by simp [trim_nil])⟩ ((Ext.refl _).alloc _)
    | some a =>
     clear Hz hm
     go_wp2_with (at_builtin; refine wpList_append_own _ rfl _ _ 26 rfl w.heap.size 57 i0 (.int .u32 0) 1 4 Tryd.underlying26 HI.out.1 HI.out.2.1 HI.out.2.2.1 HI.out.2.2.2 rfl (by decide) _ _ _ rfl (World.ownsRow_made w #[] 0 (Nat.le_refl _) (by simp [maxLen]) rfl) a (0) c news rfl Ho.out.1 ?c1 ?c2 ?c3 ?c4 ?c5 ?_)
     case c1 => intro j u hu; exact ((Ext.refl w).alloc _).cell (Hn.out a rfl j u hu)
     case c2 => exact Ho.out.2
     try (case c3 => simp only [maxLen]; omega)
     try (case c4 => omega)
     try (case c5 => simp)
     intro v' w' hown hg _
     have Hown := Lib.hid hown; clear hown
     go_wp2
     go_ret
     refine Gives.mk (Hfin.out _ _ Hown.out) (((Ext.refl w).alloc _).grown hg ?_)
     intro k hk
     simp [Value.ownBlock] at hk
     omega
   ·obtain rfl : m = k + 1 := h0
    obtain ⟨a, rfl, hcell⟩ := HA.out (by omega)
    have hcm := hcell k (by omega)
    have hb : (((ds[k]'(by omega) : Nat) : Int) == 0) = false := by simpa using hd0
    clear hcell hd0 Hz
    go_wp2_with (at_builtin; refine wpList_append_own _ rfl _ _ 26 rfl w.heap.size 57 i0 (.int .u32 0) 1 4 Tryd.underlying26 HI.out.1 HI.out.2.1 HI.out.2.2.1 HI.out.2.2.2 rfl (by decide) _ _ _ rfl (World.ownsRow_made w #[] 0 (Nat.le_refl _) (by simp [maxLen]) rfl) a (k + 1) c news rfl Ho.out.1 ?d1 ?d2 ?d3 ?d4 ?d5 ?_)
    case d1 => intro j u hu; exact ((Ext.refl w).alloc _).cell (Hn.out a rfl j u hu)
    case d2 => exact Ho.out.2
    try (case d3 => simp only [maxLen]; omega)
    try (case d4 => omega)
    try (case d5 => simp)
    intro v' w' hown hg _
    have Hown := Lib.hid hown; clear hown
    go_wp2
    go_ret
    refine Gives.mk (Hfin.out _ _ Hown.out) (((Ext.refl w).alloc _).grown hg ?_)
    intro k hk
    simp [Value.ownBlock] at hk
    omega
theorem trim_ref (v : Value) (ds : List Nat) (w : World) (h : DigV w v ds) (hn : ds.length ≤ 8796093022208) : Calls Tryd.prog 32 #[v] w (Gives w fun r w' => DigV w' r (trim ds)) :=
 Gives.imp (trim_own v ds w h hn) fun _ _ h => h.1
end Go.Proofs.YtfacbpnegkjcgaaDoor
namespace Go.Proofs.YtfacbpnegkjcgaaDoor
open Go.RowKit Go.Hp
theorem trim_num (v : Value) (N l : Nat) (w : World) (h : NumV w v N l) (hl : l ≤ 8796093022208) : Calls Tryd.prog 32 #[v] w (Gives w fun r w' => NatV w' r N) := by
 obtain ⟨ds, h1, rfl, h3⟩ := h
 exact Gives.imp (trim_ref v ds w h1 (by omega)) fun _ _ h => ⟨trim ds, h, trim_nv ds, trim_top ds⟩
set_option maxHeartbeats 1000000 in
theorem norm_r (v : Value) (x : Int) (w : World) (hv : HasZ w v x) : Calls Tryd.prog 38 #[v] w (Gives w fun r w' => IsZ w' r x) := by
 obtain ⟨neg, A, n, c, N, rfl, h1, h2, h3, hN, hx⟩ := hv.form
 have HN := Lib.hid hN; clear hN hv
 have Hx := Lib.hid hx; clear hx
 go_enter Tryd.func38, Tryd.ntmps38
 go_wp2_with fail
 refine Calls.mono (trim_num _ N n _ (HN.out.ext (((Ext.refl w).alloc _).alloc _)) (by omega)) ?_
 rintro e w1 ⟨r, rfl, hr, hx1⟩
 obtain ⟨A', c', rfl, q1, q2⟩ := hr.form
 have hc1 := hx1.cells
 have hf1 := hx1.frozens
 cases neg
 ·skip
  have hz := IsZ.mk (neg := false) hr (fun h => by cases h)
  have ez : (if false = true then -(N : Int) else (N : Int)) = x := (by rw [Hx.out])
  rw [ez] at hz
  have Hfin := Lib.hid (fin_z hz hx1.a2 (NoDig.at_ hx1 (g := w.heap.size + 1) (by simp) (by simp [isDig])) (by omega))
  clear hr hz ez
  go_wp2
  refine bodyPost_ret (v := .agg #[.bool false, .slice A' (sz N) c']) (by simp [results, Tryd.results38, go_sem, hc1]) rfl ?_
  exact Hfin.out
 ·by_cases h0 : N = 0
  ·have hb : decide (0 < sz N) = false := by subst h0; rfl
   have H0 := Lib.hid h0; clear h0
   have hz := IsZ.mk (neg := false) hr (fun h => by cases h)
   have ez : (if false = true then -(N : Int) else (N : Int)) = x := (by rw [Hx.out, H0.out]; simp)
   rw [ez] at hz
   have Hfin := Lib.hid (fin_z hz hx1.a2 (NoDig.at_ hx1 (g := w.heap.size + 1) (by simp) (by simp [isDig])) (by omega))
   clear hr hz ez
   go_wp2
   refine bodyPost_ret (v := .agg #[.bool false, .slice A' (sz N) c']) (by simp [results, Tryd.results38, go_sem, hc1]) rfl ?_
   exact Hfin.out
  ·have hb : decide (0 < sz N) = true := by have := sz_pos h0; simpa using this
   have H0 := Lib.hid h0; clear h0
   have hz := IsZ.mk (neg := true) hr (fun _ => H0.out)
   have ez : (if true = true then -(N : Int) else (N : Int)) = x := (by rw [Hx.out])
   rw [ez] at hz
   have Hfin := Lib.hid (fin_z hz hx1.a2 (NoDig.at_ hx1 (g := w.heap.size + 1) (by simp) (by simp [isDig])) (by omega))
   clear hr hz ez
   go_wp2
   refine bodyPost_ret (v := .agg #[.bool true, .slice A' (sz N) c']) (by simp [results, Tryd.results38, go_sem, hc1]) rfl ?_
   exact Hfin.out
theorem signed_r (x : Int) (neg : Bool) (v : Value) (N l : Nat) (w : World) (hx : x = if neg then -(N : Int) else N) (hv : NumV w v N l) (hl : l ≤ 1099511627776) : Calls Tryd.prog 33 #[.bool neg, v] w (Gives w fun r w' => IsZ w' r x) := by
 obtain ⟨ds, h1, hnv, h3⟩ := hv
 have hz : HasZ w (.agg #[.bool neg, v]) x := ⟨neg, ds, ⟨v, rfl, h1⟩, by unfold iv; rw [hnv, hx], by omega⟩
 have Hz := Lib.hid hz; clear hz
 obtain ⟨A, c, rfl, hl', hc, hA⟩ := h1
 clear hx hnv hA
 go_enter Tryd.func33, Tryd.ntmps33
 go_wp2_with fail
 refine Calls.mono (norm_r _ x _ (Hz.out.ext ((Ext.refl w).alloc _))) ?_
 rintro e w1 ⟨r, rfl, hr, hx1⟩
 obtain ⟨b5, A5, n5, c5, rfl⟩ := hr.cells
 have hc1 := hx1.cells
 have hf1 := hx1.frozens
 have Hfin := Lib.hid (fin_z hr hx1.a1 (NoDig.at_ hx1 (g := w.heap.size + 0) (by simp) (by simp [isDig])) (by omega))
 clear hr
 go_wp2
 refine bodyPost_ret (v := .agg #[.bool b5, .slice A5 n5 c5]) (by simp [results, Tryd.results33, go_sem, hc1]) rfl ?_
 exact Hfin.out
theorem sign_r (v : Value) (x : Int) (w : World) (hv : HasZ w v x) : Calls Tryd.prog 14 #[v] w (Gives w fun r _ => r = .int .i64 x.sign) := by
 have HV := Lib.hid hv
 obtain ⟨neg, A, n, c, N, rfl, h1, h2, h3, hN, hx⟩ := hv.form
 clear hN hv hx
 go_enter Tryd.func14, Tryd.ntmps14
 go_wp2_with fail
 refine Calls.mono (norm_r _ x _ (HV.out.ext ((Ext.refl w).alloc _))) ?_
 rintro e w1 ⟨r, rfl, hr, hx1⟩
 obtain ⟨A5, c5, rfl, q1, q2, hr2⟩ := hr.form
 clear hr hr2
 rcases Int.lt_trichotomy x 0 with h | h | h
 ·have hb : (((sz x.natAbs : Nat) : Int) == 0) = false := by have := sz_pos (n := x.natAbs) (by omega); simp; omega
  have hb2 : decide (x < 0) = true := by simpa using h
  have Hs := Lib.hid (Int.sign_eq_neg_one_of_neg h); clear h
  go_wp2
  go_ret
  exact Gives.mk (by rw [Hs.out]; rfl) (hx1.a1.alloc _)
 ·have hb : (((sz x.natAbs : Nat) : Int) == 0) = true := by subst h; rfl
  have Hs := Lib.hid (show x.sign = 0 by rw [h]; rfl); clear h
  go_wp2
  go_ret
  exact Gives.mk (by rw [Hs.out]; rfl) (hx1.a1.alloc _)
 ·have hb : (((sz x.natAbs : Nat) : Int) == 0) = false := by have := sz_pos (n := x.natAbs) (by omega); simp; omega
  have hb2 : decide (x < 0) = false := by simp; omega
  have Hs := Lib.hid (Int.sign_eq_one_of_pos h); clear h
  go_wp2
  go_ret
  exact Gives.mk (by rw [Hs.out]; rfl) (hx1.a1.alloc _)
theorem of_r (x : Int) (w : World) (h1 : -9223372036854775808 ≤ x) (h2 : x < 9223372036854775808) : Calls Tryd.prog 39 #[.int .i64 x] w (Gives w fun r w' => IsZ w' r x) := by
 have key : ∀ (n g : Nat) (W : World) (t : TypeId) (a b : Int), a = (n % 4294967296 : Nat) → b = (n / 4294967296 : Nat) → g = W.heap.size → n < 18446744073709551616 → NumV (W.alloc (.cells #[.int .u32 a, .int .u32 b] t)) (.slice (some ⟨g, 0, none⟩) 2 2) n 2 := by
  intro n g W t a b ha hb hg hn
  subst ha hb hg
  have hb : DBlk (W.alloc (.cells #[.int .u32 (n % 4294967296 : Nat), .int .u32 (n / 4294967296 : Nat)] t)) W.heap.size t [n % 4294967296, n / 4294967296] := dblk_lit2 (heap_alloc_new W _)
  exact ⟨_, hb.digv (Digs.cons (by omega) (Digs.cons (by omega) Digs.nil)) (c := 2) (by simp) (by omega), by simp [nv_cons, nv_nil]; omega, by simp⟩
 have Hk := Lib.hid key; clear key
 go_enter Tryd.func39, Tryd.ntmps39
 by_cases hneg : x < 0
 ·have hb : decide (x < 0) = true := by simpa using hneg
  have hw := wrap_neg h1 hneg
  have Hw := Lib.hid hw; clear hw
  go_wp2_with fail
  refine Calls.mono (signed_r x true _ x.natAbs 2 _ (by rw [if_pos rfl]; omega) (Hk.out x.natAbs _ _ _ _ _ (by rw [Hw.out]; omega) (by rw [Hw.out]; omega) (by simp) (by omega)) (by omega)) ?_
  rintro e w1 ⟨r, rfl, hr, hx1⟩
  replace hx1 := hx1.a1
  obtain ⟨b5, A5, n5, c5, rfl⟩ := hr.cells
  have hc1 := hx1.cells
  have hf1 := hx1.frozens
  have Hfin := Lib.hid (fin_z hr hx1.a1 (NoDig.at_ hx1 (g := w.heap.size + 0) (by simp) (by simp [isDig])) (by omega))
  clear hr
  go_wp2
  refine bodyPost_ret (v := .agg #[.bool b5, .slice A5 n5 c5]) (by simp [results, Tryd.results39, go_sem, hc1]) rfl ?_
  exact Hfin.out
 ·have hb : decide (x < 0) = false := by simpa using hneg
  go_wp2_with fail
  refine Calls.mono (signed_r x false _ x.natAbs 2 _ (by rw [if_neg (by decide)]; omega) (Hk.out x.natAbs _ _ _ _ _ (by omega) (by omega) (by simp) (by omega)) (by omega)) ?_
  rintro e w1 ⟨r, rfl, hr, hx1⟩
  replace hx1 := hx1.a1
  obtain ⟨b5, A5, n5, c5, rfl⟩ := hr.cells
  have hc1 := hx1.cells
  have hf1 := hx1.frozens
  have Hfin := Lib.hid (fin_z hr hx1.a1 (NoDig.at_ hx1 (g := w.heap.size + 0) (by simp) (by simp [isDig])) (by omega))
  clear hr
  go_wp2
  refine bodyPost_ret (v := .agg #[.bool b5, .slice A5 n5 c5]) (by simp [results, Tryd.results39, go_sem, hc1]) rfl ?_
  exact Hfin.out
end Go.Proofs.YtfacbpnegkjcgaaDoor
