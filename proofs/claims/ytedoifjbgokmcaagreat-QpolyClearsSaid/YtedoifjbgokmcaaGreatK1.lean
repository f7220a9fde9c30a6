/- Lemmas: The memory words of the half-plane proofs: what a value reads as, kept under growth of the world. The memory words of the half-plane proofs: digits and integers. Digits to the base 2^32 as lists of numbers: plain arithmetic, no program in sight. One digit of a long quotient: the guess out of the first digits is right but for one. Plain arithmetic. How many digits a number has. Plain arithmetic. Integers in memory: their forms. Plain. Boxes: blocks of a call's own that hold no digits, as whole blocks. A region that draws its order, walked once: each operation of its first part is shown to do its work in every world that has grown; the rest follows in the text's order. The walks of math/bits, slices.Clone and bigint.sign. The walks of the inner functions of bigint: digits. The walks of the inner functions of bigint: products and quotients of digits. -/
import Derived.WalkKit
import Derived.Below
import Derived.Deep.Draws
import Derived.Orders
import Derived.Tactics
import Derived.Test.YtedoifjbgokmcaaGreatProg
import Derived.IntWalk
import Derived.Laws.BitsAllLaws
import Derived.Laws.AppendOwn
import Derived.WalkSpells
import Derived.Lib.Strings
import Derived.Lib.Slices
import Derived.Lib.Small
import Derived.Lib.Walk
import Derived.Lib.BitFns
import Derived.Lib.Hide
import Derived.Outline
set_option linter.unusedVariables false
set_option linter.unusedSimpArgs false
namespace Go.Hp
open Go.RowKit
/-- w' is w with more blocks: every block of w is as it was. -/
def Ext (w w' : World) : Prop := Below w.heap.size w w'
section
variable {a w w' : World}
theorem Ext.refl (w : World) : Ext w w := Below.refl _ _
theorem Ext.size (h : Ext a w) : a.heap.size ≤ w.heap.size := Below.size h
theorem Ext.trans {b c : World} (h : Ext a b) (k : Ext b c) : Ext a c := Below.trans h (Below.mono k h.size)
theorem Ext.alloc (h : Ext a w) (o : Obj) : Ext a (w.alloc o) := Below.alloc h h.size o
theorem Ext.drew (h : Ext a w) : Ext a w.drew := Below.drew h
theorem Ext.drewN (h : Ext a w) (n : Nat) : Ext a (w.drewN n) := by
  have h : Below a.heap.size a w := h
  exact ⟨h.os, h.tape, h.output, h.size, h.block⟩
theorem Ext.setCell (h : Ext a w) (p : Addr) (u : Value) (hp : a.heap.size ≤ p.block) : Ext a (w.setCell p u) := Below.setCell h hp u
theorem Ext.grown (h : Ext a w) {row : Option Nat} (hg : w.grownBy w' row) (hr : ∀ k, row = some k → a.heap.size ≤ k) : Ext a w' := Below.grown h hg h.size hr
theorem Ext.cell (h : Ext a w) {p : Addr} {v : Value} (hp : a.cell? p = some v) : w.cell? p = some v :=
  (Below.cell h (World.block_lt_of_cell? a p hp)).trans hp
theorem Ext.cells (h : Ext a w) : ∀ b o, b < a.heap.size → w.cell? ⟨b, o, none⟩ = a.cell? ⟨b, o, none⟩ := fun b o hb => Below.cell (p := ⟨b, o, none⟩) h hb
theorem Ext.frozens (h : Ext a w) : ∀ b o, b < a.heap.size → w.frozen? ⟨b, o, none⟩ = a.frozen? ⟨b, o, none⟩ := fun b o hb => Below.frozen (p := ⟨b, o, none⟩) h hb
theorem Ext.blk (h : Ext a w) {g : Nat} {o : Obj} (hg : a.heap[g]? = some o) : w.heap[g]? = some o := by
  have hlt : g < a.heap.size := by
    rcases Nat.lt_or_ge g a.heap.size with hlt | hge
    · exact hlt
    · rw [Array.getElem?_eq_none hge] at hg; cases hg
  exact (Below.block h g hlt).trans hg
end
/-- Behind a call: it gave back a value of which R holds, and the world has only grown. -/
def Gives (w : World) (R : Value → World → Prop) (e : Ending) (w' : World) : Prop := ∃ v, e = .returned v ∧ R v w' ∧ Ext w w'
theorem Gives.mk {w w' : World} {R : Value → World → Prop} {v : Value} (hr : R v w') (he : Ext w w') : Gives w R (.returned v) w' := ⟨v, rfl, hr, he⟩
theorem Gives.imp {P : Program} {f : FuncId} {args : Array Value} {w : World} {R R' : Value → World → Prop} (h : Calls P f args w (Gives w R)) (hi : ∀ v w', R v w' → R' v w') : Calls P f args w (Gives w R') :=
  h.mono fun _ _ ⟨v, he, hr, hx⟩ => ⟨v, he, hi _ _ hr, hx⟩
end Go.Hp
namespace Go.Hp
open Go.RowKit
/-- From A on the world w holds the digits ds. -/
def DigAt (w : World) (A : Option Addr) (ds : List Nat) : Prop :=
  (∀ d ∈ ds, d < 4294967296) ∧ (0 < ds.length → ∃ a, A = some a ∧ ∀ j (h : j < ds.length), w.cell? (a.add j) = some (.int .u32 (ds[j] : Nat)))
theorem DigAt.ext {w w' : World} {A : Option Addr} {ds : List Nat} (h : DigAt w A ds) (e : Ext w w') : DigAt w' A ds :=
  ⟨h.1, fun hl => by obtain ⟨a, ha, hc⟩ := h.2 hl; exact ⟨a, ha, fun j hj => e.cell (hc j hj)⟩⟩
/-- A slice of digits: the value v reads, in w, as ds. -/
def DigV (w : World) (v : Value) (ds : List Nat) : Prop :=
  ∃ A c, v = .slice A ds.length c ∧ ds.length ≤ c ∧ c ≤ 9223372036854775807 ∧ DigAt w A ds
theorem DigV.ext {w w' : World} {v : Value} {ds : List Nat} (h : DigV w v ds) (e : Ext w w') : DigV w' v ds := by
  obtain ⟨A, c, h1, h2, h3, h4⟩ := h; exact ⟨A, c, h1, h2, h3, h4.ext e⟩
theorem maxLen_le {c : Nat} (h : c ≤ maxLen) : c ≤ 9223372036854775807 := by simpa [maxLen] using h
/-- A row of the call's own that holds digits. -/
theorem DigV.of_own {w : World} {base e n : Nat} {v : Value} {ds : List Nat} (h : w.ownsRow base e 1 v n (ds.map fun d => Value.int .u32 (d : Nat))) (hd : ∀ d ∈ ds, d < 4294967296) : DigV w v ds := by
  have hl : ds.length = n := by simpa using h.1
  subst hl
  rcases h.2 with ⟨rfl, h0⟩ | ⟨g, cap, cur, rfl, _, hg, hn, hm, hs, ht⟩
  · exact ⟨none, 0, by rw [h0], by omega, by omega, hd, fun hh => by omega⟩
  · refine ⟨_, cap, rfl, hn, maxLen_le hm, hd, fun _ => ⟨_, rfl, fun j hj => ?_⟩⟩
    exact h.cells (g := g) rfl j _ (by rw [List.getElem?_map, List.getElem?_eq_getElem hj]; rfl)
/-- A digit as a value. -/
def dv (d : Nat) : Value := .int .u32 (d : Nat)
/-- Zeros, as a new block holds them. -/
def zcells (n : Nat) : Array Value := ((List.replicate n 0).map dv).toArray
/-- Block g is, whole, the digits l. -/
def DBlk (w : World) (g : Nat) (t : TypeId) (l : List Nat) : Prop := w.heap[g]? = some (.cells (l.map dv).toArray t (0, 0))
section
variable {w w' : World} {g : Nat} {t : TypeId} {l : List Nat}
theorem DBlk.lt (h : DBlk w g t l) : g < w.heap.size := by
  rcases Nat.lt_or_ge g w.heap.size with hlt | hge
  · exact hlt
  · unfold DBlk at h; rw [Array.getElem?_eq_none hge] at h; cases h
theorem DBlk.cell (h : DBlk w g t l) {i : Nat} (hi : i < l.length) : w.cell? ⟨g, i, none⟩ = some (.int .u32 (l[i] : Nat)) := by
  rw [cell_of_row w g i _ t (0, 0) h]
  simp [hi, dv]
theorem DBlk.frozen (h : DBlk w g t l) (i : Nat) : w.frozen? ⟨g, i, none⟩ = false := by
  unfold DBlk at h
  simp [World.frozen?, h]
theorem DBlk.new (w : World) (t : TypeId) (n : Nat) : DBlk (w.alloc (.cells (zcells n) t)) w.heap.size t (List.replicate n 0) := heap_alloc_new w _
theorem DBlk.set_ (h : DBlk w g t l) (i d : Nat) : DBlk (w.setCell ⟨g, i, none⟩ (.int .u32 (d : Nat))) g t (l.set i d) := by
  unfold DBlk at h ⊢
  simp [World.setCell, Array.getElem?_modify, h, List.map_set, dv]
theorem DBlk.setI (h : DBlk w g t l) (i d : Nat) {z : Int} (hz : z = (d : Nat)) : DBlk (w.setCell ⟨g, i, none⟩ (.int .u32 z)) g t (l.set i d) := by subst hz; exact h.set_ i d
theorem DBlk.ext (h : DBlk w g t l) (e : Ext w w') : DBlk w' g t l := e.blk h
theorem DBlk.alloc (h : DBlk w g t l) (o : Obj) : DBlk (w.alloc o) g t l := (Below.heap_alloc w o g h.lt).trans h
theorem DBlk.far (h : DBlk w g t l) {p : Addr} (hp : g ≠ p.block) (u : Value) : DBlk (w.setCell p u) g t l := (Below.heap_setCell w p u g hp).trans h
theorem DBlk.digv (h : DBlk w g t l) (hd : ∀ d ∈ l, d < 4294967296) {c : Nat} (hc : l.length ≤ c) (hm : c ≤ 9223372036854775807) : DigV w (.slice (some ⟨g, 0, none⟩) l.length c) l := by
  refine ⟨_, c, rfl, hc, hm, hd, fun _ => ⟨_, rfl, fun j hj => ?_⟩⟩
  have e : (⟨g, 0, none⟩ : Addr).add j = ⟨g, j, none⟩ := by unfold Addr.add; split <;> simp_all
  rw [e]
  exact h.cell hj
end
theorem madeCells_zero (n : Nat) : madeCells #[Value.int .u32 0] n = zcells n := by
  apply Array.ext
  · simp [madeCells, zcells]
  · intro i h1 h2
    simp [madeCells, zcells, dv, Nat.mod_one]
/-- The value v reads, in w, as the integer with a sign and digits. -/
def IntV (w : World) (v : Value) (neg : Bool) (ds : List Nat) : Prop :=
  ∃ s, v = .agg #[.bool neg, s] ∧ DigV w s ds
theorem IntV.ext {w w' : World} {v : Value} {neg : Bool} {ds : List Nat} (h : IntV w v neg ds) (e : Ext w w') : IntV w' v neg ds := by
  obtain ⟨s, h1, h2⟩ := h; exact ⟨s, h1, h2.ext e⟩
/-- The number that digits stand for. -/
def nv : List Nat → Nat
  | [] => 0
  | d :: ds => d + 4294967296 * nv ds
def iv (neg : Bool) (ds : List Nat) : Int := if neg then -(nv ds : Int) else nv ds
/-- v reads, in w, as digits of the number n, at most l of them. -/
def NumV (w : World) (v : Value) (n l : Nat) : Prop := ∃ ds, DigV w v ds ∧ nv ds = n ∧ ds.length ≤ l
theorem NumV.ext {w w' : World} {v : Value} {n l : Nat} (h : NumV w v n l) (e : Ext w w') : NumV w' v n l := by obtain ⟨d, h1, h2⟩ := h; exact ⟨d, h1.ext e, h2⟩
/-- The digits of n without leading zeros. -/
def NatV (w : World) (v : Value) (n : Nat) : Prop := ∃ ds, DigV w v ds ∧ nv ds = n ∧ (∀ h : ds ≠ [], ds.getLast h ≠ 0)
theorem NatV.ext {w w' : World} {v : Value} {n : Nat} (h : NatV w v n) (e : Ext w w') : NatV w' v n := by obtain ⟨d, h1, h2⟩ := h; exact ⟨d, h1.ext e, h2⟩
/-- No leading zero, no negative zero. -/
def canon (neg : Bool) (ds : List Nat) : Prop := (∀ h : ds ≠ [], ds.getLast h ≠ 0) ∧ (neg = true → ds ≠ [])
/-- v reads as some form of the integer x; at most 2^40 digits. -/
def HasZ (w : World) (v : Value) (x : Int) : Prop := ∃ neg ds, IntV w v neg ds ∧ iv neg ds = x ∧ ds.length ≤ 1099511627776
/-- v reads as the normal form of the integer x. -/
def IsZ (w : World) (v : Value) (x : Int) : Prop := ∃ neg ds, IntV w v neg ds ∧ iv neg ds = x ∧ canon neg ds
theorem HasZ.ext {w w' : World} {v : Value} {x : Int} (h : HasZ w v x) (e : Ext w w') : HasZ w' v x := by
  obtain ⟨n, d, h1, h2⟩ := h; exact ⟨n, d, h1.ext e, h2⟩
theorem IsZ.ext {w w' : World} {v : Value} {x : Int} (h : IsZ w v x) (e : Ext w w') : IsZ w' v x := by
  obtain ⟨n, d, h1, h2⟩ := h; exact ⟨n, d, h1.ext e, h2⟩
end Go.Hp
namespace Go.Hp
/-- All digits are below the base. -/
def Digs (ds : List Nat) : Prop := ∀ d ∈ ds, d < 4294967296
theorem Digs.nil : Digs [] := fun _ h => by cases h
theorem Digs.cons {d : Nat} {ds : List Nat} (h : d < 4294967296) (hs : Digs ds) : Digs (d :: ds) := fun e he => by
  rcases List.mem_cons.1 he with rfl | he
  · exact h
  · exact hs e he
theorem Digs.append {a b : List Nat} (ha : Digs a) (hb : Digs b) : Digs (a ++ b) := fun e he => by
  rcases List.mem_append.1 he with he | he
  · exact ha e he
  · exact hb e he
theorem Digs.left {a b : List Nat} (h : Digs (a ++ b)) : Digs a := fun e he => h e (List.mem_append_left _ he)
theorem Digs.right {a b : List Nat} (h : Digs (a ++ b)) : Digs b := fun e he => h e (List.mem_append_right _ he)
theorem Digs.take {a : List Nat} (h : Digs a) (n : Nat) : Digs (a.take n) := fun e he => h e (List.mem_of_mem_take he)
theorem Digs.drop {a : List Nat} (h : Digs a) (n : Nat) : Digs (a.drop n) := fun e he => h e (List.mem_of_mem_drop he)
theorem Digs.get {a : List Nat} (h : Digs a) {i : Nat} (hi : i < a.length) : a[i] < 4294967296 := h _ (List.getElem_mem hi)
theorem Digs.zeros (n : Nat) : Digs (List.replicate n 0) := fun e he => by rw [List.eq_of_mem_replicate he]; decide
/-- The base, to a power. -/
def bp (n : Nat) : Nat := 4294967296 ^ n
theorem bp_zero : bp 0 = 1 := rfl
theorem bp_succ (n : Nat) : bp (n + 1) = 4294967296 * bp n := by unfold bp; rw [Nat.pow_succ, Nat.mul_comm]
theorem bp_add (m n : Nat) : bp (m + n) = bp m * bp n := by unfold bp; rw [Nat.pow_add]
theorem bp_pos (n : Nat) : 0 < bp n := Nat.pow_pos (by decide)
theorem bp_le {m n : Nat} (h : m ≤ n) : bp m ≤ bp n := Nat.pow_le_pow_right (by decide) h
theorem bp_one : bp 1 = 4294967296 := rfl
theorem bp_two : bp 2 = 18446744073709551616 := by decide
theorem nv_nil : nv [] = 0 := rfl
theorem nv_cons (d : Nat) (ds : List Nat) : nv (d :: ds) = d + 4294967296 * nv ds := rfl
theorem nv_append (a b : List Nat) : nv (a ++ b) = nv a + bp a.length * nv b := by
  induction a with
  | nil => simp [nv_nil, bp_zero]
  | cons d ds ih =>
    rw [List.cons_append, nv_cons, nv_cons, ih, List.length_cons, bp_succ, Nat.mul_add, Nat.mul_assoc]
    omega
theorem nv_snoc (a : List Nat) (d : Nat) : nv (a ++ [d]) = nv a + bp a.length * d := by rw [nv_append, nv_cons, nv_nil]; rfl
theorem nv_lt {ds : List Nat} (h : Digs ds) : nv ds < bp ds.length := by
  induction ds with
  | nil => exact bp_pos 0
  | cons d ds ih =>
    have h1 := ih (fun e he => h e (List.mem_cons_of_mem _ he))
    have h2 := h d List.mem_cons_self
    rw [nv_cons, List.length_cons, bp_succ]
    omega
theorem nv_zeros (n : Nat) : nv (List.replicate n 0) = 0 := by
  induction n with
  | zero => rfl
  | succ n ih => rw [List.replicate_succ, nv_cons, ih]
theorem nv_take_succ {ds : List Nat} {i : Nat} (hi : i < ds.length) : nv (ds.take (i + 1)) = nv (ds.take i) + bp i * ds[i] := by
  rw [List.take_succ_eq_append_getElem hi, nv_snoc, List.length_take, Nat.min_eq_left (by omega)]
theorem nv_split (ds : List Nat) (i : Nat) (hi : i ≤ ds.length) : nv ds = nv (ds.take i) + bp i * nv (ds.drop i) := by
  have := nv_append (ds.take i) (ds.drop i)
  rw [List.take_append_drop, List.length_take, Nat.min_eq_left hi] at this
  exact this
theorem nv_drop {ds : List Nat} {i : Nat} (hi : i < ds.length) : nv (ds.drop i) = ds[i] + 4294967296 * nv (ds.drop (i + 1)) := by
  rw [List.drop_eq_getElem_cons hi, nv_cons]
theorem Digs.set {l : List Nat} (h : Digs l) {d : Nat} (hd : d < 4294967296) (i : Nat) : Digs (l.set i d) := fun e he => by
  rcases List.mem_or_eq_of_mem_set he with he | rfl
  · exact h e he
  · exact hd
theorem nv_take_set {l : List Nat} {k d : Nat} (hk : k < l.length) : nv ((l.set k d).take (k + 1)) = nv (l.take k) + bp k * d := by
  have hk' : k < (l.set k d).length := by simpa using hk
  rw [nv_take_succ hk']
  simp [List.take_set_of_le]
/-- The k-th digit, 0 beyond the end. -/
def dg (ds : List Nat) (k : Nat) : Nat := ds.getD k 0
theorem dg_lt {ds : List Nat} {k : Nat} (h : k < ds.length) : dg ds k = ds[k] := by unfold dg; rw [List.getD_eq_getElem?_getD, List.getElem?_eq_getElem h]; rfl
theorem dg_ge {ds : List Nat} {k : Nat} (h : ds.length ≤ k) : dg ds k = 0 := by unfold dg; rw [List.getD_eq_getElem?_getD, List.getElem?_eq_none h]; rfl
theorem DBlk.celld {w : World} {g : Nat} {t : TypeId} {l : List Nat} (h : DBlk w g t l) {i : Nat} (hi : i < l.length) : w.cell? ⟨g, i, none⟩ = some (.int .u32 (dg l i : Nat)) := by rw [dg_lt hi]; exact h.cell hi
theorem nv_take_dg (ds : List Nat) (k : Nat) : nv (ds.take (k + 1)) = nv (ds.take k) + bp k * dg ds k := by
  rcases Nat.lt_or_ge k ds.length with h | h
  · rw [dg_lt h, nv_take_succ h]
  · rw [dg_ge h, List.take_of_length_le (by omega), List.take_of_length_le h]; omega
theorem dg_bound {ds : List Nat} (h : Digs ds) (k : Nat) : dg ds k < 4294967296 := by
  rcases Nat.lt_or_ge k ds.length with hl | hl
  · rw [dg_lt hl]; exact h.get hl
  · rw [dg_ge hl]; decide
/-- One step of the addition. -/
theorem add_step {L X Y p c x y : Nat} (h : L + c * p = X + Y) : L + p * ((x + y + c) % 4294967296) + (x + y + c) / 4294967296 * (4294967296 * p) = X + p * x + (Y + p * y) := by
  have e : (x + y + c) % 4294967296 + 4294967296 * ((x + y + c) / 4294967296) = x + y + c := Nat.mod_add_div _ _
  generalize (x + y + c) % 4294967296 = r at *
  generalize (x + y + c) / 4294967296 = q at *
  grind
/-- Without leading zeros. -/
def Top (ds : List Nat) : Prop := ∀ h : ds ≠ [], ds.getLast h ≠ 0
theorem Top.nil : Top [] := fun h => absurd rfl h
theorem Top.len {ds : List Nat} (h : Top ds) (hl : 0 < ds.length) : bp (ds.length - 1) ≤ nv ds := by
  have hne : ds ≠ [] := fun e => by rw [e] at hl; simp at hl
  have h1 := h hne
  have h2 := List.dropLast_concat_getLast hne
  rw [← h2, nv_snoc]
  have h3 : bp (ds.dropLast ++ [ds.getLast hne]).length = bp ds.length := by rw [h2]
  have h4 : ds.dropLast.length = ds.length - 1 := by simp
  rw [h4]
  have h5 : (ds.dropLast ++ [ds.getLast hne]).length - 1 = ds.length - 1 := by rw [h2]
  rw [h5]
  have : bp (ds.length - 1) * 1 ≤ bp (ds.length - 1) * ds.getLast hne := Nat.mul_le_mul_left _ (by omega)
  omega
theorem Top.pos {ds : List Nat} (h : Top ds) : nv ds = 0 ↔ ds = [] := by
  constructor
  · intro h0
    rcases Nat.eq_zero_or_pos ds.length with hl | hl
    · exact List.eq_nil_of_length_eq_zero hl
    · have := h.len hl
      have := bp_pos (ds.length - 1)
      omega
  · rintro rfl; rfl
/-- Digits are determined by their number. -/
theorem digs_inj : ∀ {a b : List Nat}, Digs a → Digs b → a.length = b.length → nv a = nv b → a = b
  | [], [], _, _, _, _ => rfl
  | x :: a, y :: b, ha, hb, hl, hv => by
    rw [nv_cons, nv_cons] at hv
    have h1 := ha x List.mem_cons_self
    have h2 := hb y List.mem_cons_self
    have h3 : x = y := by omega
    have h4 : nv a = nv b := by omega
    rw [h3, digs_inj (fun e he => ha e (List.mem_cons_of_mem _ he)) (fun e he => hb e (List.mem_cons_of_mem _ he)) (by simpa using hl) h4]
  | [], _ :: _, _, _, hl, _ => by simp at hl
  | _ :: _, [], _, _, hl, _ => by simp at hl
theorem top_len_lt {a b : List Nat} (da : Digs a) (tb : Top b) (h : a.length < b.length) : nv a < nv b := by
  have l1 := nv_lt da
  have := tb.len (by omega)
  have := bp_le (show a.length ≤ b.length - 1 by omega)
  omega
theorem top_len_le {a b : List Nat} (db : Digs b) (ta : Top a) (h : nv a ≤ nv b) : a.length ≤ b.length := by
  rcases Nat.lt_or_ge b.length a.length with hl | hl
  · have := top_len_lt db ta hl; omega
  · exact hl
theorem len_of_lt {a : List Nat} (ta : Top a) {n : Nat} (h : nv a < bp n) : a.length ≤ n := by
  rcases Nat.lt_or_ge n a.length with hl | hl
  · have := ta.len (by omega)
    have := bp_le (show n ≤ a.length - 1 by omega)
    omega
  · exact hl
/-- Without the leading zeros. -/
def trim (ds : List Nat) : List Nat := (ds.reverse.dropWhile (· == 0)).reverse
theorem trim_nil : trim [] = [] := rfl
theorem trim_snoc_zero (ds : List Nat) : trim (ds ++ [0]) = trim ds := by simp [trim]
theorem trim_snoc (ds : List Nat) (d : Nat) (h : d ≠ 0) : trim (ds ++ [d]) = ds ++ [d] := by simp [trim, h]
theorem trim_ind {p : List Nat → Prop} (h0 : p []) (h1 : ∀ ds d, p ds → p (ds ++ [d])) : ∀ ds, p ds := by
  intro ds
  have : ∀ n (ds : List Nat), ds.length = n → p ds := by
    intro n
    induction n with
    | zero => intro ds h; rw [List.eq_nil_of_length_eq_zero h]; exact h0
    | succ n ih =>
      intro ds h
      have hne : ds ≠ [] := fun e => by rw [e] at h; simp at h
      rw [← List.dropLast_concat_getLast hne]
      exact h1 _ _ (ih _ (by simp [h]))
  exact this _ ds rfl
theorem trim_top : ∀ ds, Top (trim ds) := by
  refine trim_ind Top.nil fun ds d ih => ?_
  by_cases h : d = 0
  · subst h; rw [trim_snoc_zero]; exact ih
  · rw [trim_snoc _ _ h]
    intro hne
    simpa using h
theorem trim_nv : ∀ ds, nv (trim ds) = nv ds := by
  refine trim_ind rfl fun ds d ih => ?_
  by_cases h : d = 0
  · subst h; rw [trim_snoc_zero, ih, nv_snoc, Nat.mul_zero, Nat.add_zero]
  · rw [trim_snoc _ _ h]
theorem trim_digs {ds : List Nat} (h : Digs ds) : Digs (trim ds) := fun e he => by
  unfold trim at he
  exact h e (List.mem_reverse.1 (List.Sublist.mem (List.mem_reverse.1 he) (List.dropWhile_sublist _)))
theorem trim_len (ds : List Nat) : (trim ds).length ≤ ds.length := by
  unfold trim
  rw [List.length_reverse]
  have := (List.dropWhile_sublist (fun x : Nat => x == 0) (l := ds.reverse)).length_le
  rwa [List.length_reverse] at this
theorem trim_of_top {ds : List Nat} (h : Top ds) : trim ds = ds := by
  revert h
  refine trim_ind (p := fun ds => Top ds → trim ds = ds) (fun _ => rfl) (fun ds d _ h => ?_) ds
  refine trim_snoc _ _ ?_
  simpa using h (by simp)
/-- What the loop that cuts zeros comes to. -/
theorem trim_take {ds : List Nat} {m : Nat} (hm : m ≤ ds.length) (hz : ∀ j, m ≤ j → (h : j < ds.length) → ds[j] = 0) (hlast : ∀ h : m - 1 < ds.length, 0 < m → ds[m - 1] ≠ 0) : ds.take m = trim ds := by
  have h1 : ds = ds.take m ++ List.replicate (ds.length - m) 0 := by
    apply List.ext_getElem
    · simp; omega
    · intro i h1 h2
      rw [List.getElem_append]
      split
      · rename_i h; simp at h; simp
      · rename_i h; simp at h; simp; exact hz i (by omega) h1
  have h2 : ∀ n (xs : List Nat), trim (xs ++ List.replicate n 0) = trim xs := by
    intro n
    induction n with
    | zero => intro xs; simp
    | succ n ih => intro xs; rw [List.replicate_succ', ← List.append_assoc, trim_snoc_zero, ih]
  rw [h1, h2]
  have h3 : Top (ds.take m) := by
    intro hne
    rcases Nat.eq_zero_or_pos m with h0 | h0
    · subst h0; simp at hne
    · rw [List.getLast_eq_getElem]
      simp only [List.length_take, Nat.min_eq_left hm, List.getElem_take]
      exact hlast (by omega) h0
  rw [trim_of_top h3, ← h1]
theorem trim_prefix (ds : List Nat) : ∃ m, trim ds = ds.take m := by
  refine trim_ind (p := fun ds => ∃ m, trim ds = ds.take m) ⟨0, rfl⟩ (fun ds d ⟨m, hm⟩ => ?_) ds
  by_cases h : d = 0
  · subst h
    rw [trim_snoc_zero, hm]
    refine ⟨min m ds.length, ?_⟩
    rw [List.take_append_of_le_length (Nat.min_le_right _ _), ← List.take_take, List.take_length]
  · exact ⟨ds.length + 1, by rw [trim_snoc _ _ h, List.take_of_length_le (by simp)]⟩
theorem DigAt.trim {w : World} {A : Option Addr} {ds : List Nat} (h : DigAt w A ds) : DigAt w A (trim ds) := by
  refine ⟨trim_digs h.1, fun hl => ?_⟩
  have hle := trim_len ds
  obtain ⟨a, ha, hc⟩ := h.2 (by omega)
  refine ⟨a, ha, fun j hj => ?_⟩
  obtain ⟨m, hm⟩ := trim_prefix ds
  rw [hc j (by omega)]
  simp only [hm, List.getElem_take]
end Go.Hp
namespace Go.Hp
open Go.RowKit
section
variable {W V v1 v2 P Vl un un1 un2 Wl : Nat}
/-- The numbers, by their first digits. -/
structure Knuth (W V v1 v2 P Vl un un1 un2 Wl : Nat) : Prop where
  hV : V = (v1 * 4294967296 + v2) * P + Vl
  hVl : Vl < P
  hv1 : v1 < 4294967296
  hv2 : v2 < 4294967296
  hv : 4294967296 ≤ 2 * v1
  hW : W = ((un * 4294967296 + un1) * 4294967296 + un2) * P + Wl
  hWl : Wl < P
  hu2 : un2 < 4294967296
  hu1 : un1 < 4294967296
  hlt : W < 4294967296 * V
theorem Knuth.vpos (h : Knuth W V v1 v2 P Vl un un1 un2 Wl) : 0 < V := by
  rcases Nat.eq_zero_or_pos V with h0 | h0
  · have := h.hlt; rw [h0] at this; omega
  · exact h0
theorem Knuth.q_lt (h : Knuth W V v1 v2 P Vl un un1 un2 Wl) : W / V < 4294967296 := Nat.div_lt_of_lt_mul (by rw [Nat.mul_comm]; exact h.hlt)
theorem Knuth.w_lt (h : Knuth W V v1 v2 P Vl un un1 un2 Wl) : W < ((un * 4294967296 + un1) * 4294967296 + un2 + 1) * P := by
  have := h.hW; have := h.hWl
  rw [Nat.add_mul _ 1, Nat.one_mul]
  omega
theorem Knuth.v_ge (h : Knuth W V v1 v2 P Vl un un1 un2 Wl) : (v1 * 4294967296 + v2) * P ≤ V := by have := h.hV; omega
theorem Knuth.w_ge (h : Knuth W V v1 v2 P Vl un un1 un2 Wl) : ((un * 4294967296 + un1) * 4294967296 + un2) * P ≤ W := by have := h.hW; omega
theorem Knuth.un_le (h : Knuth W V v1 v2 P Vl un un1 un2 Wl) : un ≤ v1 := by
  rcases Nat.lt_or_ge v1 un with hc | hc
  · exfalso
    have h1 := h.w_ge
    have h2 := h.hlt
    have h3 : V < (v1 * 4294967296 + v2 + 1) * P := by have := h.hV; have := h.hVl; rw [Nat.add_mul _ 1, Nat.one_mul]; omega
    have h4 : v1 * 4294967296 + v2 + 1 ≤ (v1 + 1) * 4294967296 := by have := h.hv2; omega
    have h5 : (v1 * 4294967296 + v2 + 1) * P ≤ (v1 + 1) * 4294967296 * P := Nat.mul_le_mul_right _ h4
    have h6 : (v1 + 1) * 4294967296 * 4294967296 ≤ (un * 4294967296 + un1) * 4294967296 + un2 := by omega
    have h7 : (v1 + 1) * 4294967296 * 4294967296 * P ≤ ((un * 4294967296 + un1) * 4294967296 + un2) * P := Nat.mul_le_mul_right _ h6
    have h8 : 4294967296 * V < 4294967296 * ((v1 + 1) * 4294967296 * P) := by omega
    have h9 : 4294967296 * ((v1 + 1) * 4294967296 * P) = (v1 + 1) * 4294967296 * 4294967296 * P := by grind
    omega
  · exact hc
theorem Knuth.guess_le (h : Knuth W V v1 v2 P Vl un un1 un2 Wl) : (un * 4294967296 + un1) / v1 ≤ 4294967297 := by
  have h1 := h.un_le; have h2 := h.hv; have h3 := h.hu1
  have : (un * 4294967296 + un1) / v1 < 4294967298 := by
    apply Nat.div_lt_of_lt_mul
    have : un * 4294967296 ≤ v1 * 4294967296 := Nat.mul_le_mul_right _ h1
    omega
  omega
theorem Knuth.guess_ge (h : Knuth W V v1 v2 P Vl un un1 un2 Wl) : W / V ≤ (un * 4294967296 + un1) / v1 := by
  have hv := h.hv
  rw [Nat.le_div_iff_mul_le (by omega)]
  rcases Nat.lt_or_ge (un * 4294967296 + un1) (W / V * v1) with hc | hc
  · exfalso
    have h1 : W / V * V ≤ W := Nat.div_mul_le_self _ _
    have h2 : W / V * ((v1 * 4294967296 + v2) * P) ≤ W / V * V := Nat.mul_le_mul_left _ h.v_ge
    have h3 : (un * 4294967296 + un1 + 1) * (4294967296 * P) ≤ W / V * v1 * (4294967296 * P) := Nat.mul_le_mul_right _ hc
    have h4 := h.w_lt
    have h5 : ((un * 4294967296 + un1) * 4294967296 + un2 + 1) * P ≤ (un * 4294967296 + un1 + 1) * 4294967296 * P := Nat.mul_le_mul_right _ (by have := h.hu2; omega)
    have h6 : W / V * v1 * (4294967296 * P) ≤ W / V * ((v1 * 4294967296 + v2) * P) := by
      rw [Nat.mul_assoc]
      refine Nat.mul_le_mul_left _ ?_
      rw [← Nat.mul_assoc]
      exact Nat.mul_le_mul_right _ (by omega)
    rw [← Nat.mul_assoc] at h3
    omega
  · exact hc
theorem Knuth.lower (h : Knuth W V v1 v2 P Vl un un1 un2 Wl) {g r : Nat} (hg : g * v1 + r = un * 4294967296 + un1) (hq : W / V ≤ g) (hc : 4294967296 ≤ g ∨ r * 4294967296 + un2 < g * v2) : W / V ≤ g - 1 ∧ 1 ≤ g := by
  have hq' := h.q_lt
  rcases hc with hc | hc
  · generalize W / V = Q at *; omega
  · have h1 : ((un * 4294967296 + un1) * 4294967296 + un2 + 1) ≤ g * (v1 * 4294967296 + v2) := by
      rw [← hg]
      have : g * (v1 * 4294967296 + v2) = g * v1 * 4294967296 + g * v2 := by rw [Nat.mul_add, Nat.mul_assoc]
      rw [this]
      omega
    have h2 : W < g * V := by
      have h3 := Nat.mul_le_mul_right P h1
      have h4 : g * ((v1 * 4294967296 + v2) * P) ≤ g * V := Nat.mul_le_mul_left _ h.v_ge
      have h5 := h.w_lt
      rw [Nat.mul_assoc g] at h3
      omega
    have h3 : W / V < g := Nat.div_lt_of_lt_mul (by rw [Nat.mul_comm]; exact h2)
    generalize W / V = Q at *; omega
theorem Knuth.upper (h : Knuth W V v1 v2 P Vl un un1 un2 Wl) {g : Nat} (hg : g ≤ 4294967296) (hc : g * (v1 * 4294967296 + v2) ≤ (un * 4294967296 + un1) * 4294967296 + un2) : g ≤ W / V + 1 := by
  rcases Nat.eq_zero_or_pos g with h0 | h0
  · generalize W / V = Q at *; omega
  · obtain ⟨f, rfl⟩ : ∃ f, g = f + 1 := ⟨g - 1, by omega⟩
    have : f ≤ W / V := by
      rw [Nat.le_div_iff_mul_le h.vpos, h.hV, Nat.mul_add]
      have h1 : f * Vl ≤ 4294967296 * P := Nat.mul_le_mul (by omega) (by have := h.hVl; omega)
      have h2 : 4294967296 * P ≤ (v1 * 4294967296 + v2) * P := Nat.mul_le_mul_right _ (by have := h.hv; omega)
      have h3 : (f + 1) * (v1 * 4294967296 + v2) * P ≤ ((un * 4294967296 + un1) * 4294967296 + un2) * P := Nat.mul_le_mul_right _ hc
      have h4 := h.w_ge
      rw [Nat.add_mul f 1, Nat.one_mul, Nat.add_mul, Nat.mul_assoc] at h3
      omega
    generalize W / V = Q at *; omega
theorem Knuth.exit1 (h : Knuth W V v1 v2 P Vl un un1 un2 Wl) {g r : Nat} (hg : g * v1 + r = un * 4294967296 + un1) (hl : g < 4294967296) (hc : g * v2 ≤ r * 4294967296 + un2) : g ≤ W / V + 1 := by
  refine h.upper (by omega) ?_
  rw [← hg, Nat.mul_add, ← Nat.mul_assoc]
  omega
theorem Knuth.exit2 (h : Knuth W V v1 v2 P Vl un un1 un2 Wl) {g r : Nat} (hg : g * v1 + r = un * 4294967296 + un1) (hl : g ≤ 4294967296) (hr : 4294967296 ≤ r) : g ≤ W / V + 1 := by
  refine h.upper hl ?_
  rw [← hg, Nat.mul_add, ← Nat.mul_assoc]
  have : g * v2 ≤ 4294967296 * 4294967295 := Nat.mul_le_mul hl (by have := h.hv2; omega)
  omega
end
/-- A number by its first digits. -/
theorem nv_top2 {vs : List Nat} {n : Nat} (hn : vs.length = n + 2) : nv vs = (dg vs (n + 1) * 4294967296 + dg vs n) * bp n + nv (vs.take n) := by
  have h1 := nv_take_dg vs n
  have h2 := nv_take_dg vs (n + 1)
  rw [List.take_of_length_le (by omega), bp_succ] at h2
  rw [h2, h1]
  grind
theorem nv_top3 {us : List Nat} {n : Nat} (hn : us.length = n + 3) : nv us = ((dg us (n + 2) * 4294967296 + dg us (n + 1)) * 4294967296 + dg us n) * bp n + nv (us.take n) := by
  have h1 := nv_take_dg us n
  have h2 := nv_take_dg us (n + 1)
  have h3 := nv_take_dg us (n + 2)
  rw [List.take_of_length_le (by omega), bp_succ, bp_succ] at h3
  rw [bp_succ] at h2
  rw [h3, h2, h1]
  grind
theorem knuth_of {us vs : List Nat} {n : Nat} (hu : us.length = n + 3) (hv : vs.length = n + 2) (du : Digs us) (dv : Digs vs) (ht : 4294967296 ≤ 2 * dg vs (n + 1)) (hlt : nv us < 4294967296 * nv vs) :
    Knuth (nv us) (nv vs) (dg vs (n + 1)) (dg vs n) (bp n) (nv (vs.take n)) (dg us (n + 2)) (dg us (n + 1)) (dg us n) (nv (us.take n)) where
  hV := nv_top2 hv
  hVl := by have := nv_lt (dv.take n); rwa [List.length_take, Nat.min_eq_left (by omega)] at this
  hv1 := dg_bound dv _
  hv2 := dg_bound dv _
  hv := ht
  hW := nv_top3 hu
  hWl := by have := nv_lt (du.take n); rwa [List.length_take, Nat.min_eq_left (by omega)] at this
  hu2 := dg_bound du _
  hu1 := dg_bound du _
  hlt := hlt
/-- One step of the subtraction of a multiple. -/
theorem mulsub_step {A X N p c b g x y : Nat} (hu : x < 4294967296) (hb : b ≤ 1) (h : A + g * N = X + (c + b) * p) :
    A + p * ((x + 4294967296 - (g * y + c) % 4294967296 - b) % 4294967296) + g * (N + p * y) = X + p * x + ((g * y + c) / 4294967296 + if x < (g * y + c) % 4294967296 + b then 1 else 0) * (4294967296 * p) := by
  have e1 : (g * y + c) % 4294967296 + 4294967296 * ((g * y + c) / 4294967296) = g * y + c := Nat.mod_add_div _ _
  have hl : (g * y + c) % 4294967296 < 4294967296 := Nat.mod_lt _ (by decide)
  generalize (g * y + c) % 4294967296 = lo at *
  generalize (g * y + c) / 4294967296 = hi at *
  have e2 : (x + 4294967296 - lo - b) % 4294967296 + lo + b = x + (if x < lo + b then 1 else 0) * 4294967296 := by
    by_cases hc : x < lo + b
    · rw [if_pos hc]; omega
    · rw [if_neg hc]; omega
  generalize (x + 4294967296 - lo - b) % 4294967296 = r at *
  generalize (if x < lo + b then 1 else 0) = q at *
  have e3 : p * (r + lo + b) = p * (x + q * 4294967296) := by rw [e2]
  have e4 : p * (lo + 4294967296 * hi) = p * (g * y + c) := by rw [e1]
  grind
theorem dg_window {U : List Nat} {j L i : Nat} (h : i < L) : dg ((U.drop j).take L) i = dg U (j + i) := by
  unfold dg
  rw [List.getD_eq_getElem?_getD, List.getD_eq_getElem?_getD, List.getElem?_take_of_lt h, List.getElem?_drop]
/-- What lies beyond the window is zero. -/
theorem nv_window {U : List Nat} {j L : Nat} (dU : Digs U) (h : nv (U.drop j) < bp L) (hl : j + L ≤ U.length) : nv ((U.drop j).take L) = nv (U.drop j) := by
  have h1 := nv_split (U.drop j) L (by rw [List.length_drop]; omega)
  rcases Nat.eq_zero_or_pos (nv ((U.drop j).drop L)) with h2 | h2
  · rw [h2] at h1; omega
  · have : bp L * 1 ≤ bp L * nv ((U.drop j).drop L) := Nat.mul_le_mul_left _ h2
    omega
theorem knuth_win {U vs : List Nat} {j L : Nat} (hL : 2 ≤ L) (hLj : j + L + 1 ≤ U.length) (dU : Digs U) (dV : Digs vs) (hvl : vs.length = L) (ht : 4294967296 ≤ 2 * dg vs (L - 1)) (hlt : nv (U.drop j) < 4294967296 * nv vs) :
    ∃ P Vl Wl, Knuth (nv (U.drop j)) (nv vs) (dg vs (L - 1)) (dg vs (L - 2)) P Vl (dg U (j + L)) (dg U (j + (L - 1))) (dg U (j + (L - 2))) Wl := by
  obtain ⟨n, rfl⟩ : ∃ n, L = n + 2 := ⟨L - 2, by omega⟩
  have hb : nv (U.drop j) < bp (n + 2 + 1) := by
    have := nv_lt dV
    rw [hvl] at this
    rw [bp_succ]; omega
  have hw := nv_window dU hb (by omega)
  have k := knuth_of (us := (U.drop j).take (n + 2 + 1)) (vs := vs) (n := n) (by simp; omega) hvl ((dU.drop j).take _) dV ht (by rw [hw]; exact hlt)
  rw [hw, dg_window (by omega), dg_window (by omega), dg_window (by omega)] at k
  exact ⟨_, _, _, k⟩
theorem DBlk.cellR {w : World} {g : Nat} {t : TypeId} {pre X : List Nat} {j : Nat} (h : DBlk w g t (pre ++ X)) (hj : pre.length = j) {k : Nat} (hk : k < X.length) : w.cell? ⟨g, j + k, none⟩ = some (.int .u32 (dg X k : Nat)) := by
  have := h.celld (i := j + k) (by simp; omega)
  rw [this]
  unfold dg
  rw [List.getD_eq_getElem?_getD, List.getD_eq_getElem?_getD, List.getElem?_append_right (by omega), show j + k - pre.length = k from by omega]
theorem DBlk.setR {w : World} {g : Nat} {t : TypeId} {pre X : List Nat} {j : Nat} (h : DBlk w g t (pre ++ X)) (hj : pre.length = j) (k d : Nat) {z : Int} (hz : z = (d : Nat)) : DBlk (w.setCell ⟨g, j + k, none⟩ (.int .u32 z)) g t (pre ++ X.set k d) := by
  have := h.setI (j + k) d hz
  rwa [List.set_append, if_neg (by omega), show j + k - pre.length = k from by omega] at this
theorem add_block (a : Addr) (k : Nat) : (a.add k).block = a.block := by unfold Addr.add; split <;> rfl
theorem grown_set {a w : World} {g : Nat} (h : a.grownBy w (some g)) (i : Nat) (u : Value) : a.grownBy (w.setCell ⟨g, i, none⟩ u) (some g) :=
  ⟨h.os, h.tape, h.output, by simpa [World.setCell] using h.size, fun k hk hne => (Below.heap_setCell w ⟨g, i, none⟩ u k (fun e => hne (by rw [e]))).trans (h.block k hk hne)⟩
theorem ext_grown {a w : World} (g : Nat) (h : Ext a w) : a.grownBy w (some g) := by
  have e' : Below a.heap.size a w := h
  exact ⟨e'.os, e'.tape, e'.output, e'.size, fun k hk _ => e'.block k hk⟩
/-- Lists of one length with the same digits from k on. -/
theorem drop_of_dg {X Y : List Nat} {k : Nat} (hl : X.length = Y.length) (h : ∀ q, k ≤ q → dg X q = dg Y q) : X.drop k = Y.drop k := by
  apply List.ext_getElem
  · simp [hl]
  · intro i h1 h2
    simp only [List.length_drop] at h1 h2
    have := h (k + i) (by omega)
    rw [dg_lt (by omega), dg_lt (by omega)] at this
    simpa using this
/-- The end of the subtraction, no borrow left. -/
theorem digit_end0 {W V G A : Nat} (hV : 0 < V) (hQ : W / V ≤ G) (h : A + G * V = W) : G = W / V ∧ A = W % V := by
  have h1 : G ≤ W / V := by rw [Nat.le_div_iff_mul_le hV]; omega
  have h2 : G = W / V := by generalize W / V = Q at *; omega
  refine ⟨h2, ?_⟩
  have := Nat.div_add_mod W V
  rw [← h2, Nat.mul_comm] at this
  omega
theorem digit_end1 {W V G A p : Nat} (hV : 0 < V) (hG : G ≤ W / V + 1) (hA : A < p) (h : A + G * V = W + p) : G = W / V + 1 ∧ A + V = W % V + p := by
  have h1 : ¬ G ≤ W / V := fun hc => by
    rw [Nat.le_div_iff_mul_le hV] at hc
    omega
  have h2 : G = W / V + 1 := by generalize W / V = Q at *; omega
  refine ⟨h2, ?_⟩
  have := Nat.div_add_mod W V
  rw [h2, Nat.add_mul, Nat.one_mul, Nat.mul_comm] at h
  omega
theorem digit_back {S T p z : Nat} (hT : T < p) (hz : z ≤ 4294967296) (hS : T + p * z = S + p * 4294967296) : T = S ∧ z = 4294967296 := by
  have : z = 4294967296 := by
    rcases Nat.lt_or_ge z 4294967296 with hc | hc
    · exfalso
      have : p * (z + 1) ≤ p * 4294967296 := Nat.mul_le_mul_left _ hc
      rw [Nat.mul_add, Nat.mul_one] at this
      omega
    · omega
  subst this
  omega
theorem nv_high {X : List Nat} {m : Nat} (hm : m ≤ X.length) (h : nv X < bp m) : nv (X.drop m) = 0 ∧ nv (X.take m) = nv X := by
  have h1 := nv_split X m hm
  rcases Nat.eq_zero_or_pos (nv (X.drop m)) with h2 | h2
  · rw [h2] at h1; exact ⟨h2, by omega⟩
  · have : bp m * 1 ≤ bp m * nv (X.drop m) := Nat.mul_le_mul_left _ h2
    omega
theorem nv_set_at {X Y : List Nat} {L d : Nat} (hl : X.length = Y.length) (hL : L + 1 ≤ X.length) (hs : ∀ q, L ≤ q → dg X q = dg Y q) (hz : nv (Y.drop (L + 1)) = 0) : nv (X.set L d) = nv (X.take L) + bp L * d := by
  have h1 := nv_split (X.set L d) (L + 1) (by simpa using hL)
  have e1 : (X.set L d).drop (L + 1) = Y.drop (L + 1) := by
    rw [List.drop_set_of_lt (Nat.lt_succ_self L)]
    exact drop_of_dg hl (fun q hq => hs q (Nat.le_of_succ_le hq))
  have e2 := nv_take_set (l := X) (k := L) (d := d) hL
  rw [e1, hz, Nat.mul_zero, Nat.add_zero, e2] at h1
  exact h1
theorem last_step {A C N p c b x q r : Nat} (h : A + N = C + (c + b) * p) (e : r + c + b = x + q * 4294967296) : A + p * r + N = C + p * x + q * (4294967296 * p) := by
  have e3 : p * (r + c + b) = p * (x + q * 4294967296) := by rw [e]
  grind
theorem borrow_eq {x c b : Nat} (hx : x < 4294967296) (hc : c < 4294967296) (hb : b ≤ 1) : (x + 4294967296 - c - b) % 4294967296 + c + b = x + (if x < c + b then 1 else 0) * 4294967296 := by
  by_cases h : x < c + b
  · rw [if_pos h]; omega
  · rw [if_neg h]; omega
theorem digit_last {X X1 : List Nat} {V L c0 b0 G : Nat} (hXl : L + 1 ≤ X.length) (hl1 : X1.length = X.length) (hs : ∀ q, L ≤ q → dg X1 q = dg X q) (hn : nv (X1.take L) + G * V = nv (X.take L) + (c0 + b0) * bp L)
    (hc : c0 < 4294967296) (hb : b0 ≤ 1) (hx : dg X L < 4294967296) (hW : nv X < bp (L + 1)) :
    nv (X1.set L ((dg X L + 4294967296 - c0 - b0) % 4294967296)) + G * V = nv X + (if dg X L < c0 + b0 then 1 else 0) * bp (L + 1) := by
  have ⟨z1, z2⟩ := nv_high hXl hW
  have e := nv_set_at (d := (dg X L + 4294967296 - c0 - b0) % 4294967296) hl1 (by omega) hs z1
  have h1 := last_step hn (borrow_eq hx hc hb)
  rw [e, h1, bp_succ, ← z2, nv_take_dg]
theorem back_eq {T C V R p c x : Nat} (hn : T + c * p = C + V) (hs : C + p * x + V = R + 4294967296 * p) : T + p * (x + c) = R + p * 4294967296 := by
  rw [Nat.mul_add, Nat.mul_comm p c, Nat.mul_comm p 4294967296]
  omega
theorem digit_addlast {X2 X3 : List Nat} {V L c1 R : Nat} (hl : L + 1 ≤ X2.length) (hl3 : X3.length = X2.length) (d3 : Digs X3) (hs : ∀ q, L ≤ q → dg X3 q = dg X2 q) (hn : nv (X3.take L) + c1 * bp L = nv (X2.take L) + V)
    (hc : c1 ≤ 1) (hsum : nv X2 + V = R + bp (L + 1)) (hX : nv X2 < bp (L + 1)) (hx : dg X2 L < 4294967296) : nv (X3.set L ((dg X2 L + c1) % 4294967296)) = R := by
  have ⟨z1, z2⟩ := nv_high hl hX
  rw [nv_set_at hl3 (by omega) hs z1]
  have hT := nv_lt (d3.take L)
  rw [List.length_take, Nat.min_eq_left (by omega)] at hT
  rw [nv_take_dg] at z2
  rw [← z2, bp_succ] at hsum
  have ⟨a, b⟩ := digit_back (S := R) (z := dg X2 L + c1) hT (by omega) (back_eq hn hsum)
  rw [b, Nat.mod_self, Nat.mul_zero, Nat.add_zero]
  exact a
/-- One round of the long division. -/
theorem div_round {N V T X Q p : Nat} (h : T + p * X + Q * (4294967296 * p) * V = N) : T + p * (X % V) + (X / V + 4294967296 * Q) * p * V = N := by
  have e := Nat.div_add_mod X V
  generalize X / V = q at *
  generalize X % V = r at *
  subst e
  grind
theorem div_next {V d Y : Nat} (hd : d < 4294967296) (hY : Y < V) : d + 4294967296 * Y < 4294967296 * V := by omega
theorem div_end {N V U Q : Nat} (hU : U < V) (h : U + Q * V = N) : Q = N / V ∧ U = N % V := by
  subst h
  rw [Nat.add_mul_mod_self_right, Nat.mod_eq_of_lt hU, Nat.add_mul_div_right _ _ (by omega), Nat.div_eq_of_lt hU, Nat.zero_add]
  exact ⟨rfl, rfl⟩
/-- The divisor, moved so that its first digit is great. -/
theorem norm_div {es : List Nat} {S L : Nat} (de : Digs es) (hL : es.length = L) (h1 : 1 ≤ L) (hS : 0 < S) (hhi : (dg es (L - 1) + 1) * S ≤ 4294967296) (hlo : 2147483648 ≤ dg es (L - 1) * S) {vs : List Nat} (dv : Digs vs) (tv : Top vs) (hv : nv vs = nv es * S) :
    vs.length = L ∧ 4294967296 ≤ 2 * dg vs (L - 1) := by
  obtain ⟨n, rfl⟩ : ∃ n, L = n + 1 := ⟨L - 1, by omega⟩
  rw [Nat.add_sub_cancel] at *
  have e1 := nv_take_dg es n
  rw [List.take_of_length_le (by omega)] at e1
  have l1 := nv_lt (de.take n)
  rw [List.length_take, Nat.min_eq_left (by omega)] at l1
  generalize dg es n = d at *
  have h2 : nv es < bp n * (d + 1) := by rw [Nat.mul_add, Nat.mul_one]; omega
  have h3 : nv vs < bp (n + 1) := by
    rw [hv, bp_succ]
    have a := Nat.mul_lt_mul_of_pos_right h2 hS
    have b := Nat.mul_le_mul_left (bp n) hhi
    rw [Nat.mul_assoc] at a
    rw [Nat.mul_comm 4294967296]
    exact Nat.lt_of_lt_of_le a b
  have h4 : bp n * 2147483648 ≤ nv vs := by
    rw [hv]
    have a : bp n * d ≤ nv es := by omega
    have b := Nat.mul_le_mul_right S a
    have c := Nat.mul_le_mul_left (bp n) hlo
    rw [Nat.mul_assoc] at b
    exact Nat.le_trans c b
  have h5 : vs.length ≤ n + 1 := len_of_lt tv h3
  have h6 : vs.length = n + 1 := by
    rcases Nat.lt_or_ge n vs.length with h | h
    · omega
    · have a := nv_lt dv
      have b := bp_le h
      have c := bp_pos n
      omega
  refine ⟨h6, ?_⟩
  have e2 := nv_take_dg vs n
  rw [List.take_of_length_le (by omega)] at e2
  have l2 := nv_lt (dv.take n)
  rw [List.length_take, Nat.min_eq_left (by omega)] at l2
  generalize dg vs n = x at *
  rcases Nat.lt_or_ge (2 * x) 4294967296 with h | h
  · exfalso
    have : bp n * (x + 1) ≤ bp n * 2147483648 := Nat.mul_le_mul_left _ (by omega)
    rw [Nat.mul_add, Nat.mul_one] at this
    omega
  · exact h
/-- The first digits of the moved dividend are less than the moved divisor. -/
theorem norm_start {ds es lu : List Nat} {S m : Nat} (dd : Digs ds) (te : Top es) (h1 : 1 ≤ es.length) (hS : 0 < S) (hlu : nv lu = nv ds * S) (hm : m + es.length = ds.length + 1) (hl : m ≤ lu.length) : nv (lu.drop m) < nv es * S := by
  have a := nv_split lu m hl
  have b := nv_lt dd
  have c := te.len h1
  have e : bp ds.length = bp m * bp (es.length - 1) := by rw [← bp_add]; congr 1; omega
  rw [e] at b
  have h2 : bp m * nv (lu.drop m) ≤ nv ds * S := by omega
  have h3 : nv ds * S < bp m * (bp (es.length - 1) * S) := by rw [← Nat.mul_assoc]; exact Nat.mul_lt_mul_of_pos_right b hS
  have h4 : nv (lu.drop m) < bp (es.length - 1) * S := Nat.lt_of_mul_lt_mul_left (a := bp m) (by omega)
  have h5 := Nat.mul_le_mul_right S c
  omega
theorem DBlk.digat {w : World} {g : Nat} {t : TypeId} {l : List Nat} (h : DBlk w g t l) (hd : Digs l) : DigAt w (some ⟨g, 0, none⟩) l :=
  ⟨hd, fun _ => ⟨_, rfl, fun j hj => by
    have e : (⟨g, 0, none⟩ : Addr).add j = ⟨g, j, none⟩ := by unfold Addr.add; split <;> simp_all
    rw [e]
    exact h.cell hj⟩⟩
theorem DBlk.digtake {w : World} {g : Nat} {t : TypeId} {l : List Nat} (h : DBlk w g t l) (hd : Digs l) {n c : Nat} (hn : n ≤ l.length) (hc : l.length ≤ c) (hm : c ≤ 9223372036854775807) : DigV w (.slice (some ⟨g, 0, none⟩) n c) (l.take n) := by
  have hl : (l.take n).length = n := by rw [List.length_take, Nat.min_eq_left hn]
  refine ⟨_, c, by rw [hl], by omega, hm, hd.take n, fun hp => ⟨_, rfl, fun j hj => ?_⟩⟩
  have e : (⟨g, 0, none⟩ : Addr).add j = ⟨g, j, none⟩ := by unfold Addr.add; split <;> simp_all
  rw [e, h.cell (by omega)]
  simp only [List.getElem_take]
end Go.Hp
namespace Go.Hp
open Go.RowKit
def sz (n : Nat) : Nat := if n = 0 then 0 else Nat.log2 n / 32 + 1
theorem bp_two_pow (k : Nat) : bp k = 2 ^ (32 * k) := by unfold bp; rw [Nat.pow_mul]
theorem lt_bp_sz (n : Nat) : n < bp (sz n) := by
  unfold sz
  split
  · rename_i h; subst h; exact bp_pos 0
  · rw [bp_two_pow]
    exact Nat.lt_of_lt_of_le Nat.lt_log2_self (Nat.pow_le_pow_right (by decide) (by omega))
theorem sz_le_of_lt {n k : Nat} (h : n < bp k) : sz n ≤ k := by
  unfold sz
  split
  · omega
  · rename_i h0
    rw [bp_two_pow] at h
    have := (Nat.log2_lt h0).2 h
    omega
theorem sz_zero : sz 0 = 0 := rfl
theorem sz_le_iff {n k : Nat} : sz n ≤ k ↔ n < bp k := ⟨fun h => Nat.lt_of_lt_of_le (lt_bp_sz n) (bp_le h), sz_le_of_lt⟩
theorem sz_mono {a b : Nat} (h : a ≤ b) : sz a ≤ sz b := sz_le_of_lt (Nat.lt_of_le_of_lt h (lt_bp_sz b))
theorem sz_mul (a b : Nat) : sz (a * b) ≤ sz a + sz b := by
  apply sz_le_of_lt
  rw [bp_add]
  exact Nat.mul_lt_mul_of_lt_of_le (lt_bp_sz a) (Nat.le_of_lt (lt_bp_sz b)) (bp_pos _)
theorem sz_add (a b : Nat) : sz (a + b) ≤ max (sz a) (sz b) + 1 := by
  apply sz_le_of_lt
  have h1 := Nat.lt_of_lt_of_le (lt_bp_sz a) (bp_le (Nat.le_max_left (sz a) (sz b)))
  have h2 := Nat.lt_of_lt_of_le (lt_bp_sz b) (bp_le (Nat.le_max_right (sz a) (sz b)))
  rw [bp_succ]
  have := bp_pos (max (sz a) (sz b))
  omega
theorem sz_nv {ds : List Nat} (hd : Digs ds) : sz (nv ds) ≤ ds.length := sz_le_of_lt (nv_lt hd)
theorem len_sz {ds : List Nat} (hd : Digs ds) (ht : Top ds) : ds.length = sz (nv ds) := by
  have h1 := sz_nv hd
  have h2 := len_of_lt ht (lt_bp_sz (nv ds))
  omega
theorem sz_small {n : Nat} (h : n < 4294967296) : sz n ≤ 1 := sz_le_of_lt (by rw [bp_one]; exact h)
theorem sz_small2 {n : Nat} (h : n < 18446744073709551616) : sz n ≤ 2 := sz_le_of_lt (by rw [bp_two]; exact h)
theorem NatV.len {w : World} {v : Value} {n : Nat} (h : NatV w v n) : ∃ ds, DigV w v ds ∧ nv ds = n ∧ Top ds ∧ ds.length = sz n := by
  obtain ⟨ds, h1, h2, h3⟩ := h
  refine ⟨ds, h1, h2, h3, ?_⟩
  rw [← h2]
  obtain ⟨_, _, _, _, _, hA⟩ := h1
  exact len_sz hA.1 h3
theorem NatV.num {w : World} {v : Value} {n : Nat} (h : NatV w v n) {l : Nat} (hl : sz n ≤ l) : NumV w v n l := by
  obtain ⟨ds, h1, h2, _, h4⟩ := h.len
  exact ⟨ds, h1, h2, by omega⟩
theorem NumV.sz {w : World} {v : Value} {n l : Nat} (h : NumV w v n l) : sz n ≤ l := by
  obtain ⟨ds, ⟨_, _, _, _, _, hA⟩, h2, h3⟩ := h
  rw [← h2]
  exact Nat.le_trans (sz_nv hA.1) h3
theorem NatV.form {w : World} {v : Value} {n : Nat} (h : NatV w v n) : ∃ A c, v = .slice A (sz n) c ∧ sz n ≤ c ∧ c ≤ 9223372036854775807 := by
  obtain ⟨ds, ⟨A, c, h1, h2, h3, _⟩, _, _, h4⟩ := h.len
  exact ⟨A, c, by rw [h1, h4], by omega, h3⟩
/-! ### Digits outlive every store into a cell that holds no digit -/
/-- Every digit of w stands in w' too. -/
def KD (w w' : World) : Prop := ∀ p n, w.cell? p = some (.int .u32 n) → w'.cell? p = some (.int .u32 n)
/-- The block g holds no digit. -/
def NoDig (w : World) (g : Nat) : Prop := ∀ o n, w.cell? ⟨g, o, none⟩ ≠ some (.int .u32 n)
/-- This value is no digit. -/
def isDig : Value → Bool
  | .int .u32 _ => true
  | _ => false
section
variable {a b w w' : World} {v : Value}
theorem KD.refl (w : World) : KD w w := fun _ _ h => h
theorem KD.trans {c : World} (h : KD a b) (k : KD b c) : KD a c := fun p n hp => k p n (h p n hp)
theorem Ext.kd (h : Ext a b) : KD a b := fun _ _ hp => h.cell hp
theorem KD.alloc (h : KD a w) (o : Obj) : KD a (w.alloc o) := h.trans ((Ext.refl w).alloc o).kd
theorem KD.drew (h : KD a w) : KD a w.drew := h
theorem KD.drewN (h : KD a w) (n : Nat) : KD a (w.drewN n) := h
theorem KD.set_ (h : KD a w) {g i : Nat} (hg : NoDig w g) (u : Value) : KD a (w.setCell ⟨g, i, none⟩ u) := by
  refine h.trans fun p n hp => ?_
  by_cases e : p = ⟨g, i, none⟩
  · subst e; exact absurd hp (hg i n)
  · rw [World.cell?_setCell_other w ⟨g, i, none⟩ p u (fun e' => e e'.symm)]; exact hp
theorem NoDig.set_ {g : Nat} (hg : NoDig w g) {h i : Nat} {u : Value} (hu : isDig u = false) : NoDig (w.setCell ⟨h, i, none⟩ u) g := by
  intro o n hc
  by_cases e : (⟨g, o, none⟩ : Addr) = ⟨h, i, none⟩
  · cases e
    have h1 : (w.setCell ⟨g, i, none⟩ u).cell? ⟨g, i, none⟩ = (w.cell? ⟨g, i, none⟩).map fun _ => u := by
      unfold World.cell? World.setCell
      simp only [Array.getElem?_modify]
      cases hh : w.heap[g]? with
      | none => simp
      | some ob =>
        cases ob with
        | cells c e f =>
          simp only [Option.map_some, Option.isSome_none, Bool.false_eq_true, if_false, Array.getElem?_setIfInBounds]
          by_cases hi : i < c.size <;> simp [hi]
        | _ => simp
    rw [h1] at hc
    cases hcc : w.cell? ⟨g, i, none⟩ with
    | none => rw [hcc] at hc; cases hc
    | some x => rw [hcc] at hc; cases hc; cases hu
  · rw [World.cell?_setCell_other w ⟨h, i, none⟩ ⟨g, o, none⟩ u (fun e' => e e'.symm)] at hc
    exact hg o n hc
theorem NoDig.ext {g : Nat} (h : NoDig a g) (e : Ext a w) (hg : g < a.heap.size) : NoDig w g := fun o n hc => h o n (by rw [← e.cells g o hg]; exact hc)
theorem NoDig.new (w : World) (cs : Array Value) (t : TypeId) (h : cs.all (fun u => !isDig u) = true) : NoDig (w.alloc (.cells cs t)) w.heap.size := by
  intro o n hc
  rw [cell_of_row _ w.heap.size o cs t (0, 0) (heap_alloc_new w _)] at hc
  have := Array.all_eq_true_iff_forall_mem.1 h _ (Array.mem_of_getElem? hc)
  simp [isDig] at this
theorem NoDig.alloc {g : Nat} (h : NoDig w g) (hg : g < w.heap.size) (o : Obj) : NoDig (w.alloc o) g := h.ext ((Ext.refl w).alloc o) hg
theorem NoDig.drew {g : Nat} (h : NoDig w g) : NoDig w.drew g := h
theorem NoDig.drewN {g : Nat} (h : NoDig w g) (n : Nat) : NoDig (w.drewN n) g := h
theorem DigAt.kd {A : Option Addr} {ds : List Nat} (h : DigAt w A ds) (e : KD w w') : DigAt w' A ds :=
  ⟨h.1, fun hl => by obtain ⟨a, ha, hc⟩ := h.2 hl; exact ⟨a, ha, fun j hj => e _ _ (hc j hj)⟩⟩
theorem DigV.kd {ds : List Nat} (h : DigV w v ds) (e : KD w w') : DigV w' v ds := by
  obtain ⟨A, c, h1, h2, h3, h4⟩ := h; exact ⟨A, c, h1, h2, h3, h4.kd e⟩
theorem IntV.kd {neg : Bool} {ds : List Nat} (h : IntV w v neg ds) (e : KD w w') : IntV w' v neg ds := by
  obtain ⟨s, h1, h2⟩ := h; exact ⟨s, h1, h2.kd e⟩
theorem NumV.kd {n l : Nat} (h : NumV w v n l) (e : KD w w') : NumV w' v n l := by obtain ⟨d, h1, h2⟩ := h; exact ⟨d, h1.kd e, h2⟩
theorem NatV.kd {n : Nat} (h : NatV w v n) (e : KD w w') : NatV w' v n := by obtain ⟨d, h1, h2⟩ := h; exact ⟨d, h1.kd e, h2⟩
theorem HasZ.kd {x : Int} (h : HasZ w v x) (e : KD w w') : HasZ w' v x := by obtain ⟨n, d, h1, h2⟩ := h; exact ⟨n, d, h1.kd e, h2⟩
theorem IsZ.kd {x : Int} (h : IsZ w v x) (e : KD w w') : IsZ w' v x := by obtain ⟨n, d, h1, h2⟩ := h; exact ⟨n, d, h1.kd e, h2⟩
/-- A sign and digits make the integer. -/
theorem IsZ.mk {N : Nat} {neg : Bool} (h : NatV w v N) (hn : neg = true → N ≠ 0) : IsZ w (.agg #[.bool neg, v]) (if neg then -(N : Int) else N) := by
  obtain ⟨ds, h1, rfl, h3⟩ := h
  exact ⟨neg, ds, ⟨v, rfl, h1⟩, rfl, h3, fun hh e => hn hh (by rw [e]; rfl)⟩
end
end Go.Hp
namespace Go.Hp
open Go.RowKit
theorem HasZ.form {w : World} {v : Value} {x : Int} (h : HasZ w v x) : ∃ neg A n c N, v = .agg #[.bool neg, .slice A n c] ∧ n ≤ c ∧ c ≤ 9223372036854775807 ∧ n ≤ 1099511627776 ∧ NumV w (.slice A n c) N n ∧ x = if neg then -(N : Int) else N := by
  obtain ⟨neg, ds, ⟨s, rfl, hD⟩, rfl, hl⟩ := h
  have hD' := hD
  obtain ⟨A, c, rfl, h1, h2, h3⟩ := hD
  exact ⟨neg, A, ds.length, c, nv ds, rfl, h1, h2, hl, ⟨ds, hD', rfl, Nat.le_refl _⟩, rfl⟩
theorem IsZ.form {w : World} {v : Value} {x : Int} (h : IsZ w v x) : ∃ A c, v = .agg #[.bool (decide (x < 0)), .slice A (sz x.natAbs) c] ∧ sz x.natAbs ≤ c ∧ c ≤ 9223372036854775807 ∧ NatV w (.slice A (sz x.natAbs) c) x.natAbs := by
  obtain ⟨neg, ds, ⟨s, rfl, hD⟩, rfl, h1, h2⟩ := h
  have hn : (iv neg ds).natAbs = nv ds := by unfold iv; cases neg <;> simp
  have hV : NatV w s (iv neg ds).natAbs := ⟨ds, hD, hn.symm, h1⟩
  obtain ⟨A, c, rfl, q1, q2⟩ := hV.form
  refine ⟨A, c, ?_, q1, q2, hV⟩
  have : neg = decide (iv neg ds < 0) := by
    unfold iv
    cases neg with
    | false => simp
    | true =>
      have hne := h2 rfl
      have h0 : nv ds ≠ 0 := by
        intro e
        obtain ⟨_, _, _, _, _, hA⟩ := hD
        have := len_sz hA.1 h1
        rw [e, sz_zero] at this
        exact hne (List.length_eq_zero_iff.1 this)
      simp; omega
  rw [← this]
theorem IsZ.has {w : World} {v : Value} {x : Int} (h : IsZ w v x) (hs : sz x.natAbs ≤ 1099511627776) : HasZ w v x := by
  obtain ⟨neg, ds, h1, h2, h3⟩ := h
  refine ⟨neg, ds, h1, h2, ?_⟩
  obtain ⟨s, _, hD⟩ := h1
  obtain ⟨_, _, _, _, _, hA⟩ := hD
  have := len_sz hA.1 h3.1
  have hn : x.natAbs = nv ds := by rw [← h2]; unfold iv; cases neg <;> simp
  rw [this, ← hn]; exact hs
theorem HasZ.sz {w : World} {v : Value} {x : Int} (h : HasZ w v x) : sz x.natAbs ≤ 1099511627776 := by
  obtain ⟨neg, A, n, c, N, rfl, _, _, h1, h2, rfl⟩ := h.form
  have := h2.sz
  cases neg <;> simp <;> omega
theorem sz_pos {n : Nat} (h : n ≠ 0) : 0 < sz n := by
  have := lt_bp_sz n
  rcases Nat.eq_zero_or_pos (Hp.sz n) with e | e
  · rw [e, bp_zero] at this; omega
  · exact e
theorem IsZ.cells {w : World} {v : Value} {x : Int} (h : IsZ w v x) : ∃ b A n c, v = .agg #[.bool b, .slice A n c] := by
  obtain ⟨A, c, rfl, _⟩ := h.form; exact ⟨_, _, _, _, rfl⟩
theorem Ext.a1 {w w' : World} {o : Obj} (h : Ext (w.alloc o) w') : Ext w w' := ((Ext.refl w).alloc o).trans h
theorem Ext.a2 {w w' : World} {o p : Obj} (h : Ext ((w.alloc o).alloc p) w') : Ext w w' := h.a1.a1
theorem Ext.a3 {w w' : World} {o p q : Obj} (h : Ext (((w.alloc o).alloc p).alloc q) w') : Ext w w' := h.a1.a1.a1
theorem NoDig.at_ {w w' : World} {cs : Array Value} {t : TypeId} (hx : Ext (w.alloc (.cells cs t)) w') {g : Nat} (hg : g = w.heap.size) (h : cs.all (fun u => !isDig u) = true) : NoDig w' g := by
  subst hg; exact (NoDig.new w cs t h).ext hx (by simp)
theorem Ext.box {w w' : World} {cs : Array Value} {t : TypeId} (h : Ext (w.alloc (.cells cs t)) w') {g i : Nat} {v : Value} (hg : g = w.heap.size) (hv : cs[i]? = some v) : w'.cell? ⟨g, i, none⟩ = some v := by
  subst hg; exact h.cell ((cell_of_row _ w.heap.size i cs t (0, 0) (heap_alloc_new w _)).trans hv)
/-- A result struct of the call's own, filled with an integer. -/
theorem fin_z {w w1 : World} {g n c : Nat} {A : Option Addr} {b : Bool} {x : Int} (h : IsZ w1 (.agg #[.bool b, .slice A n c]) x) (hx : Ext w w1) (hn : NoDig w1 g) (hg : w.heap.size ≤ g) :
    Gives w (fun r w' => IsZ w' r x) (.returned (.agg #[.bool b, .slice A n c])) ((w1.setCell ⟨g, 0, none⟩ (.bool b)).setCell ⟨g, 1, none⟩ (.slice A n c)) :=
  Gives.mk (h.kd (((KD.refl w1).set_ (i := 0) hn (.bool b)).set_ (i := 1) (hn.set_ rfl) (.slice A n c))) ((hx.setCell _ _ hg).setCell _ _ hg)
end Go.Hp
namespace Go.Hp
open Go.RowKit
/-- Block g is, whole, the cells cs, none of them a digit. -/
def Box (w : World) (g : Nat) (t : TypeId) (cs : Array Value) : Prop := w.heap[g]? = some (.cells cs t (0, 0)) ∧ cs.all (fun u => !isDig u) = true
section
variable {w w' : World} {g : Nat} {t : TypeId} {cs : Array Value}
theorem Box.lt (h : Box w g t cs) : g < w.heap.size := by
  rcases Nat.lt_or_ge g w.heap.size with hlt | hge
  · exact hlt
  · have := h.1; rw [Array.getElem?_eq_none hge] at this; cases this
theorem Box.cell (h : Box w g t cs) {i : Nat} {v : Value} (hv : cs[i]? = some v) : w.cell? ⟨g, i, none⟩ = some v :=
  (cell_of_row w g i cs t (0, 0) h.1).trans hv
theorem Box.cells2 {a b : Value} (h : Box w g t #[a, b]) : w.cell? ⟨g, 0, none⟩ = some a ∧ w.cell? ⟨g, 1, none⟩ = some b := ⟨h.cell rfl, h.cell rfl⟩
theorem Box.cells4 {a b c d : Value} (h : Box w g t #[a, b, c, d]) : w.cell? ⟨g, 0, none⟩ = some a ∧ w.cell? ⟨g, 1, none⟩ = some b ∧ w.cell? ⟨g, 2, none⟩ = some c ∧ w.cell? ⟨g, 3, none⟩ = some d := ⟨h.cell rfl, h.cell rfl, h.cell rfl, h.cell rfl⟩
theorem Box.frozen (h : Box w g t cs) (i : Nat) : w.frozen? ⟨g, i, none⟩ = false := by
  have := h.1
  simp [World.frozen?, this]
theorem Box.new (w : World) (t : TypeId) (cs : Array Value) (h : cs.all (fun u => !isDig u) = true) : Box (w.alloc (.cells cs t)) w.heap.size t cs := ⟨heap_alloc_new w _, h⟩
theorem Box.set_ (h : Box w g t cs) (i : Nat) {u : Value} (hu : isDig u = false) : Box (w.setCell ⟨g, i, none⟩ u) g t (cs.setIfInBounds i u) := by
  obtain ⟨h1, h2⟩ := h
  refine ⟨by simp [World.setCell, Array.getElem?_modify, h1], ?_⟩
  rw [Array.all_eq_true] at h2 ⊢
  intro j hj
  rw [Array.getElem_setIfInBounds (by simpa using hj)]
  split
  · simp [hu]
  · exact h2 j (by simpa using hj)
theorem Box.ext (h : Box w g t cs) (e : Ext w w') : Box w' g t cs := ⟨e.blk h.1, h.2⟩
theorem Box.alloc (h : Box w g t cs) (o : Obj) : Box (w.alloc o) g t cs := ⟨(Below.heap_alloc w o g h.lt).trans h.1, h.2⟩
theorem Box.far (h : Box w g t cs) {p : Addr} (hp : g ≠ p.block) (u : Value) : Box (w.setCell p u) g t cs := ⟨(Below.heap_setCell w p u g hp).trans h.1, h.2⟩
theorem Box.nodig (h : Box w g t cs) : NoDig w g := by
  intro o n hc
  rw [cell_of_row w g o cs t (0, 0) h.1] at hc
  have := Array.all_eq_true_iff_forall_mem.1 h.2 _ (Array.mem_of_getElem? hc)
  simp [isDig] at this
theorem Box.drewN (h : Box w g t cs) (n : Nat) : Box (w.drewN n) g t cs := h
end
/-- w' is w but for the blocks in G, which hold no digits; and for growth. -/
def Upd (G : List Nat) (w w' : World) : Prop := (∀ g o, g ∉ G → w.heap[g]? = some o → w'.heap[g]? = some o) ∧ KD w w' ∧ ∀ a, Ext a w → (∀ g ∈ G, a.heap.size ≤ g) → Ext a w'
section
variable {w w' : World} {g : Nat} {t : TypeId} {cs : Array Value} {G : List Nat}
theorem Upd.kd (h : Upd G w w') : KD w w' := h.2.1
theorem Upd.from_ (h : Upd G w w') {a : World} (e : Ext a w) (hg : ∀ g ∈ G, a.heap.size ≤ g) : Ext a w' := h.2.2 a e hg
theorem Upd.refl (G : List Nat) (w : World) : Upd G w w := ⟨fun _ _ _ h => h, KD.refl w, fun _ h _ => h⟩
theorem Upd.trans {w'' : World} (h : Upd G w w') (k : Upd G w' w'') : Upd G w w'' :=
  ⟨fun g o hg ho => k.1 g o hg (h.1 g o hg ho), h.kd.trans k.kd, fun a e hg => k.2.2 a (h.2.2 a e hg) hg⟩
theorem Upd.of_ext (e : Ext w w') : Upd G w w' := ⟨fun _ _ _ h => e.blk h, e.kd, fun _ h _ => h.trans e⟩
theorem Upd.set_ (hn : NoDig w g) (i : Nat) (u : Value) : Upd [g] w (w.setCell ⟨g, i, none⟩ u) :=
  ⟨fun g' o hg ho => (Below.heap_setCell w ⟨g, i, none⟩ u g' (by simpa using hg)).trans ho, (KD.refl w).set_ hn u, fun a e hg => e.setCell _ _ (hg g (by simp))⟩
theorem Box.upd (h : Box w g t cs) (U : Upd G w w') (hg : g ∉ G) : Box w' g t cs := ⟨U.1 g _ hg h.1, h.2⟩
theorem Box.put2 {a b : Value} (h : Box w g t #[a, b]) (u v : Value) (hu : isDig u = false) (hv : isDig v = false) :
    ∃ W, W = (w.setCell ⟨g, 0, none⟩ u).setCell ⟨g, 1, none⟩ v ∧ Box W g t #[u, v] ∧ Upd [g] w W :=
  ⟨_, rfl, (h.set_ 0 hu).set_ 1 hv, (Upd.set_ h.nodig 0 u).trans (Upd.set_ (h.set_ 0 hu).nodig 1 v)⟩
theorem Box.put4 {a b c d : Value} (h : Box w g t #[a, b, c, d]) (u v x y : Value) (hu : isDig u = false) (hv : isDig v = false) (hx : isDig x = false) (hy : isDig y = false) :
    ∃ W, W = (((w.setCell ⟨g, 0, none⟩ u).setCell ⟨g, 1, none⟩ v).setCell ⟨g, 2, none⟩ x).setCell ⟨g, 3, none⟩ y ∧ Box W g t #[u, v, x, y] ∧ Upd [g] w W :=
  ⟨_, rfl, (((h.set_ 0 hu).set_ 1 hv).set_ 2 hx).set_ 3 hy,
    (((Upd.set_ h.nodig 0 u).trans (Upd.set_ (h.set_ 0 hu).nodig 1 v)).trans (Upd.set_ ((h.set_ 0 hu).set_ 1 hv).nodig 2 x)).trans (Upd.set_ (((h.set_ 0 hu).set_ 1 hv).set_ 2 hx).nodig 3 y)⟩
/-- A new box, behind a pointer. -/
def NewAt (w : World) (v : Value) (base : Nat) (cs : Array Value) (t : TypeId) : Prop := ∃ g, v = .pointer (some ⟨g, 0, none⟩) ∧ base ≤ g ∧ Box w g t cs
theorem NewAt.ext {v : Value} {base : Nat} (h : NewAt w v base cs t) (e : Ext w w') : NewAt w' v base cs t := by obtain ⟨g, h1, h2, h3⟩ := h; exact ⟨g, h1, h2, h3.ext e⟩
theorem NewAt.mk {base : Nat} (hb : base ≤ w.heap.size) (h : cs.all (fun u => !isDig u) = true) : NewAt (w.alloc (.cells cs t)) (.pointer (some ⟨w.heap.size, 0, none⟩)) base cs t := ⟨_, rfl, hb, Box.new w t cs h⟩
/-- A new box. -/
theorem Box.made (w : World) (t : TypeId) (cs : Array Value) (h : cs.all (fun u => !isDig u) = true) :
    ∃ W, W = w.alloc (.cells cs t) ∧ Box W w.heap.size t cs ∧ Ext w W := ⟨_, rfl, Box.new w t cs h, (Ext.refl w).alloc _⟩
end
end Go.Hp
namespace Go.Hp
open Go
/-- What one operation comes to, if it gives a value. -/
def UponV (P : Program) (R : Value → World → Prop) : Result Next → Prop
  | .ok (.value v) w' => R v w'
  | .ok (.enter f args) w' => Calls P f args w' fun e w'' => ∃ v, e = .returned v ∧ R v w''
  | _ => False
theorem UponV.wp {P : Program} {o : Oper} {a : Act} {w : World} {K : Act → World → Prop} {Q : Exit → Act → World → Prop} {R : Value → World → Prop} {ρ : Operand → Value}
    (h : UponV P R ((execOp ρ o).run P w)) (he : execOp a.eval o = execOp ρ o) (hk : ∀ v w', R v w' → K (a.put o.dst v) w') : o.wp P a w K Q := by
  unfold Oper.wp
  rw [he]
  revert h
  generalize (execOp ρ o).run P w = r
  intro h
  match r, h with
  | .ok (.value v) w', h => exact hk v w' h
  | .ok (.enter f args) w', h =>
    refine Calls.mono (h : Calls P f args w' _) ?_
    rintro e w'' ⟨v, rfl, hr⟩
    exact hk v w'' hr
def mask (l : List Nat) (γ : Nat → Value) (i : Nat) : Value := if l.contains i then γ i else undef
def upd (γ : Nat → Value) (i : Nat) (v : Value) (j : Nat) : Value := if j = i then v else γ j
/-- The value of an operand: a slot of the region's first part, or one from before (EK: their numbers, EV: what they hold). -/
def pevD : List Nat → (Nat → Value) → Nat → Nat → Value → Value
  | [], _, _, _, d => d
  | k :: ks, v, i, t, d => if k = t then v i else pevD ks v (i + 1) t d
def pevE : List Nat → List Value → Nat → Value
  | k :: ks, v :: vs, t => if k = t then v else pevE ks vs t
  | _, _, _ => undef
def peval (EK : List Nat) (EV : List Value) (D : List Nat) (v : Nat → Value) : Operand → Value
  | .tmp t => pevD D v 0 t (pevE EK EV t)
  | .const v => v
  | .global g => .pointer (some ⟨g, 0, none⟩)
  | .func f => .func (.func f) #[] #[]
def EAll (a0 : Act) : List Nat → List Value → Prop
  | [], [] => True
  | k :: ks, v :: vs => a0.tmps[k]? = some v ∧ EAll a0 ks vs
  | _, _ => False
theorem EAll.get {a0 : Act} : ∀ {ks : List Nat} {vs : List Value}, EAll a0 ks vs → ∀ t j, ks.idxOf? t = some j → a0.tmps[t]? = some (vs.getD j undef)
  | [], [], _, t, j, h => by simp at h
  | k :: ks, v :: vs, ⟨h1, h2⟩, t, j, h => by
    rw [List.idxOf?_cons] at h
    split at h
    · rename_i hkt
      have : k = t := by simpa using hkt
      subst this
      cases h
      exact h1
    · cases hi : ks.idxOf? t with
      | none => rw [hi] at h; cases h
      | some m =>
        rw [hi] at h
        cases h
        exact EAll.get h2 t m hi
@[go_sem] theorem peval_tmp (EK : List Nat) (EV : List Value) (D : List Nat) (v : Nat → Value) (t : Nat) : peval EK EV D v (.tmp t) = pevD D v 0 t (pevE EK EV t) := rfl
@[go_sem] theorem peval_const (EK : List Nat) (EV : List Value) (D : List Nat) (v : Nat → Value) (u : Value) : peval EK EV D v (.const u) = u := rfl
@[go_sem] theorem peval_func (EK : List Nat) (EV : List Value) (D : List Nat) (v : Nat → Value) (f : Nat) : peval EK EV D v (.func f) = .func (.func f) #[] #[] := rfl
@[go_sem] theorem pevD_nil (v : Nat → Value) (i t : Nat) (d : Value) : pevD [] v i t d = d := rfl
@[go_sem] theorem pevD_cons (k : Nat) (ks : List Nat) (v : Nat → Value) (i t : Nat) (d : Value) : pevD (k :: ks) v i t d = if k = t then v i else pevD ks v (i + 1) t d := rfl
@[go_sem] theorem pevE_nil (t : Nat) : pevE [] [] t = undef := rfl
@[go_sem] theorem pevE_cons (k : Nat) (ks : List Nat) (v : Value) (vs : List Value) (t : Nat) : pevE (k :: ks) (v :: vs) t = if k = t then v else pevE ks vs t := rfl
attribute [go_sem] List.getD_cons_zero List.getD_cons_succ
@[go_sem] theorem UponV_value (P : Program) (R : Value → World → Prop) (v : Value) (w : World) : UponV P R (.ok (.value v) w) = R v w := rfl
@[go_sem] theorem UponV_enter (P : Program) (R : Value → World → Prop) (f : FuncId) (args : Array Value) (w : World) : UponV P R (.ok (.enter f args) w) = Calls P f args w fun e w'' => ∃ v, e = .returned v ∧ R v w'' := rfl
theorem pevD_eq (ds : List Nat) (v : Nat → Value) (i t : Nat) (d : Value) : pevD ds v i t d = match ds.idxOf? t with | some j => v (i + j) | none => d := by
  induction ds generalizing i with
  | nil => rfl
  | cons k ks ih =>
    rw [pevD_cons, List.idxOf?_cons]
    by_cases h : k = t
    · simp [h]
    · have h' : (k == t) = false := by simpa using h
      rw [if_neg h, ih (i + 1)]
      simp only [h', Bool.false_eq_true, if_false]
      cases ks.idxOf? t with
      | none => rfl
      | some j => show v (i + 1 + j) = v (i + (j + 1)); rw [show i + 1 + j = i + (j + 1) from by omega]
theorem pevE_eq : ∀ (ks : List Nat) (vs : List Value) (t : Nat), ks.length = vs.length → pevE ks vs t = match ks.idxOf? t with | some j => vs.getD j undef | none => undef
  | [], [], _, _ => rfl
  | k :: ks, v :: vs, t, h => by
    rw [pevE_cons, List.idxOf?_cons]
    by_cases e : k = t
    · simp [e]
    · have h' : (k == t) = false := by simpa using e
      rw [if_neg e, pevE_eq ks vs t (by simpa using h)]
      simp only [h', Bool.false_eq_true, if_false]
      cases ks.idxOf? t with
      | none => rfl
      | some j => rfl
  | [], _ :: _, _, h => by simp at h
  | _ :: _, [], _, h => by simp at h
theorem EAll.len {a0 : Act} : ∀ {ks : List Nat} {vs : List Value}, EAll a0 ks vs → ks.length = vs.length
  | [], [], _ => rfl
  | _ :: _, _ :: _, ⟨_, h⟩ => by simp [EAll.len h]
theorem peval_eq {a0 : Act} {EK : List Nat} {EV : List Value} (h : EAll a0 EK EV) (D : List Nat) (v : Nat → Value) (t : Nat) :
    peval EK EV D v (.tmp t) = match D.idxOf? t with | some j => v j | none => match EK.idxOf? t with | some j => EV.getD j undef | none => undef := by
  rw [peval_tmp, pevD_eq, pevE_eq EK EV t h.len]
  cases D.idxOf? t with
  | none => rfl
  | some j => show v (0 + j) = v j; rw [Nat.zero_add]
/-- The frame behind the first part. -/
def fillAll (a0 : Act) (v : Nat → Value) : Nat → List Nat → Act
  | _, [] => a0
  | i, d :: ds => fillAll (a0.put (some d) (v i)) v (i + 1) ds
def looks (o : Oper) : List Nat := o.op.operands.toList.filterMap fun | .tmp t => some t | _ => none
/-- The certificate. k: how many operations stand in the first part; D: their slots; T: for each operation those that come before it in every order. -/
def parOk (ops : Array Oper) (k : Nat) (D : List Nat) (T : List (List Nat)) (EK : List Nat) (ℓ : Nat) : Bool :=
  Nat.ble k ops.size && D.length == k && Region.noSelect ops &&
  (List.range k).all (fun i => (List.range k).all fun j => i == j || D.getD i 0 != D.getD j 0) &&
  (List.range ops.size).all fun i =>
    match ops[i]? with
    | none => false
    | some o =>
      (o.after.all fun e => !Region.binds .any e || Nat.blt e.on i) &&
      ((T.getD i []).all fun j => o.after.any fun e => Region.binds .any e && (e.on == j || (T.getD e.on []).contains j)) &&
      (if Nat.blt i k then
        o.dst == some (D.getD i 0) &&
        ((looks o).all fun t => match D.idxOf? t with | some j => (T.getD i []).contains j | none => EK.contains t) &&
        (match o.guard with | none => true | some (g, _) => (T.getD i []).contains g && Nat.blt g k)
      else (List.range i).all fun j => j == ℓ || (T.getD i []).contains j)
def Each : Nat → (Nat → Prop) → Prop
  | 0, _ => True
  | n + 1, p => Each n p ∧ p n
theorem Each.get {n : Nat} {p : Nat → Prop} (h : Each n p) : ∀ i, i < n → p i := by
  induction n with
  | zero => intro i hi; omega
  | succ n ih =>
    intro i hi
    by_cases e : i = n
    · subst e; exact h.2
    · exact ih h.1 i (by omega)
theorem each_of : ∀ {n : Nat} {p : Nat → Prop}, (∀ i, i < n → p i) → Each n p
  | 0, _, _ => trivial
  | n + 1, _, h => ⟨each_of fun i hi => h i (by omega), h n (by omega)⟩
section
variable {P : Program} {ops : Array Oper} {Q : Exit → Act → World → Prop} {a0 : Act} {W0 : World}
  {k ℓ : Nat} {D : List Nat} {T : List (List Nat)} {EK : List Nat} {EV : List Value} {V : (Nat → Value) → Nat → Value} {F : Nat → (Nat → Value) → World → Prop}
/-- The values of the first part's slots. -/
def pvals (T : List (List Nat)) (V : (Nat → Value) → Nat → Value) (γ : Nat → Value) (i : Nat) : Value := V (mask (i :: T.getD i []) γ) i
def StepOk (P : Program) (ops : Array Oper) (EK : List Nat) (EV : List Value) (W0 : World) (D : List Nat) (T : List (List Nat)) (V : (Nat → Value) → Nat → Value) (F : Nat → (Nat → Value) → World → Prop) (i : Nat) : Prop :=
  ∀ γ w, Ext W0 w → (∀ j, j ∈ T.getD i [] → F j (mask (j :: T.getD j []) γ) w) →
    match ops[i]? with
    | none => False
    | some o => (match o.guard with | none => True | some (g, b) => pvals T V γ g = .bool b) ∧
      UponV P (fun v w' => Ext w w' ∧ V (mask (i :: T.getD i []) (upd γ i v)) i = v ∧ F i (mask (i :: T.getD i []) (upd γ i v)) w') ((execOp (peval EK EV D (pvals T V γ)) o).run P w)
/-- An operation that makes a new block. -/
def isNew (ops : Array Oper) (i : Nat) : Prop := ∃ o t, ops[i]? = some o ∧ o.op = .alloc t
theorem upon_new {P : Program} {o : Oper} {ρ : Operand → Value} {w : World} {R : Value → World → Prop} (h : UponV P R ((execOp ρ o).run P w)) :
    UponV P (fun v w' => R v w' ∧ ((∃ t, o.op = .alloc t) → v = .pointer (some ⟨w.heap.size, 0, none⟩) ∧ w.heap.size < w'.heap.size)) ((execOp ρ o).run P w) := by
  by_cases hn : ∃ t, o.op = .alloc t
  · obtain ⟨t, ht⟩ := hn
    have key : (∃ c, (execOp ρ o).run P w = .ok (.value (.pointer (some ⟨w.heap.size, 0, none⟩))) (w.alloc c)) ∨ ∀ R, ¬ UponV P R ((execOp ρ o).run P w) := by
      unfold execOp
      simp only [ht]
      unfold Instr.alloc
      go_simp
      cases hz : (zeroValue t).run P w with
      | ok z w' =>
        have hw : w' = w := by
          simp only [zeroValue, typeInfo, Sem.run_bind] at hz
          revert hz
          go_simp
          cases P.info? t with
          | none => intro h; cases h
          | some i =>
            show _ = _ → _
            intro h
            simp only [Option.elim_some, Sem.run_pure, Result.andThen_ok] at h
            split at h <;> cases h
            rfl
        subst hw
        exact .inl ⟨_, rfl⟩
      | _ => exact .inr fun _ h => h
    rcases key with ⟨c, hc⟩ | hc
    · rw [hc] at h ⊢
      exact ⟨h, fun _ => ⟨rfl, by show w.heap.size < (w.alloc c).heap.size; simp⟩⟩
    · exact absurd h (hc _)
  · revert h
    generalize (execOp ρ o).run P w = r
    intro h
    match r, h with
    | .ok (.value v) w', h => exact ⟨h, fun h' => absurd h' hn⟩
    | .ok (.enter f args) w', h =>
      refine Calls.mono (h : Calls P f args w' _) ?_
      rintro e w'' ⟨v, rfl, hr⟩
      exact ⟨v, rfl, hr, fun h' => absurd h' hn⟩
structure PInv (ops : Array Oper) (a0 : Act) (W0 : World) (k : Nat) (D : List Nat) (T : List (List Nat)) (V : (Nat → Value) → Nat → Value) (F : Nat → (Nat → Value) → World → Prop) (γ : Nat → Value) (L : Array Bool) (a : Act) (w : World) : Prop where
  size : L.size = ops.size
  closed : ∀ i o, L.getD i false = true → ops[i]? = some o → ∀ e ∈ o.after, Region.binds .any e = true → L.getD e.on false = true
  low : ∀ i, k ≤ i → L.getD i false = false
  defers : a.defers = a0.defers
  tsize : a.tmps.size = a0.tmps.size
  mine : ∀ i, i < k → L.getD i false = true → a.tmps[D.getD i 0]? = some (pvals T V γ i)
  other : ∀ t, (∀ i, i < k → L.getD i false = true → D.getD i 0 ≠ t) → a.tmps[t]? = a0.tmps[t]?
  ext : Ext W0 w
  facts : ∀ i, i < k → L.getD i false = true → F i (mask (i :: T.getD i []) γ) w
  fresh : ∀ i, i < k → L.getD i false = true → isNew ops i → ∃ g, pvals T V γ i = .pointer (some ⟨g, 0, none⟩) ∧ g < w.heap.size
  apart : ∀ i j, i < k → j < k → i ≠ j → L.getD i false = true → L.getD j false = true → isNew ops i → isNew ops j → pvals T V γ i ≠ pvals T V γ j
structure Cert (ops : Array Oper) (k : Nat) (D : List Nat) (T : List (List Nat)) (EK : List Nat) (ℓ : Nat) : Prop where
  hk : k ≤ ops.size
  hlen : D.length = k
  sel : Region.noSelect ops = true
  dist : ∀ i j, i < k → j < k → i ≠ j → D.getD i 0 ≠ D.getD j 0
  edges : ∀ i o, ops[i]? = some o → ∀ e ∈ o.after, Region.binds .any e = true → e.on < i
  anc : ∀ i o, ops[i]? = some o → ∀ j ∈ T.getD i [], ∃ e ∈ o.after, Region.binds .any e = true ∧ (e.on = j ∨ j ∈ T.getD e.on [])
  dst : ∀ i o, ops[i]? = some o → i < k → o.dst = some (D.getD i 0)
  lks : ∀ i o, ops[i]? = some o → i < k → ∀ t ∈ looks o, ∀ j, D.idxOf? t = some j → j ∈ T.getD i []
  keys : ∀ i o, ops[i]? = some o → i < k → ∀ t ∈ looks o, D.idxOf? t = none → t ∈ EK
  guard : ∀ i o g b, ops[i]? = some o → i < k → o.guard = some (g, b) → g ∈ T.getD i [] ∧ g < k
  tail : ∀ i, k ≤ i → i < ops.size → ∀ j, j < i → j ≠ ℓ → j ∈ T.getD i []
theorem parOk_cert {ops : Array Oper} {k : Nat} {D : List Nat} {T : List (List Nat)} {EK : List Nat} {ℓ : Nat} (h : parOk ops k D T EK ℓ = true) : Cert ops k D T EK ℓ := by
  unfold parOk at h
  simp only [Bool.and_eq_true, List.all_eq_true, List.mem_range, Nat.ble_eq, beq_iff_eq, Bool.or_eq_true, bne_iff_ne, ne_eq] at h
  obtain ⟨⟨⟨⟨h1, h2⟩, h3⟩, h4⟩, h5⟩ := h
  have key : ∀ i o, ops[i]? = some o → _ := fun i o ho => by
    have hi : i < ops.size := (Array.getElem?_eq_some_iff.1 ho).1
    have := h5 i hi
    rw [ho] at this
    simp only [Bool.and_eq_true, List.all_eq_true, Array.all_eq_true_iff_forall_mem, Bool.or_eq_true, Bool.not_eq_true', Array.any_eq_true] at this
    exact this
  refine ⟨h1, h2, h3, fun i j hi hj hne => ?_, fun i o ho e he hb => ?_, fun i o ho j hj => ?_, fun i o ho hi => ?_, fun i o ho hi t ht j hj => ?_, fun i o ho hi t ht hn => ?_, fun i o g b ho hi hg => ?_, fun i hk hi j hj hne => ?_⟩
  · exact (h4 i hi j hj).resolve_left hne
  · rcases (key i o ho).1.1 e he with h | h
    · rw [h] at hb; cases hb
    · simpa [Nat.blt_eq] using h
  · obtain ⟨m, hm, hb⟩ := (key i o ho).1.2 j hj
    refine ⟨_, Array.getElem_mem hm, ?_⟩
    simpa using hb
  · have h := (key i o ho).2
    rw [if_pos (by simpa [Nat.blt_eq] using hi)] at h
    simp only [Bool.and_eq_true, beq_iff_eq] at h
    exact h.1.1
  · have h := (key i o ho).2
    rw [if_pos (by simpa [Nat.blt_eq] using hi)] at h
    simp only [Bool.and_eq_true, beq_iff_eq, List.all_eq_true] at h
    have := h.1.2 t ht
    rw [hj] at this
    simpa using this
  · have h := (key i o ho).2
    rw [if_pos (by simpa [Nat.blt_eq] using hi)] at h
    simp only [Bool.and_eq_true, beq_iff_eq, List.all_eq_true] at h
    have := h.1.2 t ht
    rw [hn] at this
    simpa using this
  · have h := (key i o ho).2
    rw [if_pos (by simpa [Nat.blt_eq] using hi)] at h
    simp only [Bool.and_eq_true] at h
    have := h.2
    rw [hg] at this
    simpa [Nat.blt_eq] using this
  · have ho : ops[i]? = some ops[i] := Array.getElem?_eq_getElem hi
    have h := (key i _ ho).2
    rw [if_neg (by simp [Nat.blt_eq]; omega)] at h
    simp only [List.all_eq_true, List.mem_range, Bool.or_eq_true, beq_iff_eq] at h
    simpa using (h j hj).resolve_left hne
theorem Cert.up {ops : Array Oper} {k : Nat} {D : List Nat} {T : List (List Nat)} {EK : List Nat} {ℓ : Nat} (c : Cert ops k D T EK ℓ) {L : Array Bool}
    (closed : ∀ i o, L.getD i false = true → ops[i]? = some o → ∀ e ∈ o.after, Region.binds .any e = true → L.getD e.on false = true) :
    ∀ i o, ops[i]? = some o → (∀ e ∈ o.after, Region.binds .any e = true → L.getD e.on false = true) → ∀ j ∈ T.getD i [], L.getD j false = true := by
  intro i
  induction i using Nat.strongRecOn with
  | _ i ih =>
    intro o ho hl j hj
    obtain ⟨e, he, hb, h⟩ := c.anc i o ho j hj
    have hon := hl e he hb
    rcases h with rfl | h
    · exact hon
    · have hlt := c.edges i o ho e he hb
      have hi : i < ops.size := (Array.getElem?_eq_some_iff.1 ho).1
      have he' : ops[e.on]? = some (ops[e.on]'(by omega)) := Array.getElem?_eq_getElem (by omega)
      exact ih e.on hlt _ he' (closed _ _ hon he') j h
theorem mem_ready {ops : Array Oper} {L : Array Bool} {i : Nat} : i ∈ Region.ready .any ops L ↔ i < ops.size ∧ L.getD i true = false ∧ ∃ o, ops[i]? = some o ∧ ∀ e ∈ o.after, Region.binds .any e = true → L.getD e.on false = true := by
  unfold Region.ready
  simp only [List.mem_filter, List.mem_range, Bool.and_eq_true, Bool.not_eq_true']
  constructor
  · rintro ⟨h1, h2, h3⟩
    refine ⟨h1, h2, ops[i], Array.getElem?_eq_getElem h1, ?_⟩
    rw [Array.getElem?_eq_getElem h1] at h3
    simp only [Option.map_some, Option.getD_some, Array.all_eq_true_iff_forall_mem, Bool.or_eq_true, Bool.not_eq_true'] at h3
    intro e he hb
    rcases h3 e he with h | h
    · rw [h] at hb; cases hb
    · exact h
  · rintro ⟨h1, h2, o, h3, h4⟩
    refine ⟨h1, h2, ?_⟩
    rw [h3]
    simp only [Option.map_some, Option.getD_some, Array.all_eq_true_iff_forall_mem, Bool.or_eq_true, Bool.not_eq_true']
    intro e he
    by_cases hb : Region.binds .any e = true
    · exact .inr (h4 e he hb)
    · exact .inl (by simpa using hb)
theorem getD_set {L : Array Bool} {i j : Nat} {d : Bool} (hi : i < L.size) : (L.setIfInBounds i true).getD j d = if i = j then true else L.getD j d := by
  simp only [Array.getD_eq_getD_getElem?, Array.getElem?_setIfInBounds]
  split
  · rename_i h; subst h; simp
  · rfl
theorem eval_of_inv (c : Cert ops k D T EK ℓ) (hE : EAll a0 EK EV) {γ : Nat → Value} {L : Array Bool} {a : Act} {w : World} (h : PInv ops a0 W0 k D T V F γ L a w)
    {i : Nat} {o : Oper} (hi : i < k) (ho : ops[i]? = some o) (hT : ∀ j ∈ T.getD i [], L.getD j false = true) :
    execOp a.eval o = execOp (peval EK EV D (pvals T V γ)) o := by
  refine execOp_congr o (fun cs b => Region.noSelect_spec c.sel i o cs b ho) fun x hx => ?_
  cases x with
  | tmp t =>
    have hl : t ∈ looks o := by
      unfold looks
      exact List.mem_filterMap.2 ⟨.tmp t, by simpa using hx, rfl⟩
    show a.tmps.getD t undef = _
    have hpe : peval EK EV D (pvals T V γ) (.tmp t) = match D.idxOf? t with | some j => pvals T V γ j | none => match EK.idxOf? t with | some j => EV.getD j undef | none => undef := peval_eq hE D _ t
    rw [hpe]
    cases hd : D.idxOf? t with
    | none =>
      have hn : t ∉ D := by
        intro hm
        have := List.idxOf?_eq_none_iff.1 hd
        exact this hm
      have hk := c.keys i o ho hi t hl hd
      have ho : a.tmps[t]? = a0.tmps[t]? := by
        apply h.other t
        intro j hj _ e
        apply hn
        rw [← e]
        have hlt : j < D.length := by rw [c.hlen]; exact hj
        rw [List.getD_eq_getElem?_getD, List.getElem?_eq_getElem hlt]
        exact List.getElem_mem hlt
      cases he : EK.idxOf? t with
      | none => exact absurd hk (List.idxOf?_eq_none_iff.1 he)
      | some j =>
        show a.tmps.getD t undef = EV.getD j undef
        rw [Array.getD_eq_getD_getElem?, ho, hE.get t j he]
        rfl
    | some j =>
      have hj := c.lks i o ho hi t hl j hd
      have hjl := hT j hj
      obtain ⟨hlt, he, _⟩ := List.findIdx?_eq_some_iff_getElem.1 (show D.findIdx? (· == t) = some j from hd)
      have he' : D[j] = t := by simpa using he
      have hjk : j < k := by rw [← c.hlen]; exact hlt
      have hm := h.mine j hjk hjl
      have : D.getD j 0 = t := by rw [List.getD_eq_getElem?_getD, List.getElem?_eq_getElem hlt]; exact he'
      rw [this] at hm
      show a.tmps.getD t undef = pvals T V γ j
      rw [Array.getD_eq_getD_getElem?, hm]
      rfl
  | const v => rfl
  | global g => rfl
  | func f => rfl
theorem wanted_of_inv (c : Cert ops k D T EK ℓ) {γ : Nat → Value} {L : Array Bool} {a : Act} {w : World} (h : PInv ops a0 W0 k D T V F γ L a w)
    {i : Nat} {o : Oper} (hi : i < k) (ho : ops[i]? = some o) (hT : ∀ j ∈ T.getD i [], L.getD j false = true)
    (hg : match o.guard with | none => True | some (g, b) => pvals T V γ g = .bool b) : Region.wanted o (yielded ops a.tmps) = true := by
  unfold Region.wanted
  cases hgu : o.guard with
  | none => rfl
  | some p =>
    obtain ⟨g, b⟩ := p
    rw [hgu] at hg
    obtain ⟨hgT, hgk⟩ := c.guard i o g b ho hi hgu
    have hgo : ops[g]? = some (ops[g]'(Nat.lt_of_lt_of_le hgk c.hk)) := Array.getElem?_eq_getElem (Nat.lt_of_lt_of_le hgk c.hk)
    have hd := c.dst g _ hgo hgk
    have hm := h.mine g hgk (hT g hgT)
    show (yielded ops a.tmps g == some b) = true
    unfold yielded
    rw [hgo]
    simp only [Option.bind_some, hd, hm]
    have hg' : pvals T V γ g = .bool b := hg
    rw [hg']
    simp
/-- One step of the first part keeps the invariant. -/
theorem inv_step (c : Cert ops k D T EK ℓ) (hD : ∀ d ∈ D, d < a0.tmps.size) (hmono : ∀ i γ w w', i < k → Ext w w' → F i γ w → F i γ w')
    {γ : Nat → Value} {L : Array Bool} {a : Act} {w : World} (h : PInv ops a0 W0 k D T V F γ L a w)
    {i : Nat} {o : Oper} (hi : i < k) (ho : ops[i]? = some o) (hun : L.getD i false = false) (hed : ∀ e ∈ o.after, Region.binds .any e = true → L.getD e.on false = true)
    {v : Value} {w' : World} (hw : Ext w w') (hv : V (mask (i :: T.getD i []) (upd γ i v)) i = v) (hF : F i (mask (i :: T.getD i []) (upd γ i v)) w')
    (hnew : (∃ t, o.op = .alloc t) → v = .pointer (some ⟨w.heap.size, 0, none⟩) ∧ w.heap.size < w'.heap.size) :
    PInv ops a0 W0 k D T V F (upd γ i v) (L.setIfInBounds i true) (a.put o.dst v) w' := by
  have hiL : i < L.size := by rw [h.size]; exact Nat.lt_of_lt_of_le hi c.hk
  have hdst := c.dst i o ho hi
  have hlt : i < D.length := by rw [c.hlen]; exact hi
  have hDi : D.getD i 0 < a0.tmps.size := hD _ (by rw [List.getD_eq_getElem?_getD, List.getElem?_eq_getElem hlt]; exact List.getElem_mem hlt)
  have same : ∀ j, j < k → j ≠ i → L.getD j false = true → mask (j :: T.getD j []) (upd γ i v) = mask (j :: T.getD j []) γ := by
    intro j hj hne hjl
    funext m
    unfold mask
    split
    · rename_i hm
      unfold upd
      split
      · rename_i hmi
        subst hmi
        exfalso
        have hm' : m = j ∨ m ∈ T.getD j [] := by simpa using hm
        rcases hm' with rfl | hm'
        · exact hne rfl
        · have hjo : ops[j]? = some (ops[j]'(Nat.lt_of_lt_of_le hj c.hk)) := Array.getElem?_eq_getElem (Nat.lt_of_lt_of_le hj c.hk)
          have := c.up h.closed j _ hjo (h.closed j _ hjl hjo) m hm'
          rw [this] at hun
          cases hun
      · rfl
    · rfl
  have pvi : pvals T V (upd γ i v) i = v := hv
  have pvj : ∀ j, j < k → j ≠ i → L.getD j false = true → pvals T V (upd γ i v) j = pvals T V γ j := fun j hj hne hjl => by unfold pvals; rw [same j hj hne hjl]
  have nw : isNew ops i → v = .pointer (some ⟨w.heap.size, 0, none⟩) ∧ w.heap.size < w'.heap.size := fun ⟨o', t, h1, h2⟩ => by
    rw [ho] at h1; cases h1; exact hnew ⟨t, h2⟩
  have lst : ∀ j, j ≠ i → (L.setIfInBounds i true).getD j false = true → L.getD j false = true := fun j hne h => by
    rwa [getD_set hiL, if_neg (fun e => hne e.symm)] at h
  refine ⟨by simpa using h.size, fun j oj hj hoj e he hb => ?_, fun j hj => ?_, ?_, ?_, fun j hj hjl => ?_, fun t ht => ?_, h.ext.trans hw, fun j hj hjl => ?_, fun j hj hjl hn => ?_, fun j m hj hm hne hjl hml hn hn' => ?_⟩
  · rw [getD_set hiL] at hj ⊢
    split
    · rfl
    · split at hj
      · rename_i hij
        subst hij
        rw [ho] at hoj
        cases hoj
        exact hed e he hb
      · exact h.closed j oj hj hoj e he hb
  · rw [getD_set hiL, if_neg (by omega)]
    exact h.low j hj
  · rw [hdst]; exact h.defers
  · rw [hdst]; simpa [Act.put] using h.tsize
  · rw [getD_set hiL] at hjl
    rw [hdst]
    show (a.tmps.setIfInBounds (D.getD i 0) v)[D.getD j 0]? = _
    by_cases e : i = j
    · subst e
      rw [Array.getElem?_setIfInBounds, if_pos rfl, if_pos (by rw [h.tsize]; exact hDi)]
      unfold pvals
      rw [hv]
    · rw [if_neg e] at hjl
      rw [Array.getElem?_setIfInBounds_ne (c.dist i j hi hj e), h.mine j hj hjl]
      unfold pvals
      rw [same j hj (fun e' => e e'.symm) hjl]
  · rw [hdst]
    show (a.tmps.setIfInBounds (D.getD i 0) v)[t]? = _
    have hne : D.getD i 0 ≠ t := ht i hi (by rw [getD_set hiL, if_pos rfl])
    rw [Array.getElem?_setIfInBounds_ne hne]
    exact h.other t fun j hj hjl => ht j hj (by rw [getD_set hiL]; split <;> first | rfl | exact hjl)
  · rw [getD_set hiL] at hjl
    by_cases e : i = j
    · subst e; exact hF
    · rw [if_neg e] at hjl
      rw [same j hj (fun e' => e e'.symm) hjl]
      exact hmono j _ _ _ hj hw (h.facts j hj hjl)
  · by_cases e : j = i
    · subst e
      rw [pvi]
      exact ⟨_, (nw hn).1, (nw hn).2⟩
    · rw [pvj j hj e (lst j e hjl)]
      obtain ⟨g, h1, h2⟩ := h.fresh j hj (lst j e hjl) hn
      exact ⟨g, h1, Nat.lt_of_lt_of_le h2 hw.size⟩
  · by_cases e : j = i
    · subst e
      rw [pvi, pvj m hm (fun e => hne e.symm) (lst m (fun e => hne e.symm) hml), (nw hn).1]
      obtain ⟨g, h1, h2⟩ := h.fresh m hm (lst m (fun e => hne e.symm) hml) hn'
      rw [h1]
      intro e; cases e; omega
    · by_cases e' : m = i
      · subst e'
        rw [pvi, pvj j hj e (lst j e hjl), (nw hn').1]
        obtain ⟨g, h1, h2⟩ := h.fresh j hj (lst j e hjl) hn
        rw [h1]
        intro e; cases e; omega
      · rw [pvj j hj e (lst j e hjl), pvj m hm e' (lst m e' hml)]
        exact h.apart j m hj hm hne (lst j e hjl) (lst m e' hml) hn hn'
/-- The tail: sequential. -/
theorem wpAny_tail (c : Cert ops k D T EK ℓ) (hℓ : ℓ < k ∨ ops.size ≤ ℓ) : ∀ (r m fuel : Nat) (L : Array Bool) (a : Act) (w : World), ops.size = m + r → r ≤ fuel → k ≤ m → L.size = ops.size →
    (∀ j, j < m → L.getD j false = true) → (∀ j, m ≤ j → L.getD j false = false) → wpList P ops Q (ops.toList.drop m) a w → wpAny P .any ops Q fuel L a w := by
  intro r
  induction r with
  | zero =>
    intro m fuel L a w hs _ _ hL hlo hhi h
    have hr : Region.ready .any ops L = [] := by
      rw [List.eq_nil_iff_forall_not_mem]
      intro i hi
      obtain ⟨h1, h2, _⟩ := mem_ready.1 hi
      have h3 := hlo i (by omega)
      rw [Array.getD_eq_getD_getElem?, Array.getElem?_eq_getElem (by omega)] at h2 h3
      simp at h2 h3
      rw [h2] at h3; cases h3
    have hd : ops.toList.drop m = [] := List.drop_eq_nil_of_le (by simp; omega)
    rw [hd] at h
    cases fuel with
    | zero => exact ⟨hr, h⟩
    | succ fuel => exact ⟨fun _ => h, fun i hi => by rw [hr] at hi; cases hi⟩
  | succ r ih =>
    intro m fuel L a w hs hf hk hL hlo hhi h
    obtain ⟨fuel, rfl⟩ : ∃ f, fuel = f + 1 := ⟨fuel - 1, by omega⟩
    have hm : m < ops.size := by omega
    have hmo : ops[m]? = some ops[m] := Array.getElem?_eq_getElem hm
    have hun : ∀ j, j < ops.size → L.getD j true = L.getD j false := fun j hj => by
      rw [Array.getD_eq_getD_getElem?, Array.getD_eq_getD_getElem?, Array.getElem?_eq_getElem (by omega)]; rfl
    have hmr : m ∈ Region.ready .any ops L := mem_ready.2 ⟨hm, by rw [hun m hm]; exact hhi m (Nat.le_refl _), _, hmo, fun e he hb => hlo _ (c.edges m _ hmo e he hb)⟩
    refine ⟨fun h0 => (by rw [h0] at hmr; cases hmr), fun i hi => ?_⟩
    obtain ⟨h1, h2, o, ho, he⟩ := mem_ready.1 hi
    have him : i = m := by
      rcases Nat.lt_trichotomy i m with h | h | h
      · rw [hun i h1, hlo i h] at h2; cases h2
      · exact h
      · have hT := c.tail i (by omega) h1 m h (by omega)
        obtain ⟨e, hem, hb, hh⟩ := c.anc i o ho m hT
        have hon := he e hem hb
        have hlt : e.on < m := by
          rcases Nat.lt_or_ge e.on m with h | h
          · exact h
          · rw [hhi _ h] at hon; cases hon
        rcases hh with hh | hh
        · omega
        · exfalso
          have heo : ops[e.on]? = some (ops[e.on]'(by omega)) := Array.getElem?_eq_getElem (by omega)
          -- m comes before an operation below m: impossible, by the edges
          have key : ∀ x, x < ops.size → ∀ j ∈ T.getD x [], j < x := by
            intro x
            induction x using Nat.strongRecOn with
            | _ x ihx =>
              intro hx j hj
              have hxo : ops[x]? = some ops[x] := Array.getElem?_eq_getElem hx
              obtain ⟨e', he', hb', h'⟩ := c.anc x _ hxo j hj
              have := c.edges x _ hxo e' he' hb'
              rcases h' with rfl | h'
              · exact this
              · exact Nat.lt_trans (ihx e'.on this (by omega) j h') this
          have := key e.on (by omega) m hh
          omega
    subst him
    have hdrop : ops.toList.drop i = ops[i] :: ops.toList.drop (i + 1) := by
      rw [List.drop_eq_getElem_cons (by simpa using hm)]
      simp
    rw [hdrop] at h
    have hop : wpOp P ops Q i (wpList P ops Q (ops.toList.drop (i + 1))) a w := by
      unfold wpOp
      rw [hmo]
      exact h
    refine wpOp_mono (fun a w hw => ?_) hop
    refine ih (i + 1) fuel _ a w (by omega) (by omega) (by omega) (by simpa using hL) (fun j hj => ?_) (fun j hj => ?_) hw
    · rw [getD_set (by omega)]
      split
      · rfl
      · exact hlo j (by omega)
    · rw [getD_set (by omega), if_neg (by omega)]
      exact hhi j (by omega)
/-- An operation e may come up between any two of the others. -/
def lateP (P : Program) (ops : Array Oper) (Q : Exit → Act → World → Prop) (e : Oper) : Nat → List Oper → Act → World → Prop
  | 0, _, _, _ => True
  | _, [], _, _ => True
  | n + 1, o :: rest, a, w => wpList P ops (Exit.then (fun a' w' => wpList P ops Q (e :: rest) a' w' ∧ lateP P ops Q e n rest a' w') Q) [o] a w
theorem upon_then {P : Program} {o : Oper} {a : Act} {K K' : Act → World → Prop} {Q : Exit → Act → World → Prop} (r : Result Next) : o.upon P a K (Exit.then K' Q) r = o.upon P a K Q r := by
  cases r with
  | ok n w => cases n <;> rfl
  | _ => rfl
theorem wpList_then {P : Program} {ops : Array Oper} {Q : Exit → Act → World → Prop} {K : Act → World → Prop} {o : Oper} {a : Act} {w : World} (h : wpList P ops (Exit.then K Q) [o] a w) :
    if Region.wanted o (yielded ops a.tmps) then o.wp P a w K Q ∨ (o.asks P a w ∧ LetsOut Q) else K (a.put o.dst undef) w := by
  have h' : if Region.wanted o (yielded ops a.tmps) then o.wp P a w (wpList P ops (Exit.then K Q) []) (Exit.then K Q) ∨ (o.asks P a w ∧ LetsOut (Exit.then K Q)) else wpList P ops (Exit.then K Q) [] (a.put o.dst undef) w := h
  split at h'
  · rename_i hw
    rw [if_pos hw]
    rcases h' with h' | h'
    · left
      unfold Oper.wp at h' ⊢
      rw [upon_then] at h'
      exact h'
    · exact .inr h'
  · rename_i hw
    rw [if_neg hw]
    exact h'
theorem wpAny_late (c : Cert ops k D T EK ℓ) (hℓ : ℓ < k) (hg : ∀ i o, k ≤ i → ops[i]? = some o → o.guard = none) {e : Oper} (he : ops[ℓ]? = some e) : ∀ (r m fuel n : Nat) (L : Array Bool) (a : Act) (w : World), ops.size = m + r → r + 1 ≤ fuel → k ≤ m → L.size = ops.size →
    (∀ j, j < m → j ≠ ℓ → L.getD j false = true) → L.getD ℓ false = false → (∀ j, m ≤ j → L.getD j false = false) → (∀ i, m + n ≤ i → i < ops.size → ℓ ∈ T.getD i []) → (∀ i o, L.getD i false = true → ops[i]? = some o → ∀ e ∈ o.after, Region.binds .any e = true → L.getD e.on false = true) → wpList P ops Q (e :: ops.toList.drop m) a w ∧ lateP P ops Q e n (ops.toList.drop m) a w → wpAny P .any ops Q fuel L a w := by
  intro r
  induction r with
  | zero =>
    intro m fuel n L a w hs hf hk hL hlo hl hhi hn hcl h
    obtain ⟨fuel, rfl⟩ : ∃ f, fuel = f + 1 := ⟨fuel - 1, by omega⟩
    have hun : ∀ j, j < ops.size → L.getD j true = L.getD j false := fun j hj => by
      rw [Array.getD_eq_getD_getElem?, Array.getD_eq_getD_getElem?, Array.getElem?_eq_getElem (by omega)]; rfl
    have hlr : ℓ ∈ Region.ready .any ops L := mem_ready.2 ⟨by omega, by rw [hun ℓ (by omega)]; exact hl, _, he, fun e' he' hb => hlo _ (by have := c.edges ℓ _ he e' he' hb; omega) (by have := c.edges ℓ _ he e' he' hb; omega)⟩
    refine ⟨fun h0 => (by rw [h0] at hlr; cases hlr), fun i hi => ?_⟩
    obtain ⟨h1, h2, o, ho, hed⟩ := mem_ready.1 hi
    have hil : i = ℓ := by
      by_cases hil : i = ℓ
      · exact hil
      · rw [hun i h1, hlo i (by omega) hil] at h2; cases h2
    subst hil
    have hop : wpOp P ops Q i (wpList P ops Q (ops.toList.drop m)) a w := by unfold wpOp; rw [he]; exact h.1
    refine wpOp_mono (fun a w hw => ?_) hop
    refine wpAny_tail c (.inl hℓ) 0 m fuel _ a w (by omega) (by omega) hk (by simpa using hL) (fun j hj => ?_) (fun j hj => ?_) hw
    · rw [getD_set (by omega)]
      split
      · rfl
      · rename_i hne; exact hlo j hj (fun e => hne e.symm)
    · rw [getD_set (by omega), if_neg (by omega)]
      exact hhi j hj
  | succ r ih =>
    intro m fuel n L a w hs hf hk hL hlo hl hhi hn hcl h
    obtain ⟨fuel, rfl⟩ : ∃ f, fuel = f + 1 := ⟨fuel - 1, by omega⟩
    have hun : ∀ j, j < ops.size → L.getD j true = L.getD j false := fun j hj => by
      rw [Array.getD_eq_getD_getElem?, Array.getD_eq_getD_getElem?, Array.getElem?_eq_getElem (by omega)]; rfl
    have hlr : ℓ ∈ Region.ready .any ops L := mem_ready.2 ⟨by omega, by rw [hun ℓ (by omega)]; exact hl, _, he, fun e' he' hb => hlo _ (by have := c.edges ℓ _ he e' he' hb; omega) (by have := c.edges ℓ _ he e' he' hb; omega)⟩
    refine ⟨fun h0 => (by rw [h0] at hlr; cases hlr), fun i hi => ?_⟩
    obtain ⟨h1, h2, o, ho, hed⟩ := mem_ready.1 hi
    by_cases hil : i = ℓ
    · subst hil
      have hop : wpOp P ops Q i (wpList P ops Q (ops.toList.drop m)) a w := by unfold wpOp; rw [he]; exact h.1
      refine wpOp_mono (fun a w hw => ?_) hop
      refine wpAny_tail c (.inl hℓ) (r + 1) m fuel _ a w (by omega) (by omega) hk (by simpa using hL) (fun j hj => ?_) (fun j hj => ?_) hw
      · rw [getD_set (by omega)]
        split
        · rfl
        · rename_i hne; exact hlo j hj (fun e => hne e.symm)
      · rw [getD_set (by omega), if_neg (by omega)]
        exact hhi j hj
    · have hm : m < ops.size := by omega
      have him : i = m := by
        rcases Nat.lt_trichotomy i m with h' | h' | h'
        · rw [hun i h1, hlo i h' hil] at h2; cases h2
        · exact h'
        · exfalso
          have hT := c.tail i (by omega) h1 m h' (by omega)
          obtain ⟨e', hem, hb, hh⟩ := c.anc i o ho m hT
          have hon := hed e' hem hb
          have hlt : e'.on < m := by
            rcases Nat.lt_or_ge e'.on m with h | h
            · exact h
            · rw [hhi _ h] at hon; cases hon
          rcases hh with hh | hh
          · omega
          · have key : ∀ x, x < ops.size → ∀ j ∈ T.getD x [], j < x := by
              intro x
              induction x using Nat.strongRecOn with
              | _ x ihx =>
                intro hx j hj
                have hxo : ops[x]? = some ops[x] := Array.getElem?_eq_getElem hx
                obtain ⟨e', he', hb', h'⟩ := c.anc x _ hxo j hj
                have := c.edges x _ hxo e' he' hb'
                rcases h' with rfl | h'
                · exact this
                · exact Nat.lt_trans (ihx e'.on this (by omega) j h') this
            have := key e'.on (by omega) m hh
            omega
      subst him
      obtain ⟨n, rfl⟩ : ∃ n', n = n' + 1 := by
        cases n with
        | zero =>
          exfalso
          have := c.up hcl i o ho hed ℓ (hn i (by omega) hm)
          rw [hl] at this; cases this
        | succ n => exact ⟨n, rfl⟩
      have hdrop : ops.toList.drop i = ops[i] :: ops.toList.drop (i + 1) := by
        rw [List.drop_eq_getElem_cons (by simpa using hm)]
        simp
      have hio : ops[i]? = some ops[i] := Array.getElem?_eq_getElem hm
      rw [hdrop] at h
      have hop : wpOp P ops Q i (fun a' w' => wpList P ops Q (e :: ops.toList.drop (i + 1)) a' w' ∧ lateP P ops Q e n (ops.toList.drop (i + 1)) a' w') a w := by
        unfold wpOp
        rw [hio]
        exact wpList_then h.2
      refine wpOp_mono (fun a w hw => ?_) hop
      refine ih (i + 1) fuel n _ a w (by omega) (by omega) (by omega) (by simpa using hL) (fun j hj hne => ?_) ?_ (fun j hj => ?_) (fun j hj hjs => hn j (by omega) hjs) (fun j oj hj hoj e he hb => ?_) hw
      · rw [getD_set (by omega)]
        split
        · rfl
        · exact hlo j (by omega) hne
      · rw [getD_set (by omega), if_neg (by omega)]
        exact hl
      · rw [getD_set (by omega), if_neg (by omega)]
        exact hhi j (by omega)
      · rw [getD_set (by omega)] at hj ⊢
        split
        · rfl
        · split at hj
          · rename_i hij
            subst hij
            rw [ho] at hoj
            cases hoj
            exact hed e he hb
          · exact hcl j oj hj hoj e he hb
theorem range_split (n i : Nat) (h : i ≤ n) : List.range n = List.range i ++ List.range' i (n - i) := by
  have e := List.range'_append_1 (s := 0) (m := i) (n := n - i)
  rw [show i + (n - i) = n from by omega, Nat.zero_add] at e
  rw [List.range_eq_range', List.range_eq_range', e]
theorem fillAll_frame (v : Nat → Value) : ∀ (ds : List Nat) (i : Nat) (a : Act), (fillAll a v i ds).defers = a.defers ∧ (fillAll a v i ds).tmps.size = a.tmps.size ∧
    (∀ t, t ∉ ds → (fillAll a v i ds).tmps[t]? = a.tmps[t]?) ∧
    (∀ j, (hj : j < ds.length) → (∀ m, (hm : m < ds.length) → j < m → ds[m] ≠ ds[j]) → ds[j] < a.tmps.size → (fillAll a v i ds).tmps[ds[j]]? = some (v (i + j))) := by
  intro ds
  induction ds with
  | nil => intro i a; exact ⟨rfl, rfl, fun _ _ => rfl, fun j hj => by simp at hj⟩
  | cons d ds ih =>
    intro i a
    obtain ⟨h1, h2, h3, h4⟩ := ih (i + 1) (a.put (some d) (v i))
    refine ⟨h1, ?_, fun t ht => ?_, fun j hj hd hlt => ?_⟩
    · show (fillAll (a.put (some d) (v i)) v (i + 1) ds).tmps.size = _
      rw [h2]; simp [Act.put]
    · show (fillAll (a.put (some d) (v i)) v (i + 1) ds).tmps[t]? = _
      rw [h3 t (fun h => ht (List.mem_cons_of_mem _ h))]
      have : d ≠ t := fun e => ht (by rw [e]; exact List.mem_cons_self)
      show (a.tmps.setIfInBounds d (v i))[t]? = _
      rw [Array.getElem?_setIfInBounds_ne this]
    · show (fillAll (a.put (some d) (v i)) v (i + 1) ds).tmps[(d :: ds)[j]]? = _
      cases j with
      | zero =>
        show (fillAll (a.put (some d) (v i)) v (i + 1) ds).tmps[d]? = _
        have hn : d ∉ ds := by
          intro hm
          obtain ⟨m, hm, he⟩ := List.getElem_of_mem hm
          exact hd (m + 1) (by simpa using hm) (by omega) (by simpa using he)
        rw [h3 d hn]
        show (a.tmps.setIfInBounds d (v i))[d]? = _
        rw [Array.getElem?_setIfInBounds, if_pos rfl, if_pos (show d < a.tmps.size from hlt)]
        rfl
      | succ j =>
        have := h4 j (by simpa using hj) (fun m hm hjm => hd (m + 1) (Nat.succ_lt_succ hm) (by omega)) (by simpa [Act.put] using hlt)
        rw [show i + (j + 1) = i + 1 + j from by omega]
        simpa using this
theorem frame_eq (c : Cert ops k D T EK ℓ) (hD : ∀ d ∈ D, d < a0.tmps.size) {γ : Nat → Value} {L : Array Bool} {a : Act} {w : World} (h : PInv ops a0 W0 k D T V F γ L a w)
    (hall : ∀ i, i < k → L.getD i false = true) : a = fillAll a0 (pvals T V γ) 0 D := by
  obtain ⟨f1, f2, f3, f4⟩ := fillAll_frame (pvals T V γ) D 0 a0
  have ht : a.tmps = (fillAll a0 (pvals T V γ) 0 D).tmps := by
    apply Array.ext_getElem?
    intro t
    by_cases hm : t ∈ D
    · obtain ⟨j, hj, e⟩ := List.getElem_of_mem hm
      have hjk : j < k := by rw [← c.hlen]; exact hj
      have hg : ∀ m, (hm : m < D.length) → D.getD m 0 = D[m] := fun m hm => by rw [List.getD_eq_getElem?_getD, List.getElem?_eq_getElem hm]; rfl
      have h1 := h.mine j hjk (hall j hjk)
      rw [hg j hj] at h1
      have h2 := f4 j hj (fun m hm hjm => by
        have := c.dist m j (by rw [← c.hlen]; exact hm) hjk (by omega)
        rwa [hg m hm, hg j hj] at this) (hD _ (List.getElem_mem hj))
      rw [← e, h1, h2, Nat.zero_add]
    · rw [f3 t hm]
      refine h.other t fun i hi _ e => hm ?_
      have hlt : i < D.length := by rw [c.hlen]; exact hi
      rw [← e, List.getD_eq_getElem?_getD, List.getElem?_eq_getElem hlt]
      exact List.getElem_mem hlt
  have hd : a.defers = (fillAll a0 (pvals T V γ) 0 D).defers := h.defers.trans f1.symm
  cases a
  generalize fillAll a0 (pvals T V γ) 0 D = b at *
  cases b
  simp only at ht hd
  rw [ht, hd]
/-- The frame when all of the first part but one operation has come up. -/
theorem frame_late (c : Cert ops k D T EK ℓ) (hD : ∀ d ∈ D, d < a0.tmps.size) (hk : ℓ < k) {γ : Nat → Value} {L : Array Bool} {a : Act} {w : World} (h : PInv ops a0 W0 k D T V F γ L a w)
    (hall : ∀ i, i < k → i ≠ ℓ → L.getD i false = true) (hl : L.getD ℓ false = false) : a = (fillAll a0 (pvals T V γ) 0 D).put (some (D.getD ℓ 0)) (a0.tmps.getD (D.getD ℓ 0) undef) := by
  obtain ⟨f1, f2, f3, f4⟩ := fillAll_frame (pvals T V γ) D 0 a0
  have hg : ∀ m, (hm : m < D.length) → D.getD m 0 = D[m] := fun m hm => by rw [List.getD_eq_getElem?_getD, List.getElem?_eq_getElem hm]; rfl
  have hℓD : ℓ < D.length := by rw [c.hlen]; exact hk
  have hdl : D.getD ℓ 0 < a0.tmps.size := hD _ (by rw [hg ℓ hℓD]; exact List.getElem_mem hℓD)
  have ht : a.tmps = ((fillAll a0 (pvals T V γ) 0 D).put (some (D.getD ℓ 0)) (a0.tmps.getD (D.getD ℓ 0) undef)).tmps := by
    apply Array.ext_getElem?
    intro t
    show _ = ((fillAll a0 (pvals T V γ) 0 D).tmps.setIfInBounds (D.getD ℓ 0) (a0.tmps.getD (D.getD ℓ 0) undef))[t]?
    by_cases hm : t ∈ D
    · obtain ⟨j, hj, e⟩ := List.getElem_of_mem hm
      have hjk : j < k := by rw [← c.hlen]; exact hj
      by_cases hjl : j = ℓ
      · subst hjl
        have e' : D.getD j 0 = t := by rw [hg j hj]; exact e
        rw [e', Array.getElem?_setIfInBounds, if_pos rfl, if_pos (by rw [f2, ← e']; exact hdl)]
        rw [h.other t fun i hi hil e2 => by
          by_cases hij : i = j
          · rw [hij, hl] at hil; cases hil
          · exact c.dist i j hi hjk hij (by rw [e2, e'])]
        rw [Array.getD_eq_getD_getElem?, Array.getElem?_eq_getElem (by rw [← e']; exact hdl)]
        rfl
      · have h1 := h.mine j hjk (hall j hjk hjl)
        rw [hg j hj] at h1
        have h2 := f4 j hj (fun m hm hjm => by
          have := c.dist m j (by rw [← c.hlen]; exact hm) hjk (by omega)
          rwa [hg m hm, hg j hj] at this) (hD _ (List.getElem_mem hj))
        have hne : D.getD ℓ 0 ≠ t := fun e2 => c.dist ℓ j hk hjk (fun e3 => hjl e3.symm) (by rw [e2, hg j hj, e])
        rw [Array.getElem?_setIfInBounds_ne hne, ← e, h1, h2, Nat.zero_add]
    · have hne : D.getD ℓ 0 ≠ t := fun e2 => hm (by rw [← e2, hg ℓ hℓD]; exact List.getElem_mem hℓD)
      rw [Array.getElem?_setIfInBounds_ne hne, f3 t hm]
      refine h.other t fun i hi _ e => hm ?_
      have hlt : i < D.length := by rw [c.hlen]; exact hi
      rw [← e, hg i hlt]
      exact List.getElem_mem hlt
  have hd : a.defers = ((fillAll a0 (pvals T V γ) 0 D).put (some (D.getD ℓ 0)) (a0.tmps.getD (D.getD ℓ 0) undef)).defers := h.defers.trans f1.symm
  cases a
  generalize (fillAll a0 (pvals T V γ) 0 D).put (some (D.getD ℓ 0)) (a0.tmps.getD (D.getD ℓ 0) undef) = b at *
  cases b
  simp only at ht hd
  rw [ht, hd]
/-- THE RULE. -/
theorem wpAny_par (nl : Nat) (c : Cert ops k D T EK ℓ) (hℓ : ℓ < k ∨ ops.size ≤ ℓ) (hgt : ∀ i o, k ≤ i → ops[i]? = some o → ℓ < k → o.guard = none) (hnl : ℓ < k → ∀ i, k + nl ≤ i → i < ops.size → ℓ ∈ T.getD i []) (hE : EAll a0 EK EV) (hD : ∀ d ∈ D, d < a0.tmps.size) (hmono : ∀ i γ w w', i < k → Ext w w' → F i γ w → F i γ w')
    (hstep : ∀ i, i < k → StepOk P ops EK EV W0 D T V F i)
    (htail : ∀ γ w, Ext W0 w → (∀ i, i < k → F i (mask (i :: T.getD i []) γ) w) → (∀ i j, i < k → j < k → i ≠ j → isNew ops i → isNew ops j → pvals T V γ i ≠ pvals T V γ j) → wpList P ops Q (ops.toList.drop k) (fillAll a0 (pvals T V γ) 0 D) w)
    (hlate : ∀ e, ops[ℓ]? = some e → ∀ γ w, Ext W0 w → (∀ i, i < k → i ≠ ℓ → F i (mask (i :: T.getD i []) γ) w) → lateP P ops Q e nl (ops.toList.drop k) ((fillAll a0 (pvals T V γ) 0 D).put (some (D.getD ℓ 0)) (a0.tmps.getD (D.getD ℓ 0) undef)) w) :
    ∀ (fuel : Nat) (γ : Nat → Value) (L : Array Bool) (a : Act) (w : World), (List.range ops.size).countP (fun i => !L.getD i false) ≤ fuel → PInv ops a0 W0 k D T V F γ L a w → wpAny P .any ops Q fuel L a w := by
  intro fuel
  induction fuel with
  | zero =>
    intro γ L a w hf h
    have hall : ∀ i, i < ops.size → L.getD i false = true := by
      intro i hi
      have := List.countP_eq_zero.1 (Nat.le_zero.1 hf) i (List.mem_range.2 hi)
      simpa using this
    have hks : k = ops.size := by
      rcases Nat.lt_or_ge k ops.size with hlt | hge
      · have h1 := hall k hlt
        rw [h.low k (Nat.le_refl _)] at h1; cases h1
      · exact Nat.le_antisymm c.hk hge
    have ha : a = fillAll a0 (pvals T V γ) 0 D := frame_eq c hD h (fun i hi => hall i (Nat.lt_of_lt_of_le hi c.hk))
    rw [ha]
    exact wpAny_tail c (by omega) 0 k 0 L _ w (by omega) (Nat.le_refl _) (Nat.le_refl _) h.size (fun j hj => hall j (by omega)) (fun j hj => h.low j hj) (htail γ w h.ext (fun i hi => h.facts i hi (hall i (by omega))) fun i j hi hj hne => h.apart i j hi hj hne (hall i (by omega)) (hall j (by omega)))
  | succ fuel ih =>
    intro γ L a w hf h
    by_cases hall : ∀ i, i < k → L.getD i false = true
    · have ha : a = fillAll a0 (pvals T V γ) 0 D := frame_eq c hD h hall
      have hcount : ops.size - k ≤ fuel + 1 := by
        refine Nat.le_trans ?_ hf
        have : (List.range' k (ops.size - k)).countP (fun i => !L.getD i false) = ops.size - k := by
          have h1 : (List.range' k (ops.size - k)).countP (fun i => !L.getD i false) = (List.range' k (ops.size - k)).length := by
            rw [List.countP_eq_length]
            intro i hi
            rw [List.mem_range'_1] at hi
            simp [h.low i hi.1]
          rw [h1, List.length_range']
        rw [← this]
        have hsub : (List.range' k (ops.size - k)).Sublist (List.range ops.size) := by
          rw [range_split ops.size k c.hk]
          exact List.sublist_append_right _ _
        exact hsub.countP_le
      rw [ha]
      exact wpAny_tail c (by have := c.hk; omega) (ops.size - k) k (fuel + 1) L _ w (by have := c.hk; omega) hcount (Nat.le_refl _) h.size hall (fun j hj => h.low j hj) (htail γ w h.ext (fun i hi => h.facts i hi (hall i hi)) fun i j hi hj hne => h.apart i j hi hj hne (hall i hi) (hall j hj))
    · have hun : ∀ j, j < ops.size → L.getD j true = L.getD j false := fun j hj => by
        rw [Array.getD_eq_getD_getElem?, Array.getD_eq_getD_getElem?, Array.getElem?_eq_getElem (by rw [h.size]; exact hj)]; rfl
      by_cases hlc : ℓ < k ∧ ∀ i, i < k → i ≠ ℓ → L.getD i false = true
      · obtain ⟨hlk, hll⟩ := hlc
        have hll0 : L.getD ℓ false = false := by
          cases hx : L.getD ℓ false with
          | false => rfl
          | true => exact absurd (fun i hi => by
              by_cases e : i = ℓ
              · rw [e]; exact hx
              · exact hll i hi e) hall
        have ha := frame_late c hD hlk h hll hll0
        have hls : ℓ < ops.size := by have := c.hk; omega
        have hlo : ops[ℓ]? = some ops[ℓ] := Array.getElem?_eq_getElem hls
        have hcount : ops.size - k + 1 ≤ fuel + 1 := by
          refine Nat.le_trans ?_ hf
          have h1 : (List.range' k (ops.size - k)).countP (fun i => !L.getD i false) = ops.size - k := by
            have h1 : (List.range' k (ops.size - k)).countP (fun i => !L.getD i false) = (List.range' k (ops.size - k)).length := by
              rw [List.countP_eq_length]
              intro i hi
              rw [List.mem_range'_1] at hi
              simp [h.low i hi.1]
            rw [h1, List.length_range']
          have h2 : 0 < (List.range k).countP (fun i => !L.getD i false) := List.countP_pos_iff.2 ⟨ℓ, List.mem_range.2 hlk, by rw [hll0]; rfl⟩
          rw [range_split ops.size k c.hk, List.countP_append, h1]
          omega
        have hed : ∀ e ∈ (ops[ℓ]).after, Region.binds .any e = true → L.getD e.on false = true := fun e he hb => hll _ (by have := c.edges ℓ _ hlo e he hb; omega) (by have := c.edges ℓ _ hlo e he hb; omega)
        have hT := c.up h.closed ℓ _ hlo hed
        have hs := hstep ℓ hlk γ w h.ext (fun j hj => h.facts j (by
          have hjl := hT j hj
          rcases Nat.lt_or_ge j k with hlt | hge
          · exact hlt
          · rw [h.low j hge] at hjl; cases hjl) (hT j hj))
        rw [hlo] at hs
        obtain ⟨hg, hu⟩ := hs
        have hfirst : wpList P ops Q (ops[ℓ] :: ops.toList.drop k) a w := by
          show if _ then _ else _
          rw [if_pos (wanted_of_inv c h hlk hlo hT hg)]
          refine .inl (UponV.wp (upon_new hu) (eval_of_inv c hE h hlk hlo hT) fun v w' hvw => ?_)
          obtain ⟨⟨q1, q2, q3⟩, q4⟩ := hvw
          have h' := inv_step c hD hmono h hlk hlo hll0 hed q1 q2 q3 q4
          have hsz : ℓ < L.size := by rw [h.size]; exact hls
          have hall' : ∀ i, i < k → (L.setIfInBounds ℓ true).getD i false = true := fun i hi => by
            rw [getD_set hsz]
            split
            · rfl
            · rename_i e; exact hll i hi (fun e' => e e'.symm)
          rw [frame_eq c hD h' hall']
          exact htail _ _ h'.ext (fun i hi => h'.facts i hi (hall' i hi)) fun i j hi hj hne => h'.apart i j hi hj hne (hall' i hi) (hall' j hj)
        refine wpAny_late c hlk (fun i o hki hio => hgt i o hki hio hlk) hlo (ops.size - k) k (fuel + 1) nl L a w (by have := c.hk; omega) hcount (Nat.le_refl _) h.size (fun j hj hne => hll j hj hne) hll0 (fun j hj => h.low j hj) (hnl hlk) h.closed ⟨hfirst, ?_⟩
        rw [ha]
        exact hlate _ hlo γ w h.ext fun i hi hne => h.facts i hi (hll i hi hne)
      -- the least that is not listed may come up
      have hex : ∃ i, i < k ∧ L.getD i false = false ∧ ∀ j, j < i → L.getD j false = true := by
        have : ∃ i, i < k ∧ L.getD i false = false := by
          obtain ⟨i, hi⟩ := Classical.not_forall.1 hall
          obtain ⟨hi, hl⟩ := Classical.not_imp.1 hi
          exact ⟨i, hi, by simpa using hl⟩
        obtain ⟨i, hi, hl⟩ := this
        induction i using Nat.strongRecOn with
        | _ i ihi =>
          by_cases hj : ∃ j, j < i ∧ L.getD j false = false
          · obtain ⟨j, hji, hjl⟩ := hj
            exact ihi j hji (by omega) hjl
          · refine ⟨i, hi, hl, fun j hji => ?_⟩
            cases hjl : L.getD j false with
            | true => rfl
            | false => exact absurd ⟨j, hji, hjl⟩ hj
      obtain ⟨i0, hi0, hl0, hlow0⟩ := hex
      have hi0s : i0 < ops.size := Nat.lt_of_lt_of_le hi0 c.hk
      have hi0o : ops[i0]? = some ops[i0] := Array.getElem?_eq_getElem hi0s
      have hr0 : i0 ∈ Region.ready .any ops L := mem_ready.2 ⟨hi0s, by rw [hun i0 hi0s]; exact hl0, _, hi0o, fun e he hb => hlow0 _ (c.edges i0 _ hi0o e he hb)⟩
      refine ⟨fun h0 => (by rw [h0] at hr0; cases hr0), fun i hi => ?_⟩
      obtain ⟨h1, h2, o, ho, he⟩ := mem_ready.1 hi
      rw [hun i h1] at h2
      have hT := c.up h.closed i o ho he
      have hik : i < k := by
        rcases Nat.lt_or_ge i k with hlt | hge
        · exact hlt
        · have := hT i0 (c.tail i hge h1 i0 (by omega) (by
            rintro rfl
            refine hlc ⟨hi0, fun j hj hne => ?_⟩
            have hjT := c.tail i hge h1 j (by omega) hne
            exact hT j hjT))
          rw [hl0] at this; cases this
      have hs := hstep i hik γ w h.ext (fun j hj => h.facts j (by
        have hjl := hT j hj
        rcases Nat.lt_or_ge j k with hlt | hge
        · exact hlt
        · rw [h.low j hge] at hjl; cases hjl) (hT j hj))
      rw [ho] at hs
      obtain ⟨hg, hu⟩ := hs
      unfold wpOp
      rw [ho]
      show if _ then _ else _
      rw [if_pos (wanted_of_inv c h hik ho hT hg)]
      refine .inl (UponV.wp (upon_new hu) (eval_of_inv c hE h hik ho hT) fun v w' hvw => ?_)
      obtain ⟨⟨q1, q2, q3⟩, q4⟩ := hvw
      refine ih (upd γ i v) _ _ w' ?_ (inv_step c hD hmono h hik ho h2 he q1 q2 q3 q4)
      have hiL : i < L.size := by rw [h.size]; exact h1
      have hlt : (List.range ops.size).countP (fun j => !(L.setIfInBounds i true).getD j false) < (List.range ops.size).countP (fun j => !L.getD j false) := by
        have hle : ∀ (l : List Nat), l.countP (fun j => !(L.setIfInBounds i true).getD j false) ≤ l.countP (fun j => !L.getD j false) := fun l =>
          List.countP_mono_left fun j _ hj => by
            rw [getD_set hiL] at hj
            split at hj
            · simp at hj
            · exact hj
        have hspl : List.range ops.size = List.range i ++ i :: List.range' (i + 1) (ops.size - i - 1) := by
          rw [range_split ops.size i (by omega), show ops.size - i = (ops.size - i - 1) + 1 from by omega, List.range'_succ]
          simp
        rw [hspl, List.countP_append, List.countP_append, List.countP_cons, List.countP_cons]
        have a1 := hle (List.range i)
        have a2 := hle (List.range' (i + 1) (ops.size - i - 1))
        rw [getD_set hiL, if_pos rfl, h2]
        simp only [Bool.not_true, Bool.not_false, if_true, Bool.false_eq_true, if_false]
        omega
      omega
def kv (v : Value) (_ : Nat → Value) : Value := v
@[go_sem] theorem kv_eq (v : Value) (γ : Nat → Value) : kv v γ = v := rfl
def gV (VL : List ((Nat → Value) → Value)) (γ : Nat → Value) (i : Nat) : Value := VL.getD i (fun _ => undef) γ
def gF (FL : (Nat → Value) → World → List Prop) (γ : Nat → Value) (w : World) (i : Nat) : Prop := (FL γ w).getD i True
/-- A hypothesis that the walk does not look into. -/
def Back (p : Prop) : Prop := p
@[go_sem] theorem gV_eq (VL : List ((Nat → Value) → Value)) (γ : Nat → Value) (i : Nat) : gV VL γ i = VL.getD i (fun _ => undef) γ := rfl
/-- What is to be shown of the operation i. -/
def StepTo (P : Program) (ops : Array Oper) (EK : List Nat) (EV : List Value) (W0 : World) (D : List Nat) (T : List (List Nat)) (VL : List ((Nat → Value) → Value)) (FL : (Nat → Value) → World → List Prop) (i : Nat) : Prop :=
  ∀ γ w, Ext W0 w → (∀ j, j ∈ T.getD i [] → gF FL γ w j) →
    match ops[i]? with
    | none => False
    | some o => (match o.guard with | none => True | some (g, b) => gV VL γ g = .bool b) ∧
      ∀ R : Value → World → Prop, Back (∀ v w', Ext w w' → gV VL (upd γ i v) i = v → gF FL (upd γ i v) w' i → R v w') → UponV P R ((execOp (peval EK EV D (gV VL γ)) o).run P w)
/-- Values and facts of an operation hang on nothing but itself and what comes before it. -/
def Local (T : List (List Nat)) (VL : List ((Nat → Value) → Value)) (FL : (Nat → Value) → World → List Prop) (i : Nat) : Prop :=
  ∀ γ γ', (∀ j, (i :: T.getD i []).contains j = true → γ j = γ' j) → gV VL γ i = gV VL γ' i ∧ ∀ w, gF FL γ w i = gF FL γ' w i
theorem wp_region_gen {id : Nat} (k ℓ nl : Nat) (D : List Nat) (T : List (List Nat)) (EK : List Nat) (EV : List Value) (VL : List ((Nat → Value) → Value)) (FL : (Nat → Value) → World → List Prop)
    (hE : EAll a0 EK EV) (hm : P.follows .mixedOrders = true) (hc : parOk ops k D T EK ℓ = true) (hℓ : ℓ < k ∨ ops.size ≤ ℓ) (hgt : ℓ < k → (ops.toList.drop k).all (fun o => o.guard.isNone) = true) (hnl : ℓ < k → ∀ i, k + nl ≤ i → i < ops.size → ℓ ∈ T.getD i []) (hD : D.all (fun d => Nat.blt d a0.tmps.size) = true)
    (hT : (List.range k).all (fun i => (T.getD i []).all fun j => Nat.blt j i && (T.getD j []).all fun m => (T.getD i []).contains m) = true)
    (hloc : Each k (Local T VL FL))
    (hmono : Each k fun i => ∀ γ w w', Ext w w' → gF FL γ w i → gF FL γ w' i)
    (hstep : Each k (StepTo P ops EK EV W0 D T VL FL))
    (htail : ∀ γ w, Ext W0 w → Each k (fun i => gF FL γ w i) → (∀ i j, i < k → j < k → i ≠ j → isNew ops i → isNew ops j → gV VL γ i ≠ gV VL γ j) → wpList P ops Q (ops.toList.drop k) (fillAll a0 (gV VL γ) 0 D) w)
    (hlate : ∀ e, ops[ℓ]? = some e → ∀ γ w, Ext W0 w → Each k (fun i => i = ℓ ∨ gF FL γ w i) → lateP P ops Q e nl (ops.toList.drop k) ((fillAll a0 (gV VL γ) 0 D).put (some (D.getD ℓ 0)) (a0.tmps.getD (D.getD ℓ 0) undef)) w) :
    (Code.region id ops true).wp P Q a0 W0 := by
  have c := parOk_cert hc
  have hT' : ∀ i, i < k → ∀ j ∈ T.getD i [], j < i ∧ ∀ m ∈ T.getD j [], m ∈ T.getD i [] := fun i hi j hj => by
    have := List.all_eq_true.1 (List.all_eq_true.1 hT i (List.mem_range.2 hi)) j hj
    simp only [Bool.and_eq_true, Nat.blt_eq, List.all_eq_true] at this
    exact ⟨this.1, fun m hm => by simpa using this.2 m hm⟩
  have hF : ∀ i, (Array.replicate ops.size false).getD i false = false := fun i => by
    rw [Array.getD_eq_getD_getElem?, Array.getElem?_replicate]; split <;> rfl
  have msk : ∀ (l : List Nat) (γ : Nat → Value) j, l.contains j = true → mask l γ j = γ j := fun l γ j h => by unfold mask; rw [if_pos h]
  have lV : ∀ i, i < k → ∀ γ, gV VL (mask (i :: T.getD i []) γ) i = gV VL γ i := fun i hi γ => (hloc.get i hi _ _ fun j hj => msk _ γ j hj).1
  have lF : ∀ i, i < k → ∀ γ w, gF FL (mask (i :: T.getD i []) γ) w i = gF FL γ w i := fun i hi γ w => (hloc.get i hi _ _ fun j hj => msk _ γ j hj).2 w
  have pv : ∀ γ i, i < k → pvals T (fun γ i => gV VL γ i) γ i = gV VL γ i := fun γ i hi => lV i hi γ
  have pe : ∀ γ, peval EK EV D (pvals T (fun γ i => gV VL γ i) γ) = peval EK EV D (gV VL γ) := fun γ => by
    funext x
    cases x with
    | tmp t =>
      rw [peval_eq hE, peval_eq hE]
      cases hd : D.idxOf? t with
      | none => rfl
      | some j =>
        obtain ⟨hlt, _⟩ := List.findIdx?_eq_some_iff_getElem.1 (show D.findIdx? (· == t) = some j from hd)
        exact pv γ j (by rw [← c.hlen]; exact hlt)
    | const v => rfl
    | global g => rfl
    | func f => rfl
  refine wp_region_any hm ?_
  refine wpAny_par nl (W0 := W0) (V := fun γ i => gV VL γ i) (F := fun i γ w => gF FL γ w i) c hℓ (fun i o hki hio hlk => ?_) hnl hE (fun d hd => by simpa [Nat.blt_eq] using List.all_eq_true.1 hD d hd) (fun i γ w w' hi => hmono.get i hi γ w w') (fun i hi γ w he hf => ?_)
    (fun γ w he hf hap => ?_) (fun e heo γ w he hf => ?_) ops.size (fun _ => undef) _ _ _ ?_ ?_
  · have hmem : o ∈ ops.toList.drop k := by
      refine List.mem_of_getElem? (i := i - k) ?_
      rw [List.getElem?_drop, show k + (i - k) = i from by omega]
      simpa using hio
    have := List.all_eq_true.1 (hgt hlk) o hmem
    simpa using this
  · have hs := hstep.get i hi γ w he (fun j hj => by
      have h1 := hT' i hi j hj
      rw [← lF j (by omega) γ w]; exact hf j hj)
    cases ho : ops[i]? with
    | none => rw [ho] at hs; exact hs
    | some o =>
      rw [ho] at hs
      obtain ⟨h1, h2⟩ := hs
      refine ⟨?_, ?_⟩
      · cases hg : o.guard with
        | none => trivial
        | some p =>
          obtain ⟨g, b⟩ := p
          rw [hg] at h1
          have := c.guard i o g b ho hi hg
          exact (pv γ g this.2).trans h1
      · rw [pe]
        have e : (fun v w' => Ext w w' ∧ gV VL (mask (i :: T.getD i []) (upd γ i v)) i = v ∧ gF FL (mask (i :: T.getD i []) (upd γ i v)) w' i) = (fun v w' => Ext w w' ∧ gV VL (upd γ i v) i = v ∧ gF FL (upd γ i v) w' i) := by
          funext v w'
          rw [lV i hi, lF i hi]
        rw [e]
        exact h2 _ (fun v w' a b c => ⟨a, b, c⟩)
  · have h1 := htail γ w he (each_of fun i hi => by rw [← lF i hi γ w]; exact hf i hi) fun i j hi hj hne a b => by
      have := hap i j hi hj hne a b
      rwa [pv γ i hi, pv γ j hj] at this
    have e : fillAll a0 (pvals T (fun γ i => gV VL γ i) γ) 0 D = fillAll a0 (gV VL γ) 0 D := by
      have key : ∀ (ds : List Nat) (i : Nat) (a : Act), i + ds.length ≤ k → fillAll a (pvals T (fun γ i => gV VL γ i) γ) i ds = fillAll a (gV VL γ) i ds := by
        intro ds
        induction ds with
        | nil => intro i a _; rfl
        | cons d ds ih =>
          intro i a hk
          simp only [List.length_cons] at hk
          show fillAll (a.put (some d) (pvals T (fun γ i => gV VL γ i) γ i)) _ (i + 1) ds = fillAll (a.put (some d) (gV VL γ i)) _ (i + 1) ds
          rw [pv γ i (by omega)]
          exact ih _ _ (by omega)
      exact key D 0 a0 (by rw [c.hlen]; omega)
    rw [e]
    exact h1
  · have hℓs : ℓ < ops.size := (Array.getElem?_eq_some_iff.1 heo).1
    have hlk : ℓ < k := by omega
    have h1 := hlate e heo γ w he (each_of fun i hi => by
      by_cases e : i = ℓ
      · exact .inl e
      · right; rw [← lF i hi γ w]; exact hf i hi e)
    have e : fillAll a0 (pvals T (fun γ i => gV VL γ i) γ) 0 D = fillAll a0 (gV VL γ) 0 D := by
      have key : ∀ (ds : List Nat) (i : Nat) (a : Act), i + ds.length ≤ k → fillAll a (pvals T (fun γ i => gV VL γ i) γ) i ds = fillAll a (gV VL γ) i ds := by
        intro ds
        induction ds with
        | nil => intro i a _; rfl
        | cons d ds ih =>
          intro i a hk
          simp only [List.length_cons] at hk
          show fillAll (a.put (some d) (pvals T (fun γ i => gV VL γ i) γ i)) _ (i + 1) ds = fillAll (a.put (some d) (gV VL γ i)) _ (i + 1) ds
          rw [pv γ i (by omega)]
          exact ih _ _ (by omega)
      exact key _ 0 a0 (by rw [c.hlen]; omega)
    rw [e]
    exact h1
  · exact Nat.le_trans List.countP_le_length (by simp)
  · have hN : ∀ {p : Prop} i, (Array.replicate ops.size false).getD i false = true → p := fun i h => absurd ((hF i).symm.trans h) (by decide)
    exact ⟨by simp, fun i o h => hN i h, fun i _ => hF i, rfl, rfl, fun i _ h => hN i h, fun t _ => rfl, (Ext.refl W0).drew, fun i _ h => hN i h, fun i _ h => hN i h, fun i _ _ _ _ h => hN i h⟩
theorem wp_region_par {id : Nat} (k : Nat) (D : List Nat) (T : List (List Nat)) (EK : List Nat) (EV : List Value) (VL : List ((Nat → Value) → Value)) (FL : (Nat → Value) → World → List Prop)
    (hE : EAll a0 EK EV) (hm : P.follows .mixedOrders = true) (hc : parOk ops k D T EK ops.size = true) (hD : D.all (fun d => Nat.blt d a0.tmps.size) = true)
    (hT : (List.range k).all (fun i => (T.getD i []).all fun j => Nat.blt j i && (T.getD j []).all fun m => (T.getD i []).contains m) = true)
    (hloc : Each k (Local T VL FL))
    (hmono : Each k fun i => ∀ γ w w', Ext w w' → gF FL γ w i → gF FL γ w' i)
    (hstep : Each k (StepTo P ops EK EV W0 D T VL FL))
    (htail : ∀ γ w, Ext W0 w → Each k (fun i => gF FL γ w i) → wpList P ops Q (ops.toList.drop k) (fillAll a0 (gV VL γ) 0 D) w) :
    (Code.region id ops true).wp P Q a0 W0 :=
  wp_region_gen k ops.size 0 D T EK EV VL FL hE hm hc (.inr (Nat.le_refl _)) (fun h => by have := (parOk_cert hc).hk; omega) (fun h => by have := (parOk_cert hc).hk; omega) hD hT hloc hmono hstep (fun γ w h hF _ => htail γ w h hF) fun e he => by simp at he
/-- The new blocks of the first part are told apart. -/
theorem wp_region_apart {id : Nat} (k : Nat) (D : List Nat) (T : List (List Nat)) (EK : List Nat) (EV : List Value) (VL : List ((Nat → Value) → Value)) (FL : (Nat → Value) → World → List Prop)
    (hE : EAll a0 EK EV) (hm : P.follows .mixedOrders = true) (hc : parOk ops k D T EK ops.size = true) (hD : D.all (fun d => Nat.blt d a0.tmps.size) = true)
    (hT : (List.range k).all (fun i => (T.getD i []).all fun j => Nat.blt j i && (T.getD j []).all fun m => (T.getD i []).contains m) = true)
    (hloc : Each k (Local T VL FL))
    (hmono : Each k fun i => ∀ γ w w', Ext w w' → gF FL γ w i → gF FL γ w' i)
    (hstep : Each k (StepTo P ops EK EV W0 D T VL FL))
    (htail : ∀ γ w, Ext W0 w → Each k (fun i => gF FL γ w i) → (∀ i j, i < k → j < k → i ≠ j → isNew ops i → isNew ops j → gV VL γ i ≠ gV VL γ j) → wpList P ops Q (ops.toList.drop k) (fillAll a0 (gV VL γ) 0 D) w) :
    (Code.region id ops true).wp P Q a0 W0 :=
  wp_region_gen k ops.size 0 D T EK EV VL FL hE hm hc (.inr (Nat.le_refl _)) (fun h => by have := (parOk_cert hc).hk; omega) (fun h => by have := (parOk_cert hc).hk; omega) hD hT hloc hmono hstep htail fun e he => by simp at he
/-- One operation of the first part may come up between those of the tail. -/
theorem wp_region_late {id : Nat} (k ℓ nl : Nat) (D : List Nat) (T : List (List Nat)) (EK : List Nat) (EV : List Value) (VL : List ((Nat → Value) → Value)) (FL : (Nat → Value) → World → List Prop) (e : Oper) (heo : ops[ℓ]? = some e)
    (hE : EAll a0 EK EV) (hm : P.follows .mixedOrders = true) (hc : parOk ops k D T EK ℓ = true) (hlk : Nat.blt ℓ k = true) (hg : (ops.toList.drop k).all (fun o => o.guard.isNone) = true)
    (hnl : (List.range ops.size).all (fun i => Nat.blt i (k + nl) || (T.getD i []).contains ℓ) = true) (hD : D.all (fun d => Nat.blt d a0.tmps.size) = true)
    (hT : (List.range k).all (fun i => (T.getD i []).all fun j => Nat.blt j i && (T.getD j []).all fun m => (T.getD i []).contains m) = true)
    (hloc : Each k (Local T VL FL))
    (hmono : Each k fun i => ∀ γ w w', Ext w w' → gF FL γ w i → gF FL γ w' i)
    (hstep : Each k (StepTo P ops EK EV W0 D T VL FL))
    (htail : ∀ γ w, Ext W0 w → Each k (fun i => gF FL γ w i) → wpList P ops Q (ops.toList.drop k) (fillAll a0 (gV VL γ) 0 D) w)
    (hlate : ∀ γ w, Ext W0 w → Each k (fun i => i = ℓ ∨ gF FL γ w i) → lateP P ops Q e nl (ops.toList.drop k) ((fillAll a0 (gV VL γ) 0 D).put (some (D.getD ℓ 0)) (a0.tmps.getD (D.getD ℓ 0) undef)) w) :
    (Code.region id ops true).wp P Q a0 W0 :=
  wp_region_gen k ℓ nl D T EK EV VL FL hE hm hc (.inl (by simpa [Nat.blt_eq] using hlk)) (fun _ => hg) (fun _ i hi his => by
    have := List.all_eq_true.1 hnl i (List.mem_range.2 his)
    simp only [Bool.or_eq_true, Nat.blt_eq] at this
    rcases this with h | h
    · omega
    · simpa using h) hD hT hloc hmono hstep (fun γ w h hF _ => htail γ w h hF) fun e' he' => by rw [heo] at he'; cases he'; exact hlate
end
end Go.Hp
namespace Go.Proofs.YtedoifjbgokmcaaGreat
open Go.RowKit Go.Hp
theorem ret_pair {k j : IntKind} {a b c d : Int} (h : a = c) (h' : b = d) : Ending.returned (.tuple #[.int k a, .int j b]) = .returned (.tuple #[.int k c, .int j d]) := by rw [h, h']
theorem ret_int {k : IntKind} {a b : Int} (h : a = b) : Ending.returned (.int k a) = .returned (.int k b) := by rw [h]
set_option maxHeartbeats 400000 in
theorem add32_any (x y c : Int) (w : World) (hx : 0 ≤ x) (hx' : x < 4294967296) (hy : 0 ≤ y) (hy' : y < 4294967296) (hc : 0 ≤ c) (hc' : c ≤ 1) :
    Calls Tryz.prog 143 #[.int .u32 x, .int .u32 y, .int .u32 c] w fun e w' => e = .returned (.tuple #[.int .u32 ((x + y + c) % 4294967296), .int .u32 ((x + y + c) / 4294967296)]) ∧ w = w' := by
  go_enter Tryz.func143, Tryz.ntmps143
  go_wp2
  go_ret2
  exact ⟨rfl, rfl⟩
/-- The borrow. -/
def bor (x y c : Int) : Int := if x < y + c then 1 else 0
theorem bor_pos {x y c : Int} (h : x < y + c) : bor x y c = 1 := if_pos h
theorem bor_neg {x y c : Int} (h : y + c ≤ x) : bor x y c = 0 := if_neg (by omega)
theorem bor_mem (x y c : Int) : 0 ≤ bor x y c ∧ bor x y c ≤ 1 := by unfold bor; split <;> omega
theorem top_bit (n : Nat) (h : n < 4294967296) : n / 2147483648 = (n.testBit 31).toNat := by
  rw [Nat.testBit_eq_decide_div_mod_eq]
  by_cases hc : n / 2 ^ 31 % 2 = 1
  · rw [decide_eq_true hc]; show _ = 1; omega
  · rw [decide_eq_false hc]; show _ = 0; omega
theorem test_top (n : Nat) (h : n < 4294967296) : n.testBit 31 = decide (2147483648 ≤ n) := by
  rw [Nat.testBit_eq_decide_div_mod_eq]
  by_cases hc : 2147483648 ≤ n
  · rw [decide_eq_true hc, decide_eq_true (by omega)]
  · rw [decide_eq_false hc, decide_eq_false (by omega)]
theorem borrow_bits (X Y D : Nat) (c : Int) (hX : X < 4294967296) (hY : Y < 4294967296) (hc : 0 ≤ c) (hc' : c ≤ 1) (hD : (D : Int) = ((X : Int) - Y - c) % 4294967296) :
    (((4294967295 ^^^ X) &&& Y ||| (4294967295 ^^^ (X ^^^ Y)) &&& D : Nat) : Int) / 2147483648 = bor X Y c := by
  have hD' : D < 4294967296 := by omega
  have hlt : ((4294967295 ^^^ X) &&& Y ||| (4294967295 ^^^ (X ^^^ Y)) &&& D) < 2 ^ 32 := by
    apply Nat.or_lt_two_pow
    · exact Nat.lt_of_le_of_lt Nat.and_le_right hY
    · exact Nat.lt_of_le_of_lt Nat.and_le_right hD'
  have h1 := top_bit _ hlt
  simp only [Nat.testBit_or, Nat.testBit_and, Nat.testBit_xor] at h1
  rw [test_top X hX, test_top Y hY, test_top D hD', show Nat.testBit 4294967295 31 = true from by decide] at h1
  have h2 : (((4294967295 ^^^ X) &&& Y ||| (4294967295 ^^^ (X ^^^ Y)) &&& D : Nat) : Int) / 2147483648 = ((((4294967295 ^^^ X) &&& Y ||| (4294967295 ^^^ (X ^^^ Y)) &&& D) / 2147483648 : Nat) : Int) := by omega
  rw [h2, h1]
  unfold bor
  by_cases a : 2147483648 ≤ X <;> by_cases b : 2147483648 ≤ Y <;> by_cases d : 2147483648 ≤ D <;> simp only [decide_eq_true_eq, a, b, d, decide_true, decide_false, Bool.xor_true, Bool.xor_false, Bool.not_true, Bool.not_false, Bool.true_and, Bool.false_and, Bool.and_true, Bool.and_false, Bool.or_true, Bool.or_false, Bool.true_or, Bool.false_or, Bool.toNat_true, Bool.toNat_false] <;> split <;> omega
theorem sub_bits (x y c : Int) (hx : 0 ≤ x) (hx' : x < 4294967296) (hy : 0 ≤ y) (hy' : y < 4294967296) (hc : 0 ≤ c) (hc' : c ≤ 1) :
    bits .or .u32 (bits .and .u32 (bits .xor .u32 IntKind.u32.max x) y) (bits .and .u32 (bits .xor .u32 IntKind.u32.max (bits .xor .u32 x y)) ((x - y - c) % 4294967296)) / 2147483648 = bor x y c := by
  obtain ⟨X, rfl⟩ := Int.eq_ofNat_of_zero_le hx
  obtain ⟨Y, rfl⟩ := Int.eq_ofNat_of_zero_le hy
  obtain ⟨D, hD⟩ := Int.eq_ofNat_of_zero_le (show 0 ≤ ((X : Int) - Y - c) % 4294967296 by omega)
  have hb := borrow_bits X Y D c (by omega) (by omega) hc hc' hD.symm
  have e1 : bits .xor .u32 IntKind.u32.max (X : Int) = ((4294967295 ^^^ X : Nat) : Int) := u32_xor_nat 4294967295 X (by decide) (by omega)
  have l1 : (4294967295 ^^^ X : Nat) < 2 ^ 32 := Nat.xor_lt_two_pow (by decide) (by omega)
  have e2 : bits .and .u32 ((4294967295 ^^^ X : Nat) : Int) (Y : Int) = (((4294967295 ^^^ X) &&& Y : Nat) : Int) := u32_and_nat _ Y l1 (by omega)
  have e3 : bits .xor .u32 (X : Int) (Y : Int) = ((X ^^^ Y : Nat) : Int) := u32_xor_nat X Y (by omega) (by omega)
  have l3 : (X ^^^ Y : Nat) < 2 ^ 32 := Nat.xor_lt_two_pow (by omega) (by omega)
  have e4 : bits .xor .u32 IntKind.u32.max ((X ^^^ Y : Nat) : Int) = ((4294967295 ^^^ (X ^^^ Y) : Nat) : Int) := u32_xor_nat 4294967295 _ (by decide) l3
  have l4 : (4294967295 ^^^ (X ^^^ Y) : Nat) < 2 ^ 32 := Nat.xor_lt_two_pow (by decide) l3
  have e5 : bits .and .u32 ((4294967295 ^^^ (X ^^^ Y) : Nat) : Int) (D : Int) = (((4294967295 ^^^ (X ^^^ Y)) &&& D : Nat) : Int) := u32_and_nat _ D l4 (by omega)
  have e6 : bits .or .u32 (((4294967295 ^^^ X) &&& Y : Nat) : Int) (((4294967295 ^^^ (X ^^^ Y)) &&& D : Nat) : Int) = (((4294967295 ^^^ X) &&& Y ||| (4294967295 ^^^ (X ^^^ Y)) &&& D : Nat) : Int) :=
    u32_or_nat _ _ (Nat.lt_of_le_of_lt Nat.and_le_right (by omega)) (Nat.lt_of_le_of_lt Nat.and_le_right (by omega))
  rw [e1, e2, e3, e4, hD, e5, e6, hb]
set_option maxHeartbeats 400000 in
theorem sub32_any (x y c : Int) (w : World) (hx : 0 ≤ x) (hx' : x < 4294967296) (hy : 0 ≤ y) (hy' : y < 4294967296) (hc : 0 ≤ c) (hc' : c ≤ 1) :
    Calls Tryz.prog 144 #[.int .u32 x, .int .u32 y, .int .u32 c] w fun e w' => e = .returned (.tuple #[.int .u32 ((x - y - c) % 4294967296), .int .u32 (bor x y c)]) ∧ w = w' := by
  have H := Lib.hid (sub_bits x y c hx hx' hy hy' hc hc')
  go_enter Tryz.func144, Tryz.ntmps144
  go_wp2
  go_ret2
  exact ⟨ret_pair rfl H.out, rfl⟩
theorem sign_any (x : Int) (w : World) (hx : -9223372036854775808 ≤ x) (hx' : x < 9223372036854775808) :
    Calls Tryz.prog 147 #[.int .i64 x] w fun e w' => e = .returned (.int .i64 x.sign) ∧ w = w' := by
  rcases Int.lt_trichotomy x 0 with h | h | h
  · go_enter Tryz.func147, Tryz.ntmps147
    go_wp2
    go_ret
    exact ⟨ret_int (Int.sign_eq_neg_one_of_neg h).symm, rfl⟩
  · subst h
    go_enter Tryz.func147, Tryz.ntmps147
    go_wp2
    go_ret
    exact ⟨rfl, rfl⟩
  · go_enter Tryz.func147, Tryz.ntmps147
    go_wp2
    go_ret
    exact ⟨ret_int (Int.sign_eq_one_of_pos h).symm, rfl⟩
theorem info_u32 : (Tryz.prog.info? 112).map (fun i => (i.zero, i.size, i.bytes)) = some (some (.int .u32 0), 1, 4) := by kernel_rfl
theorem make_u32 (n : Nat) (x : Int) (hx : x = n) (hn : n ≤ 70368744177664) (w : World) :
    (Instr.makeSlice 36 (.int .i64 x) (.int .i64 x)).run Tryz.prog w = .ok (.slice (some ⟨w.heap.size, 0, none⟩) n n) (w.alloc (.cells (zcells n) 112)) := by
  subst hx
  obtain ⟨i0, hi, hz0, hz1, hz2⟩ := info_parts info_u32
  have h := run_make (P := Tryz.prog) w 36 112 i0 (.int .u32 0) Tryz.underlying36 hi hz0 .i64 .i64 (n : Int) (n : Int) (by omega) (by omega) (by rw [hz2]; omega) (by omega)
  rw [h, hz1, Nat.mul_one, Int.toNat_natCast]
  rw [show Value.cells (.int .u32 0) = #[Value.int .u32 0] from rfl, madeCells_zero]
set_option maxHeartbeats 400000 in
theorem clone_any (v : Value) (ds : List Nat) (w : World) (h : DigV w v ds) (hn : ds.length ≤ 8796093022208) : Calls Tryz.prog 129 #[v] w (Gives w fun r w' => DigV w' r ds) := by
  obtain ⟨A, c, rfl, hl, hc, hd, hA⟩ := h
  cases A with
  | none =>
    have h0 : ds = [] := by
      rcases Nat.eq_zero_or_pos ds.length with h | h
      · exact List.eq_nil_of_length_eq_zero h
      · obtain ⟨a, ha, _⟩ := hA h; cases ha
    subst h0
    have hq := fun w n c => Lib.run_eql_slice_nil (P := Tryz.prog) w 36 112 none n c 0 0 Tryz.underlying36
    go_enter Tryz.func129, Tryz.ntmps129
    go_wp2
    go_ret
    exact Gives.mk ⟨none, 0, rfl, by simp, by omega, hd, fun h => by simp at h⟩ (Ext.refl _)
  | some a =>
    have hcell : ∀ (j : Nat) (u : Value), (ds.map fun d => Value.int .u32 (d : Nat))[j]? = some u → w.cell? (a.add j) = some u := by
      intro j u hu
      rw [List.getElem?_map] at hu
      rcases Nat.lt_or_ge j ds.length with h | h
      · rw [List.getElem?_eq_getElem h] at hu
        obtain ⟨a', ha, hc⟩ := hA (by omega)
        cases ha
        rw [hc j h]; simpa using hu
      · rw [List.getElem?_eq_none h] at hu; cases hu
    obtain ⟨i0, hi, hz0, hz1, hz2⟩ := info_parts info_u32
    have hq := fun w n c => Lib.run_eql_slice_nil (P := Tryz.prog) w 36 112 (some a) n c 0 0 Tryz.underlying36
    clear hA
    have hcell' := Lib.hid hcell
    clear hcell
    go_enter Tryz.func129, Tryz.ntmps129
    go_wp2_with (at_builtin; refine wpList_append_own _ rfl _ _ 36 rfl w.heap.size 112 i0 (.int .u32 0) 1 4 Tryz.underlying36 hi hz0 hz1 hz2 rfl (by decide) _ _ _ rfl (World.ownsRow_made w #[] 0 (Nat.le_refl _) (by simp [maxLen]) rfl) a ds.length c (ds.map fun d => Value.int .u32 (d : Nat)) rfl (by simp) ?c1 ?c2 ?c3 ?c4 ?c5 ?_)
    case c1 => intro j u hu; exact ((Ext.refl w).alloc _).cell (hcell'.out j u hu)
    case c2 => intro u hu; simp at hu; obtain ⟨d, _, rfl⟩ := hu; rfl
    case c3 => simp only [maxLen]; omega
    case c4 => omega
    case c5 => simp
    intro v' w1 hown hg _
    go_wp2
    go_ret
    refine Gives.mk (DigV.of_own (by simpa using hown) hd) (((Ext.refl w).alloc _).grown hg ?_)
    intro k hk
    simp [Value.ownBlock] at hk
    omega
theorem or_shift (h l : Int) (hh : 0 ≤ h) (hh' : h < 4294967296) (hl : 0 ≤ l) (hl' : l < 4294967296) : bits .or .u64 (h * 4294967296) l = h * 4294967296 + l := by
  obtain ⟨H, rfl⟩ := Int.eq_ofNat_of_zero_le hh
  obtain ⟨L, rfl⟩ := Int.eq_ofNat_of_zero_le hl
  have e := u64_or_nat (H * 4294967296) L (by omega) (by omega)
  have e2 : H * 4294967296 ||| L = H * 4294967296 + L := by
    rw [show H * 4294967296 = 2 ^ 32 * H from by omega]
    exact (Nat.two_pow_add_eq_or_of_lt (by omega) H).symm
  rw [e2] at e
  simpa using e
set_option maxHeartbeats 400000 in
theorem div32_any (h l d : Int) (w : World) (hh : 0 ≤ h) (hl : 0 ≤ l) (hl' : l < 4294967296) (hd : h < d) (hd' : d < 4294967296) :
    Calls Tryz.prog 148 #[.int .u32 h, .int .u32 l, .int .u32 d] w (Gives w fun r _ => r = .tuple #[.int .u32 ((h * 4294967296 + l) / d), .int .u32 ((h * 4294967296 + l) % d)]) := by
  have b1 : (d != 0) = true := by simp; omega
  have b2 : decide (d ≤ h) = false := by simp; omega
  have q0 : 0 ≤ (h * 4294967296 + l) / d := Int.ediv_nonneg (by omega) (by omega)
  have q1 : (h * 4294967296 + l) / d < 4294967296 := Int.ediv_lt_of_lt_mul (by omega) (by
    have : (h + 1) * 4294967296 ≤ d * 4294967296 := by omega
    omega)
  have r0 : 0 ≤ (h * 4294967296 + l) % d := Int.emod_nonneg _ (by omega)
  have r1 : (h * 4294967296 + l) % d < d := Int.emod_lt_of_pos _ (by omega)
  have d1 : 1 ≤ d := by omega
  have ho := or_shift h l hh (by omega) hl hl'
  go_enter Tryz.func148, Tryz.ntmps148
  go_wp2
  refine wp_region_par (k := 11) (D := [23, 24, 25, 26, 27, 28, 29, 30, 31, 32, 6]) (T := [[], [], [1], [0, 1, 2], [0, 1, 2, 3], [], [], [6], [5, 6, 7], [5, 6, 7, 8], [0, 1, 2, 3, 4], [0, 1, 2, 3, 4, 5, 6, 7, 8, 9, 10]]) (EK := [8, 2]) (EV := [?e1x0, ?e1x1]) (VL := [(kv ?v1x0), (kv ?v1x1), (kv ?v1x2), (kv ?v1x3), (kv ?v1x4), (kv ?v1x5), (kv ?v1x6), (kv ?v1x7), (kv ?v1x8), (kv ?v1x9), (kv ?v1x10)]) (FL := fun γ w' => [True, True, True, True, True, True, True, True, True, True, True]) ?hE1 (by kernel_rfl) (by kernel_rfl) (by rfl) (by kernel_rfl) ?hloc1 ?hmono1 ?hstep1 ?htail1
  case hE1 => refine ⟨?_, ?_, trivial⟩ <;> (simp only [List.getElem?_toArray, List.getElem?_cons_succ, List.getElem?_cons_zero]; rfl)
  case hstep1 =>
    refine ⟨⟨⟨⟨⟨⟨⟨⟨⟨⟨⟨trivial, ?_⟩, ?_⟩, ?_⟩, ?_⟩, ?_⟩, ?_⟩, ?_⟩, ?_⟩, ?_⟩, ?_⟩, ?_⟩
    · intro γ w' he hf; clear hf; refine ⟨trivial, ?_⟩; intro R hR
      have hc := he.cells
      go_simp
      (try go_ints); (try (rw [if_neg (by omega)])); (try (rw [if_pos (by omega)])); (try go_simp); (try go_ints)
      refine hR _ _ (Ext.refl _) ?_ trivial
      rfl
    · intro γ w' he hf; clear hf; refine ⟨trivial, ?_⟩; intro R hR
      have hc := he.cells
      go_simp
      (try go_ints); (try (rw [if_neg (by omega)])); (try (rw [if_pos (by omega)])); (try go_simp); (try go_ints)
      refine hR _ _ (Ext.refl _) ?_ trivial
      rfl
    · intro γ w' he hf; clear hf; refine ⟨trivial, ?_⟩; intro R hR
      have hc := he.cells
      go_simp
      (try go_ints); (try (rw [if_neg (by omega)])); (try (rw [if_pos (by omega)])); (try go_simp); (try go_ints)
      refine hR _ _ (Ext.refl _) ?_ trivial
      rfl
    · intro γ w' he hf; clear hf; refine ⟨trivial, ?_⟩; intro R hR
      have hc := he.cells
      go_simp
      (try go_ints); (try (rw [if_neg (by omega)])); (try (rw [if_pos (by omega)])); (try go_simp); (try go_ints)
      refine hR _ _ (Ext.refl _) ?_ trivial
      rfl
    · intro γ w' he hf; clear hf; refine ⟨trivial, ?_⟩; intro R hR
      have hc := he.cells
      go_simp
      (try go_ints); (try (rw [if_neg (by omega)])); (try (rw [if_pos (by omega)])); (try go_simp); (try go_ints)
      refine hR _ _ (Ext.refl _) ?_ trivial
      rfl
    · intro γ w' he hf; clear hf; refine ⟨trivial, ?_⟩; intro R hR
      have hc := he.cells
      go_simp
      (try go_ints); (try (rw [if_neg (by omega)])); (try (rw [if_pos (by omega)])); (try go_simp); (try go_ints)
      refine hR _ _ (Ext.refl _) ?_ trivial
      rfl
    · intro γ w' he hf; clear hf; refine ⟨trivial, ?_⟩; intro R hR
      have hc := he.cells
      go_simp
      (try go_ints); (try (rw [if_neg (by omega)])); (try (rw [if_pos (by omega)])); (try go_simp); (try go_ints)
      refine hR _ _ (Ext.refl _) ?_ trivial
      rfl
    · intro γ w' he hf; clear hf; refine ⟨trivial, ?_⟩; intro R hR
      have hc := he.cells
      go_simp
      (try go_ints); (try (rw [if_neg (by omega)])); (try (rw [if_pos (by omega)])); (try go_simp); (try go_ints)
      refine hR _ _ (Ext.refl _) ?_ trivial
      rfl
    · intro γ w' he hf; clear hf; refine ⟨trivial, ?_⟩; intro R hR
      have hc := he.cells
      go_simp
      (try go_ints); (try (rw [if_neg (by omega)])); (try (rw [if_pos (by omega)])); (try go_simp); (try go_ints)
      refine hR _ _ (Ext.refl _) ?_ trivial
      rfl
    · intro γ w' he hf; clear hf; refine ⟨trivial, ?_⟩; intro R hR
      have hc := he.cells
      go_simp
      (try go_ints); (try (rw [if_neg (by omega)])); (try (rw [if_pos (by omega)])); (try go_simp); (try go_ints)
      refine hR _ _ (Ext.refl _) ?_ trivial
      rfl
    · intro γ w' he hf; clear hf; refine ⟨trivial, ?_⟩; intro R hR
      have hc := he.cells
      go_simp
      (try go_ints); (try (rw [if_neg (by omega)])); (try (rw [if_pos (by omega)])); (try go_simp); (try go_ints)
      refine hR _ _ (Ext.refl _) ?_ trivial
      rfl
  case hloc1 =>
    exact ⟨⟨⟨⟨⟨⟨⟨⟨⟨⟨⟨trivial, (fun γ γ' h => ⟨rfl, fun _ => rfl⟩)⟩, (fun γ γ' h => ⟨rfl, fun _ => rfl⟩)⟩, (fun γ γ' h => ⟨rfl, fun _ => rfl⟩)⟩, (fun γ γ' h => ⟨rfl, fun _ => rfl⟩)⟩, (fun γ γ' h => ⟨rfl, fun _ => rfl⟩)⟩, (fun γ γ' h => ⟨rfl, fun _ => rfl⟩)⟩, (fun γ γ' h => ⟨rfl, fun _ => rfl⟩)⟩, (fun γ γ' h => ⟨rfl, fun _ => rfl⟩)⟩, (fun γ γ' h => ⟨rfl, fun _ => rfl⟩)⟩, (fun γ γ' h => ⟨rfl, fun _ => rfl⟩)⟩, (fun γ γ' h => ⟨rfl, fun _ => rfl⟩)⟩
  case hmono1 =>
    exact ⟨⟨⟨⟨⟨⟨⟨⟨⟨⟨⟨trivial, (fun γ wA w' e h => h)⟩, (fun γ wA w' e h => h)⟩, (fun γ wA w' e h => h)⟩, (fun γ wA w' e h => h)⟩, (fun γ wA w' e h => h)⟩, (fun γ wA w' e h => h)⟩, (fun γ wA w' e h => h)⟩, (fun γ wA w' e h => h)⟩, (fun γ wA w' e h => h)⟩, (fun γ wA w' e h => h)⟩, (fun γ wA w' e h => h)⟩
  intro γ w1 hx1 hF
  clear hF
  simp only [fillAll, gV, kv, List.getD_cons_zero, List.getD_cons_succ, Act.put, List.setIfInBounds_toArray, List.set_cons_zero, List.set_cons_succ, List.toList_toArray, List.drop_succ_cons, List.drop_zero, List.drop_nil, Nat.zero_add, Nat.reduceAdd]
  clear γ
  go_wp2
  go_ret2
  exact Gives.mk rfl hx1
theorem bitLen_bounds (n : Nat) : ∀ x, x ≤ n → x < 2 ^ 64 → x < 2 ^ Lib.bitLen x ∧ (x ≠ 0 → 2 ^ Lib.bitLen x ≤ 2 * x) := by
  induction n with
  | zero => intro x hx _; obtain rfl : x = 0 := by omega
            exact ⟨by decide, fun h => absurd rfl h⟩
  | succ n ih =>
    intro x hx h64
    by_cases h0 : x = 0
    · subst h0; exact ⟨by decide, fun h => absurd rfl h⟩
    · obtain ⟨i1, i2⟩ := ih (x / 2) (by omega) (by omega)
      rw [Lib.bitLen_half x h0 h64, Nat.add_comm, Nat.pow_succ]
      refine ⟨by omega, fun _ => ?_⟩
      by_cases h1 : x / 2 = 0
      · rw [h1]
        have : 2 ^ Lib.bitLen 0 = 1 := by decide
        omega
      · have := i2 h1
        omega
theorem wrap64_len8 (b : Int) (h0 : 0 ≤ b) (h1 : b ≤ 255) : wrap64 (Lib.len8 b) = (Lib.bitLen b.toNat : Int) := by
  rw [Lib.len8_of b h0 h1]
  have := Lib.bitLen_le8' b h0 h1
  exact IntWalk.wrap64_in _ ⟨by omega, by omega⟩
set_option maxRecDepth 100000 in
theorem len32_any (x : Int) (w : World) (h0 : 0 ≤ x) (h1 : x ≤ 4294967295) :
    Calls Tryz.prog 149 #[.int .u32 x] w fun e w' => e = .returned (.int .i64 (Lib.bitLen x.toNat)) ∧ w' = w := by
  have ts := Tryz.underlying9
  by_cases c1 : x < 65536
  · by_cases c2 : x < 256
    · have c3 : x ≤ 255 := by omega
      go_enter Tryz.func149, Tryz.ntmps149
      go_wp2
      go_ret
      refine ⟨ret_int ?_, rfl⟩
      have e := wrap64_len8 x h0 c3
      show wrap64 (wrap64 (Lib.len8 x)) = _
      rw [e]
      have := Lib.bitLen_le8' x h0 c3
      exact IntWalk.wrap64_in _ ⟨by omega, by omega⟩
    · have c3 : x / 256 ≤ 255 := by omega
      have c4 : 0 ≤ x / 256 := by omega
      go_enter Tryz.func149, Tryz.ntmps149
      go_wp2
      go_ret
      refine ⟨ret_int ?_, rfl⟩
      show wrap64 (8 + wrap64 (Lib.len8 (x / 256))) = _
      have l := Lib.bitLen_le8' (x / 256) c4 c3
      have s := Lib.bitLen_shift8 x.toNat (by omega) (by omega)
      rw [wrap64_len8 _ c4 c3, IntWalk.wrap64_in _ ⟨by omega, by omega⟩, s, show (x / 256).toNat = x.toNat / 256 from by omega]
      omega
  · by_cases c2 : x / 65536 < 256
    · have c3 : x / 65536 ≤ 255 := by omega
      have c4 : 0 ≤ x / 65536 := by omega
      go_enter Tryz.func149, Tryz.ntmps149
      go_wp2
      go_ret
      refine ⟨ret_int ?_, rfl⟩
      show wrap64 (16 + wrap64 (Lib.len8 (x / 65536))) = _
      have l := Lib.bitLen_le8' (x / 65536) c4 c3
      have s := Lib.bitLen_shift16 x.toNat (by omega) (by omega)
      rw [wrap64_len8 _ c4 c3, IntWalk.wrap64_in _ ⟨by omega, by omega⟩, s, show (x / 65536).toNat = x.toNat / 65536 from by omega]
      omega
    · have c3 : x / 65536 / 256 ≤ 255 := by omega
      have c4 : 0 ≤ x / 65536 / 256 := by omega
      go_enter Tryz.func149, Tryz.ntmps149
      go_wp2
      go_ret
      refine ⟨ret_int ?_, rfl⟩
      show wrap64 (24 + wrap64 (Lib.len8 (x / 65536 / 256))) = _
      have l := Lib.bitLen_le8' (x / 65536 / 256) c4 c3
      have s := Lib.bitLen_shift24 x.toNat (by omega) (by omega)
      rw [wrap64_len8 _ c4 c3, IntWalk.wrap64_in _ ⟨by omega, by omega⟩, s, show (x / 65536 / 256).toNat = x.toNat / 16777216 from by omega]
      rw [show (x / 65536 / 256).toNat = x.toNat / 16777216 from by omega] at l
      omega
theorem lz32_any (x : Int) (w : World) (h0 : 0 ≤ x) (h1 : x ≤ 4294967295) :
    Calls Tryz.prog 139 #[.int .u32 x] w fun e w' => e = .returned (.int .i64 (32 - (Lib.bitLen x.toNat : Int))) ∧ w = w' := by
  have hb : (Lib.bitLen x.toNat : Int) ≤ 32 := by
    have := Lib.bitLen_le x.toNat 32 (by decide) (by omega)
    omega
  go_enter Tryz.func139, Tryz.ntmps139
  go_wp2_with (go_at_call 149; refine (len32_any _ _ (by omega) (by omega)).mono ?_; rintro e w' ⟨rfl, rfl⟩)
  go_ret
  exact ⟨rfl, rfl⟩
/-- How many leading zeros a word has. -/
def lz (x : Nat) : Nat := 32 - Lib.bitLen x
theorem lz_spec {x : Nat} (h0 : 0 < x) (h1 : x < 4294967296) : lz x < 32 ∧ (x + 1) * 2 ^ lz x ≤ 4294967296 ∧ 2147483648 ≤ x * 2 ^ lz x := by
  have hl := Lib.bitLen_le x 32 (by decide) (by omega)
  obtain ⟨b1, b2⟩ := bitLen_bounds x x (Nat.le_refl _) (by omega)
  have b2 := b2 (by omega)
  have hp : 0 < Lib.bitLen x := by
    rcases Nat.eq_zero_or_pos (Lib.bitLen x) with h | h
    · rw [h] at b1; omega
    · exact h
  unfold lz
  generalize Lib.bitLen x = b at *
  have e : 2 ^ b * 2 ^ (32 - b) = 4294967296 := by rw [← Nat.pow_add, show b + (32 - b) = 32 from by omega]
  refine ⟨by omega, ?_, ?_⟩
  · rw [← e]; exact Nat.mul_le_mul_right _ b1
  · have := Nat.mul_le_mul_right (2 ^ (32 - b)) b2
    rw [e, Nat.mul_assoc] at this
    omega
theorem lz_any (x : Nat) (w : World) (h1 : x < 4294967296) :
    Calls Tryz.prog 139 #[.int .u32 (x : Nat)] w fun e w' => e = .returned (.int .i64 (lz x : Nat)) ∧ w = w' := by
  refine (lz32_any (x : Nat) w (by omega) (by omega)).mono ?_
  rintro e w' ⟨rfl, rfl⟩
  have hl := Lib.bitLen_le x 32 (by decide) (by omega)
  refine ⟨ret_int ?_, rfl⟩
  unfold lz
  rw [Int.toNat_natCast]
  omega
end Go.Proofs.YtedoifjbgokmcaaGreat
namespace Go.Proofs.YtedoifjbgokmcaaGreat
open Go.RowKit Go.Hp
set_option maxHeartbeats 400000 in
/-- bigint.trimmed: the digits without leading zeros, in their place. -/
theorem trimmed_eq (A : Option Addr) (c : Nat) (ds : List Nat) (w : World) (hl : ds.length ≤ c) (hc : c ≤ 9223372036854775807) (hA : DigAt w A ds) :
    Calls Tryz.prog 111 #[.slice A ds.length c] w fun e w' => e = .returned (.slice A (trim ds).length c) ∧ w = w' := by
  obtain ⟨hd, hA⟩ := hA
  go_enter Tryz.func111, Tryz.ntmps111
  go_wp2
  go_loop [0] (fun v => ∃ m : Nat, m ≤ ds.length ∧ v = .slice A m c ∧ ∀ j, m ≤ j → (h : j < ds.length) → ds[j] = 0) (fun v => match v with | .slice _ m _ => m | _ => 0)
  case atStart => exact ⟨ds.length, Nat.le_refl _, rfl, fun j h1 h2 => by omega⟩
  case round =>
    obtain ⟨m, hm, rfl, hz⟩ := hrel
    by_cases h0 : 0 < m
    · obtain ⟨m, rfl⟩ : ∃ k, m = k + 1 := ⟨m - 1, by omega⟩
      obtain ⟨a, rfl, hcell⟩ := hA (by omega)
      have hcm := hcell m (by omega)
      by_cases hd0 : ds[m]'(by omega) = 0
      · have hb : (((ds[m]'(by omega) : Nat) : Int) == 0) = true := by simp [hd0]
        clear hcell hA
        go_wp2
        go_round
        case rel => exact ⟨m, by omega, rfl, fun j h1 h2 => by
          rcases Nat.eq_or_lt_of_le h1 with e | e
          · subst e; exact hd0
          · exact hz j (by omega) h2⟩
        case measure => simp
      · have hb : (((ds[m]'(by omega) : Nat) : Int) == 0) = false := by simp; omega
        clear hA
        go_wp2
        go_ret
        have ht := trim_take hm hz (fun h _ => by simpa using hd0)
        have hlen : (trim ds).length = m + 1 := by rw [← ht]; simp; omega
        exact ⟨by rw [hlen]; rfl, rfl⟩
    · obtain rfl : m = 0 := by omega
      go_wp2
      go_ret
      have ht := trim_take hm hz (fun h hh => by omega)
      have hlen : (trim ds).length = 0 := by rw [← ht]; rfl
      exact ⟨by rw [hlen]; rfl, rfl⟩
/-- bigint.trimmed: the digits without leading zeros. -/
theorem trimmed_any (v : Value) (ds : List Nat) (w : World) (h : DigV w v ds) : Calls Tryz.prog 111 #[v] w (Gives w fun r w' => DigV w' r (trim ds)) := by
  obtain ⟨A, c, rfl, hl, hc, hA⟩ := h
  refine (trimmed_eq A c ds w hl hc hA).mono ?_
  rintro e w' ⟨rfl, rfl⟩
  exact Gives.mk ⟨A, c, rfl, by have := trim_len ds; omega, hc, hA.trim⟩ (Ext.refl _)
/-- The slice at option A, k-th place: what the walk needs. -/
theorem dig_at {w : World} {A : Option Addr} {ds : List Nat} (h : DigAt w A ds) {k : Nat} (hk : k < ds.length) : ∃ a, A = some a ∧ w.cell? (a.add k) = some (.int .u32 (dg ds k : Nat)) := by
  obtain ⟨a, e, hc⟩ := h.2 (by omega)
  exact ⟨a, e, by rw [hc k hk, dg_lt hk]⟩
set_option maxHeartbeats 1000000 in
theorem plus_any (v u : Value) (ds es : List Nat) (w : World) (hv : DigV w v ds) (hu : DigV w u es) (hn : ds.length ≤ 4398046511104) (hm : es.length ≤ 4398046511104) :
    Calls Tryz.prog 131 #[v, u] w (Gives w fun r w' => ∃ l, DigV w' r l ∧ nv l = nv ds + nv es ∧ l.length = max ds.length es.length + 1) := by
  obtain ⟨A, p1, rfl, hl, hc, hA⟩ := hv
  obtain ⟨E, p2, rfl, hl', hc', hE⟩ := hu
  by_cases hlt : ds.length < es.length
  · have hb0 : decide (ds.length < es.length) = true := by simp; omega --@1 --@2   · have hb0 : decide (ds.length < es.length) = false := by simp; omega
    have hmk := fun W => make_u32 (es.length + 1) ((es.length : Int) + 1) (by omega) (by omega) W
    go_enter Tryz.func131, Tryz.ntmps131
    go_wp2
    go_loopw [6, 23] (fun cv iv wr => ∃ (k c0 : Nat) (l : List Nat), k ≤ es.length ∧ iv = .int .i64 k ∧ cv = .int .u32 c0 ∧ c0 ≤ 1 ∧ l.length = es.length + 1 ∧ DBlk wr w.heap.size 112 l ∧ Digs l ∧ nv (l.take k) + c0 * bp k = nv (es.take k) + nv (ds.take k) ∧ Ext w wr) (fun _ iv _ => es.length - (intOf iv).toNat)
    case atStart => exact ⟨0, 0, _, Nat.zero_le _, rfl, rfl, Nat.zero_le _, List.length_replicate, DBlk.new _ _ _, Digs.zeros _, by simp [nv_nil], (Ext.refl w).alloc _⟩
    case round =>
      obtain ⟨k, c0, l, hk, rfl, rfl, hc0, hll, hblk, hdl, hval, hx⟩ := hrel
      have hfz := hblk.frozen k
      have hcl := hblk.celld (i := k) (by omega)
      by_cases hkl : k < es.length
      · obtain ⟨a, rfl, hca⟩ := dig_at hE hkl
        have hca := hx.cell hca
        have x1 := dg_bound hE.1 k
        have y1 := dg_bound hA.1 k
        generalize hxx : dg es k = x at *
        generalize hyy : dg ds k = y at *
        have Hx := Lib.hid hxx; clear hxx
        have Hy := Lib.hid hyy; clear hyy
        have Hv := Lib.hid hval; clear hval
        have Hll := Lib.hid hll; clear hll
        by_cases hke : k < ds.length
        · obtain ⟨b, rfl, hcb⟩ := dig_at hA hke
          rw [Hy.out] at hcb
          have hcb := hx.cell hcb
          go_wp2_with (go_at_call 143; refine (add32_any _ _ _ _ (by omega) (by omega) (by omega) (by omega) (by omega) (by omega)).mono ?_; rintro e w' ⟨rfl, rfl⟩)
          go_roundw
          case rel =>
            refine ⟨k + 1, (x + y + c0) / 4294967296, l.set k ((x + y + c0) % 4294967296), by omega, by go_num, by go_num, by omega, by simpa using Hll.out, hblk.setI _ _ (by omega), hdl.set (by omega) _, ?_, hx.setCell _ _ (Nat.le_refl _)⟩
            rw [nv_take_set (by have := Hll.out; omega), nv_take_dg, nv_take_dg, Hx.out, Hy.out, bp_succ]
            exact add_step Hv.out
          case measure => simp [intOf]; omega
        · obtain rfl : y = 0 := by rw [← Hy.out]; exact dg_ge (by omega)
          go_wp2_with (go_at_call 143; refine (add32_any _ _ _ _ (by omega) (by omega) (by omega) (by omega) (by omega) (by omega)).mono ?_; rintro e w' ⟨rfl, rfl⟩)
          go_roundw
          case rel =>
            refine ⟨k + 1, (x + 0 + c0) / 4294967296, l.set k ((x + 0 + c0) % 4294967296), by omega, by go_num, by go_num, by omega, by simpa using Hll.out, hblk.setI _ _ (by omega), hdl.set (by omega) _, ?_, hx.setCell _ _ (Nat.le_refl _)⟩
            rw [nv_take_set (by have := Hll.out; omega), nv_take_dg, nv_take_dg, Hx.out, Hy.out, bp_succ]
            exact add_step Hv.out
          case measure => simp [intOf]; omega
      · obtain rfl : k = es.length := by omega
        have Hll := Lib.hid hll; clear hll
        go_wp2
        go_ret
        have hll := Hll.out
        have hb := hblk.setI es.length c0 (z := (c0 : Int)) rfl
        have hnv : nv (l.set es.length c0) = nv ds + nv es := by
          have h1 := nv_take_set (l := l) (k := es.length) (d := c0) (by omega)
          rw [List.take_of_length_le (by simp; omega)] at h1
          rw [h1, Nat.mul_comm, hval, List.take_of_length_le (Nat.le_refl _), List.take_of_length_le (by omega)]
          omega
        refine Gives.mk ⟨l.set es.length c0, ?_, by omega, by simp [hll]; omega⟩ (hx.setCell _ _ (Nat.le_refl _))
        have hq := hb.digv (hdl.set (by omega) _) (c := es.length + 1) (by simp [hll]) (by omega)
        rw [List.length_set, hll] at hq
        exact hq
  · have hb0 : decide (ds.length < es.length) = false := by simp; omega
    have hmk := fun W => make_u32 (ds.length + 1) ((ds.length : Int) + 1) (by omega) (by omega) W
    go_enter Tryz.func131, Tryz.ntmps131
    go_wp2
    go_loopw [6, 23] (fun cv iv wr => ∃ (k c0 : Nat) (l : List Nat), k ≤ ds.length ∧ iv = .int .i64 k ∧ cv = .int .u32 c0 ∧ c0 ≤ 1 ∧ l.length = ds.length + 1 ∧ DBlk wr w.heap.size 112 l ∧ Digs l ∧ nv (l.take k) + c0 * bp k = nv (ds.take k) + nv (es.take k) ∧ Ext w wr) (fun _ iv _ => ds.length - (intOf iv).toNat)
    case atStart => exact ⟨0, 0, _, Nat.zero_le _, rfl, rfl, Nat.zero_le _, List.length_replicate, DBlk.new _ _ _, Digs.zeros _, by simp [nv_nil], (Ext.refl w).alloc _⟩
    case round =>
      obtain ⟨k, c0, l, hk, rfl, rfl, hc0, hll, hblk, hdl, hval, hx⟩ := hrel
      have hfz := hblk.frozen k
      have hcl := hblk.celld (i := k) (by omega)
      by_cases hkl : k < ds.length
      · obtain ⟨a, rfl, hca⟩ := dig_at hA hkl
        have hca := hx.cell hca
        have x1 := dg_bound hA.1 k
        have y1 := dg_bound hE.1 k
        generalize hxx : dg ds k = x at *
        generalize hyy : dg es k = y at *
        have Hx := Lib.hid hxx; clear hxx
        have Hy := Lib.hid hyy; clear hyy
        have Hv := Lib.hid hval; clear hval
        have Hll := Lib.hid hll; clear hll
        by_cases hke : k < es.length
        · obtain ⟨b, rfl, hcb⟩ := dig_at hE hke
          rw [Hy.out] at hcb
          have hcb := hx.cell hcb
          go_wp2_with (go_at_call 143; refine (add32_any _ _ _ _ (by omega) (by omega) (by omega) (by omega) (by omega) (by omega)).mono ?_; rintro e w' ⟨rfl, rfl⟩)
          go_roundw
          case rel =>
            refine ⟨k + 1, (x + y + c0) / 4294967296, l.set k ((x + y + c0) % 4294967296), by omega, by go_num, by go_num, by omega, by simpa using Hll.out, hblk.setI _ _ (by omega), hdl.set (by omega) _, ?_, hx.setCell _ _ (Nat.le_refl _)⟩
            rw [nv_take_set (by have := Hll.out; omega), nv_take_dg, nv_take_dg, Hx.out, Hy.out, bp_succ]
            exact add_step Hv.out
          case measure => simp [intOf]; omega
        · obtain rfl : y = 0 := by rw [← Hy.out]; exact dg_ge (by omega)
          go_wp2_with (go_at_call 143; refine (add32_any _ _ _ _ (by omega) (by omega) (by omega) (by omega) (by omega) (by omega)).mono ?_; rintro e w' ⟨rfl, rfl⟩)
          go_roundw
          case rel =>
            refine ⟨k + 1, (x + 0 + c0) / 4294967296, l.set k ((x + 0 + c0) % 4294967296), by omega, by go_num, by go_num, by omega, by simpa using Hll.out, hblk.setI _ _ (by omega), hdl.set (by omega) _, ?_, hx.setCell _ _ (Nat.le_refl _)⟩
            rw [nv_take_set (by have := Hll.out; omega), nv_take_dg, nv_take_dg, Hx.out, Hy.out, bp_succ]
            exact add_step Hv.out
          case measure => simp [intOf]; omega
      · obtain rfl : k = ds.length := by omega
        have Hll := Lib.hid hll; clear hll
        go_wp2
        go_ret
        have hll := Hll.out
        have hb := hblk.setI ds.length c0 (z := (c0 : Int)) rfl
        have hnv : nv (l.set ds.length c0) = nv es + nv ds := by
          have h1 := nv_take_set (l := l) (k := ds.length) (d := c0) (by omega)
          rw [List.take_of_length_le (by simp; omega)] at h1
          rw [h1, Nat.mul_comm, hval, List.take_of_length_le (Nat.le_refl _), List.take_of_length_le (by omega)]
          omega
        refine Gives.mk ⟨l.set ds.length c0, ?_, by omega, by simp [hll]; omega⟩ (hx.setCell _ _ (Nat.le_refl _))
        have hq := hb.digv (hdl.set (by omega) _) (c := ds.length + 1) (by simp [hll]) (by omega)
        rw [List.length_set, hll] at hq
        exact hq
theorem sub_step (L X Y p : Nat) (b x y : Nat) (hx : x < 4294967296) (hy : y < 4294967296) (hb : b ≤ 1) (h : L + Y = X + b * p) :
    L + p * ((x + 4294967296 - y - b) % 4294967296) + (Y + p * y) = X + p * x + (if x < y + b then 1 else 0) * (4294967296 * p) := by
  have e : (x + 4294967296 - y - b) % 4294967296 + y + b = x + (if x < y + b then 1 else 0) * 4294967296 := by
    by_cases hc : x < y + b
    · rw [if_pos hc]; omega
    · rw [if_neg hc]; omega
  generalize (x + 4294967296 - y - b) % 4294967296 = r at *
  generalize (if x < y + b then 1 else 0) = q at *
  have e2 : p * (r + y + b) = p * (x + q * 4294967296) := by rw [e]
  grind
set_option maxHeartbeats 1000000 in
theorem less_any (v u : Value) (ds es : List Nat) (w : World) (hv : DigV w v ds) (hu : DigV w u es) (hn : ds.length ≤ 4398046511104) (hle : es.length ≤ ds.length) (hge : nv es ≤ nv ds) :
    Calls Tryz.prog 132 #[v, u] w (Gives w fun r w' => ∃ l, DigV w' r l ∧ nv l = nv ds - nv es ∧ l.length = ds.length) := by
  obtain ⟨A, p1, rfl, hl, hc, hA⟩ := hv
  obtain ⟨E, p2, rfl, hl', hc', hE⟩ := hu
  have hmk := fun W => make_u32 ds.length (ds.length : Int) (by omega) (by omega) W
  go_enter Tryz.func132, Tryz.ntmps132
  go_wp2
  go_loopw [6, 15] (fun cv iv wr => ∃ (k c0 : Nat) (l : List Nat), k ≤ ds.length ∧ iv = .int .i64 k ∧ cv = .int .u32 c0 ∧ c0 ≤ 1 ∧ l.length = ds.length ∧ DBlk wr w.heap.size 112 l ∧ Digs l ∧ nv (l.take k) + nv (es.take k) = nv (ds.take k) + c0 * bp k ∧ Ext w wr) (fun _ iv _ => ds.length - (intOf iv).toNat)
  case atStart => exact ⟨0, 0, _, Nat.zero_le _, rfl, rfl, Nat.zero_le _, List.length_replicate, DBlk.new _ _ _, Digs.zeros _, by simp [nv_nil], (Ext.refl w).alloc _⟩
  case round =>
    obtain ⟨k, c0, l, hk, rfl, rfl, hc0, hll, hblk, hdl, hval, hx⟩ := hrel
    have hfz := hblk.frozen k
    by_cases hkl : k < ds.length
    · have hcl := hblk.celld (i := k) (by omega)
      obtain ⟨a, rfl, hca⟩ := dig_at hA hkl
      have hca := hx.cell hca
      have x1 := dg_bound hA.1 k
      have y1 := dg_bound hE.1 k
      generalize hxx : dg ds k = x at *
      generalize hyy : dg es k = y at *
      have Hx := Lib.hid hxx; clear hxx
      have Hy := Lib.hid hyy; clear hyy
      have Hv := Lib.hid hval; clear hval
      have Hll := Lib.hid hll; clear hll
      have fin : ∀ z, z = y → nv ((l.set k ((x + 4294967296 - z - c0) % 4294967296)).take (k + 1)) + nv (es.take (k + 1)) = nv (ds.take (k + 1)) + (if x < z + c0 then 1 else 0) * bp (k + 1) := by
        rintro z rfl
        rw [nv_take_set (by have := Hll.out; omega), nv_take_dg, nv_take_dg, Hx.out, Hy.out, bp_succ]
        exact sub_step _ _ _ _ _ _ _ x1 y1 hc0 Hv.out
      have Hfin := Lib.hid fin; clear fin
      by_cases hke : k < es.length
      · obtain ⟨b, rfl, hcb⟩ := dig_at hE hke
        rw [Hy.out] at hcb
        have hcb := hx.cell hcb
        have hbm := bor_mem x y c0
        go_wp2_with (go_at_call 144; refine (sub32_any _ _ _ _ (by omega) (by omega) (by omega) (by omega) (by omega) (by omega)).mono ?_; rintro e w' ⟨rfl, rfl⟩)
        go_roundw
        case rel =>
          refine ⟨k + 1, if x < y + c0 then 1 else 0, l.set k ((x + 4294967296 - y - c0) % 4294967296), by omega, by go_num, ?_, by split <;> omega, by simpa using Hll.out, hblk.setI _ _ (by omega), hdl.set (by omega) _, Hfin.out y rfl, hx.setCell _ _ (Nat.le_refl _)⟩
          unfold bor; split <;> split <;> first | rfl | omega
        case measure => simp [intOf]; omega
      · obtain rfl : y = 0 := by rw [← Hy.out]; exact dg_ge (by omega)
        have hbm := bor_mem x 0 c0
        go_wp2_with (go_at_call 144; refine (sub32_any _ _ _ _ (by omega) (by omega) (by omega) (by omega) (by omega) (by omega)).mono ?_; rintro e w' ⟨rfl, rfl⟩)
        go_roundw
        case rel =>
          refine ⟨k + 1, if x < 0 + c0 then 1 else 0, l.set k ((x + 4294967296 - 0 - c0) % 4294967296), by omega, by go_num, ?_, by split <;> omega, by simpa using Hll.out, hblk.setI _ _ (by omega), hdl.set (by omega) _, Hfin.out 0 rfl, hx.setCell _ _ (Nat.le_refl _)⟩
          unfold bor; split <;> split <;> first | rfl | omega
        case measure => simp [intOf]; omega
    · obtain rfl : k = ds.length := by omega
      have Hll := Lib.hid hll; clear hll
      go_wp2
      go_ret
      have hll := Hll.out
      rw [List.take_of_length_le (by omega), List.take_of_length_le hle, List.take_of_length_le (Nat.le_refl _)] at hval
      have hb := nv_lt hdl
      have hc00 : c0 = 0 := by
        rcases Nat.eq_zero_or_pos c0 with h | h
        · exact h
        · obtain rfl : c0 = 1 := by omega
          rw [hll] at hb
          omega
      subst hc00
      refine Gives.mk ⟨l, ?_, by omega, hll⟩ hx
      have hq := hblk.digv hdl (c := ds.length) (by omega) (by omega)
      rw [hll] at hq
      exact hq
theorem dblk_lit1 {w : World} {g : Nat} {t : TypeId} {a : Nat} (h : w.heap[g]? = some (.cells #[.int .u32 (a : Nat)] t (0, 0))) : DBlk w g t [a] := h
theorem dblk_lit2 {w : World} {g : Nat} {t : TypeId} {a b : Nat} (h : w.heap[g]? = some (.cells #[.int .u32 (a : Nat), .int .u32 (b : Nat)] t (0, 0))) : DBlk w g t [a, b] := h
set_option maxHeartbeats 400000 in
theorem wide_any (n : Nat) (x : Int) (hxn : x = n) (w : World) (hn : n < 18446744073709551616) :
    Calls Tryz.prog 108 #[.int .u64 x] w (Gives w fun r w' => ∃ l, DigV w' r l ∧ nv l = n ∧ Top l ∧ l.length ≤ 2) := by
  have h0 : 0 ≤ x := by omega
  have h1 : x < 18446744073709551616 := by omega
  have Hx := Lib.hid hxn; clear hxn
  by_cases c0 : x = 0
  · subst c0
    go_enter Tryz.func108, Tryz.ntmps108
    go_wp2
    go_ret
    refine Gives.mk ⟨[], ⟨none, 0, rfl, by simp, by omega, Digs.nil, fun h => by simp at h⟩, ?_, Top.nil, by simp⟩ (Ext.refl _)
    have := Hx.out
    simp only [nv_nil]; omega
  · have b0 : (x == 0) = false := by simpa using c0
    have Hc := Lib.hid c0; clear c0
    by_cases c1 : x < 4294967296
    · go_enter Tryz.func108, Tryz.ntmps108
      go_wp2
      go_ret
      have hx := Hx.out; have hc := Hc.out
      refine Gives.mk ⟨[n], ?_, by simp [nv_cons, nv_nil], ?_, by simp⟩ ((Ext.refl _).alloc _)
      · have hb : DBlk (w.alloc (.cells #[.int .u32 x] 112)) w.heap.size 112 [n] := by
          rw [hx]; exact dblk_lit1 (heap_alloc_new w _)
        exact hb.digv (Digs.cons (by omega) Digs.nil) (c := 1) (by simp) (by omega)
      · intro _; simp; omega
    · go_enter Tryz.func108, Tryz.ntmps108
      go_wp2
      go_ret
      have hx := Hx.out
      refine Gives.mk ⟨[n % 4294967296, n / 4294967296], ?_, by simp [nv_cons, nv_nil]; omega, ?_, by simp⟩ ((Ext.refl _).alloc _)
      · have hb : DBlk (w.alloc (.cells #[.int .u32 (x % 4294967296), .int .u32 (x / 4294967296)] 112)) w.heap.size 112 [n % 4294967296, n / 4294967296] := by
          have e : x % 4294967296 = ((n % 4294967296 : Nat) : Int) := by omega
          have e' : x / 4294967296 = ((n / 4294967296 : Nat) : Int) := by omega
          rw [e, e']; exact dblk_lit2 (heap_alloc_new w _)
        exact hb.digv (Digs.cons (by omega) (Digs.cons (by omega) Digs.nil)) (c := 2) (by simp) (by omega)
      · intro _; simp; omega
theorem or_shift' (h l : Int) (hh : 0 ≤ h) (hh' : h < 4294967296) (hl : 0 ≤ l) (hl' : l < 4294967296) : bits .or .u64 (h * 4294967296) l = l + 4294967296 * h := by rw [or_shift h l hh hh' hl hl']; omega
set_option maxHeartbeats 400000 in
theorem word_any (v : Value) (ds : List Nat) (w : World) (hv : DigV w v ds) (hl : ds.length ≤ 2) :
    Calls Tryz.prog 133 #[v] w (Gives w fun r _ => r = .int .u64 (nv ds : Nat)) := by
  obtain ⟨A, c, rfl, hlc, hc, hd, hA⟩ := hv
  match ds, hl, hlc, hd, hA with
  | [], _, hlc, hd, hA =>
    clear hd hA
    go_enter Tryz.func133, Tryz.ntmps133
    go_wp2
    go_ret
    exact Gives.mk rfl (Ext.refl _)
  | [a], _, hlc, hd, hA =>
    obtain ⟨p, rfl, hcell⟩ := hA (by simp)
    have c0 : w.cell? p = some (.int .u32 (a : Nat)) := hcell 0 (by simp)
    have ha := hd a (by simp)
    clear hcell hA hd
    go_enter Tryz.func133, Tryz.ntmps133
    go_wp2
    go_ret
    refine Gives.mk ?_ (Ext.refl _)
    simp [nv_cons, nv_nil]
  | [a, b], _, hlc, hd, hA =>
    obtain ⟨p, rfl, hcell⟩ := hA (by simp)
    have c0 : w.cell? p = some (.int .u32 (a : Nat)) := hcell 0 (by simp)
    have c1 : w.cell? ⟨p.block, p.off + 1, none⟩ = some (.int .u32 (b : Nat)) := hcell 1 (by simp)
    have ha := hd a (by simp)
    have hb := hd b (by simp)
    have ho := or_shift' b a (by omega) (by omega) (by omega) (by omega)
    clear hcell hA hd
    go_enter Tryz.func133, Tryz.ntmps133
    go_wp2
    refine wp_region_par (k := 9) (D := [13, 14, 15, 16, 17, 18, 19, 20, 21]) (T := [[], [0], [0, 1], [0, 1, 2], [0, 1, 2, 3], [], [5], [5, 6], [5, 6, 7], [0, 1, 2, 3, 4, 5, 6, 7, 8], [0, 1, 2, 3, 4, 5, 6, 7, 8, 9]]) (EK := [0]) (EV := [?e1x0]) (VL := [(kv ?v1x0), (kv ?v1x1), (kv ?v1x2), (kv ?v1x3), (kv ?v1x4), (kv ?v1x5), (kv ?v1x6), (kv ?v1x7), (kv ?v1x8)]) (FL := fun γ w' => [True, True, True, True, True, True, True, True, True]) ?hE1 (by kernel_rfl) (by kernel_rfl) (by rfl) (by kernel_rfl) ?hloc1 ?hmono1 ?hstep1 ?htail1
    case hE1 => refine ⟨?_, trivial⟩ <;> (simp only [List.getElem?_toArray, List.getElem?_cons_succ, List.getElem?_cons_zero]; rfl)
    case hstep1 =>
      refine ⟨⟨⟨⟨⟨⟨⟨⟨⟨trivial, ?_⟩, ?_⟩, ?_⟩, ?_⟩, ?_⟩, ?_⟩, ?_⟩, ?_⟩, ?_⟩
      · intro γ w' he hf; clear hf; refine ⟨trivial, ?_⟩; intro R hR
        have hc := he.cells
        go_simp
        (try go_ints); (try (rw [if_neg (by omega)])); (try (rw [if_pos (by omega)])); (try go_simp); (try go_ints)
        refine hR _ _ (Ext.refl _) ?_ trivial
        rfl
      · intro γ w' he hf; clear hf; refine ⟨trivial, ?_⟩; intro R hR
        have hc := he.cells
        go_simp
        (try go_ints); (try (rw [if_neg (by omega)])); (try (rw [if_pos (by omega)])); (try go_simp); (try go_ints)
        refine hR _ _ (Ext.refl _) ?_ trivial
        rfl
      · intro γ w' he hf; clear hf; refine ⟨trivial, ?_⟩; intro R hR
        have hc := he.cells
        have cq0 := he.cell c0
        have cq1 := he.cell c1
        go_simp
        (try go_ints); (try (rw [if_neg (by omega)])); (try (rw [if_pos (by omega)])); (try go_simp); (try go_ints)
        refine hR _ _ (Ext.refl _) ?_ trivial
        rfl
      · intro γ w' he hf; clear hf; refine ⟨trivial, ?_⟩; intro R hR
        have hc := he.cells
        go_simp
        (try go_ints); (try (rw [if_neg (by omega)])); (try (rw [if_pos (by omega)])); (try go_simp); (try go_ints)
        refine hR _ _ (Ext.refl _) ?_ trivial
        rfl
      · intro γ w' he hf; clear hf; refine ⟨trivial, ?_⟩; intro R hR
        have hc := he.cells
        go_simp
        (try go_ints); (try (rw [if_neg (by omega)])); (try (rw [if_pos (by omega)])); (try go_simp); (try go_ints)
        refine hR _ _ (Ext.refl _) ?_ trivial
        rfl
      · intro γ w' he hf; clear hf; refine ⟨trivial, ?_⟩; intro R hR
        have hc := he.cells
        go_simp
        (try go_ints); (try (rw [if_neg (by omega)])); (try (rw [if_pos (by omega)])); (try go_simp); (try go_ints)
        refine hR _ _ (Ext.refl _) ?_ trivial
        rfl
      · intro γ w' he hf; clear hf; refine ⟨trivial, ?_⟩; intro R hR
        have hc := he.cells
        go_simp
        (try go_ints); (try (rw [if_neg (by omega)])); (try (rw [if_pos (by omega)])); (try go_simp); (try go_ints)
        refine hR _ _ (Ext.refl _) ?_ trivial
        rfl
      · intro γ w' he hf; clear hf; refine ⟨trivial, ?_⟩; intro R hR
        have hc := he.cells
        have cq0 := he.cell c0
        have cq1 := he.cell c1
        go_simp
        (try go_ints); (try (rw [if_neg (by omega)])); (try (rw [if_pos (by omega)])); (try go_simp); (try go_ints)
        refine hR _ _ (Ext.refl _) ?_ trivial
        rfl
      · intro γ w' he hf; clear hf; refine ⟨trivial, ?_⟩; intro R hR
        have hc := he.cells
        go_simp
        (try go_ints); (try (rw [if_neg (by omega)])); (try (rw [if_pos (by omega)])); (try go_simp); (try go_ints)
        refine hR _ _ (Ext.refl _) ?_ trivial
        rfl
    case hloc1 =>
      exact ⟨⟨⟨⟨⟨⟨⟨⟨⟨trivial, (fun γ γ' h => ⟨rfl, fun _ => rfl⟩)⟩, (fun γ γ' h => ⟨rfl, fun _ => rfl⟩)⟩, (fun γ γ' h => ⟨rfl, fun _ => rfl⟩)⟩, (fun γ γ' h => ⟨rfl, fun _ => rfl⟩)⟩, (fun γ γ' h => ⟨rfl, fun _ => rfl⟩)⟩, (fun γ γ' h => ⟨rfl, fun _ => rfl⟩)⟩, (fun γ γ' h => ⟨rfl, fun _ => rfl⟩)⟩, (fun γ γ' h => ⟨rfl, fun _ => rfl⟩)⟩, (fun γ γ' h => ⟨rfl, fun _ => rfl⟩)⟩
    case hmono1 =>
      exact ⟨⟨⟨⟨⟨⟨⟨⟨⟨trivial, (fun γ wA w' e h => h)⟩, (fun γ wA w' e h => h)⟩, (fun γ wA w' e h => h)⟩, (fun γ wA w' e h => h)⟩, (fun γ wA w' e h => h)⟩, (fun γ wA w' e h => h)⟩, (fun γ wA w' e h => h)⟩, (fun γ wA w' e h => h)⟩, (fun γ wA w' e h => h)⟩
    intro γ w1 hx1 hF
    clear hF
    simp only [fillAll, gV, kv, List.getD_cons_zero, List.getD_cons_succ, Act.put, List.setIfInBounds_toArray, List.set_cons_zero, List.set_cons_succ, List.toList_toArray, List.drop_succ_cons, List.drop_zero, List.drop_nil, Nat.zero_add, Nat.reduceAdd]
    clear γ
    go_wp2
    go_ret
    refine Gives.mk ?_ hx1
    simp [nv_cons, nv_nil]
/-- The sign of a comparison of two numbers. -/
def cmp (x y : Nat) : Int := ((x : Int) - y).sign
theorem cmp_lt {x y : Nat} (h : x < y) : cmp x y = -1 := Int.sign_eq_neg_one_of_neg (by omega)
theorem cmp_gt {x y : Nat} (h : y < x) : cmp x y = 1 := Int.sign_eq_one_of_pos (by omega)
theorem cmp_eq {x y : Nat} (h : x = y) : cmp x y = 0 := by subst h; unfold cmp; rw [Int.sub_self]; rfl
/-- The greatest digit that differs decides. -/
theorem top_differs {ds es : List Nat} (hd : Digs ds) (he : Digs es) {k : Nat} (hk : k < ds.length) (hk' : k < es.length) (h : nv (ds.drop (k + 1)) = nv (es.drop (k + 1))) (hlt : dg ds k < dg es k) : nv ds < nv es := by
  have h1 := nv_split ds k (by omega)
  have h2 := nv_split es k (by omega)
  rw [nv_drop hk] at h1
  rw [nv_drop hk'] at h2
  rw [dg_lt hk, dg_lt hk'] at hlt
  have l1 := nv_lt (hd.take k)
  rw [List.length_take, Nat.min_eq_left (by omega)] at l1
  rw [h1, h2, h]
  have : bp k * (ds[k] + 1 + 4294967296 * nv (es.drop (k + 1))) ≤ bp k * (es[k] + 4294967296 * nv (es.drop (k + 1))) := Nat.mul_le_mul_left _ (by omega)
  generalize nv (es.drop (k + 1)) = M at *
  simp only [Nat.mul_add, Nat.mul_one] at this ⊢
  omega
set_option maxHeartbeats 1000000 in
theorem compare_any (v u : Value) (ds es : List Nat) (w : World) (hv : DigV w v ds) (hu : DigV w u es) (htd : Top ds) (hte : Top es) (hn : ds.length ≤ 4398046511104) (hm : es.length ≤ 4398046511104) :
    Calls Tryz.prog 137 #[v, u] w (Gives w fun r _ => r = .int .i64 (cmp (nv ds) (nv es))) := by
  obtain ⟨A, p1, rfl, hl, hc, hA⟩ := hv
  obtain ⟨E, p2, rfl, hl', hc', hE⟩ := hu
  by_cases hne : ds.length = es.length
  · have hb0 : ((ds.length : Int) != es.length) = false := by simp [hne]
    have Hne := Lib.hid hne; clear hne
    have hle : es.length ≤ ds.length := by have := Hne.out; omega
    go_enter Tryz.func137, Tryz.ntmps137
    go_wp2
    go_loopw [5] (fun iv wr => ∃ k : Nat, k ≤ ds.length ∧ (∃ q : Int, q + 1 = k ∧ iv = .int .i64 q) ∧ nv (ds.drop k) = nv (es.drop k) ∧ Ext w wr) (fun iv _ => (intOf iv + 1).toNat)
    case atStart => exact ⟨ds.length, Nat.le_refl _, ⟨_, by omega, rfl⟩, by rw [List.drop_length, List.drop_of_length_le hle], Ext.refl _⟩
    case round =>
      obtain ⟨k, hk, ⟨q, hq, rfl⟩, hval, hx⟩ := hrel
      have Hv := Lib.hid hval; clear hval
      by_cases hk0 : 0 < k
      · obtain ⟨k, rfl⟩ : ∃ j, k = j + 1 := ⟨k - 1, by omega⟩
        obtain rfl : q = (k : Int) := by omega
        clear hq
        have hke : k < es.length := by have := Hne.out; omega
        obtain ⟨a, rfl, hca⟩ := dig_at hA (k := k) (by omega)
        obtain ⟨b, rfl, hcb⟩ := dig_at hE (k := k) hke
        replace hca := hx.cell hca
        replace hcb := hx.cell hcb
        have x1 := dg_bound hA.1 k
        have y1 := dg_bound hE.1 k
        generalize hxx : dg ds k = x at *
        generalize hyy : dg es k = y at *
        have Hx := Lib.hid hxx; clear hxx
        have Hy := Lib.hid hyy; clear hyy
        rcases Nat.lt_trichotomy x y with hlt | heq | hgt
        · have b1 : ((x : Int) != y) = true := by simp; omega
          have b2 : decide ((x : Int) < y) = true := by simp; omega
          go_wp2
          refine wp_region_par (k := 8) (D := [24, 25, 26, 27, 28, 29, 30, 31]) (T := [[], [], [0, 1], [0, 1, 2], [], [], [4, 5], [4, 5, 6], [0, 1, 2, 3, 4, 5, 6, 7]]) (EK := [0, 5, 1]) (EV := [?e2x0, ?e2x1, ?e2x2]) (VL := [(kv ?v2x0), (kv ?v2x1), (kv ?v2x2), (kv ?v2x3), (kv ?v2x4), (kv ?v2x5), (kv ?v2x6), (kv ?v2x7)]) (FL := fun γ w' => [True, True, True, True, True, True, True, True]) ?hE2 (by kernel_rfl) (by kernel_rfl) (by rfl) (by kernel_rfl) ?hloc2 ?hmono2 ?hstep2 ?htail2
          case hE2 => refine ⟨?_, ?_, ?_, trivial⟩ <;> (simp only [List.getElem?_toArray, List.getElem?_cons_succ, List.getElem?_cons_zero]; rfl)
          case hstep2 =>
            refine ⟨⟨⟨⟨⟨⟨⟨⟨trivial, ?_⟩, ?_⟩, ?_⟩, ?_⟩, ?_⟩, ?_⟩, ?_⟩, ?_⟩
            · intro γ w' he hf; clear hf; refine ⟨trivial, ?_⟩; intro R hR
              have hc := he.cells
              go_simp
              (try go_ints); (try (rw [if_neg (by omega)])); (try (rw [if_pos (by omega)])); (try go_simp); (try go_ints)
              refine hR _ _ (Ext.refl _) ?_ trivial
              rfl
            · intro γ w' he hf; clear hf; refine ⟨trivial, ?_⟩; intro R hR
              have hc := he.cells
              go_simp
              (try go_ints); (try (rw [if_neg (by omega)])); (try (rw [if_pos (by omega)])); (try go_simp); (try go_ints)
              refine hR _ _ (Ext.refl _) ?_ trivial
              rfl
            · intro γ w' he hf; clear hf; refine ⟨trivial, ?_⟩; intro R hR
              have hc := he.cells
              go_simp
              (try go_ints); (try (rw [if_neg (by omega)])); (try (rw [if_pos (by omega)])); (try go_simp); (try go_ints)
              refine hR _ _ (Ext.refl _) ?_ trivial
              rfl
            · intro γ w' he hf; clear hf; refine ⟨trivial, ?_⟩; intro R hR
              have hc := he.cells
              have cq0 := he.cell hca
              have cq1 := he.cell hcb
              go_simp
              (try go_ints); (try (rw [if_neg (by omega)])); (try (rw [if_pos (by omega)])); (try go_simp); (try go_ints)
              refine hR _ _ (Ext.refl _) ?_ trivial
              rfl
            · intro γ w' he hf; clear hf; refine ⟨trivial, ?_⟩; intro R hR
              have hc := he.cells
              go_simp
              (try go_ints); (try (rw [if_neg (by omega)])); (try (rw [if_pos (by omega)])); (try go_simp); (try go_ints)
              refine hR _ _ (Ext.refl _) ?_ trivial
              rfl
            · intro γ w' he hf; clear hf; refine ⟨trivial, ?_⟩; intro R hR
              have hc := he.cells
              go_simp
              (try go_ints); (try (rw [if_neg (by omega)])); (try (rw [if_pos (by omega)])); (try go_simp); (try go_ints)
              refine hR _ _ (Ext.refl _) ?_ trivial
              rfl
            · intro γ w' he hf; clear hf; refine ⟨trivial, ?_⟩; intro R hR
              have hc := he.cells
              go_simp
              (try go_ints); (try (rw [if_neg (by omega)])); (try (rw [if_pos (by omega)])); (try go_simp); (try go_ints)
              refine hR _ _ (Ext.refl _) ?_ trivial
              rfl
            · intro γ w' he hf; clear hf; refine ⟨trivial, ?_⟩; intro R hR
              have hc := he.cells
              have cq0 := he.cell hca
              have cq1 := he.cell hcb
              go_simp
              (try go_ints); (try (rw [if_neg (by omega)])); (try (rw [if_pos (by omega)])); (try go_simp); (try go_ints)
              refine hR _ _ (Ext.refl _) ?_ trivial
              rfl
          case hloc2 =>
            exact ⟨⟨⟨⟨⟨⟨⟨⟨trivial, (fun γ γ' h => ⟨rfl, fun _ => rfl⟩)⟩, (fun γ γ' h => ⟨rfl, fun _ => rfl⟩)⟩, (fun γ γ' h => ⟨rfl, fun _ => rfl⟩)⟩, (fun γ γ' h => ⟨rfl, fun _ => rfl⟩)⟩, (fun γ γ' h => ⟨rfl, fun _ => rfl⟩)⟩, (fun γ γ' h => ⟨rfl, fun _ => rfl⟩)⟩, (fun γ γ' h => ⟨rfl, fun _ => rfl⟩)⟩, (fun γ γ' h => ⟨rfl, fun _ => rfl⟩)⟩
          case hmono2 =>
            exact ⟨⟨⟨⟨⟨⟨⟨⟨trivial, (fun γ wA w' e h => h)⟩, (fun γ wA w' e h => h)⟩, (fun γ wA w' e h => h)⟩, (fun γ wA w' e h => h)⟩, (fun γ wA w' e h => h)⟩, (fun γ wA w' e h => h)⟩, (fun γ wA w' e h => h)⟩, (fun γ wA w' e h => h)⟩
          intro γ w1 hx1 hF
          clear hF
          simp only [fillAll, gV, kv, List.getD_cons_zero, List.getD_cons_succ, Act.put, List.setIfInBounds_toArray, List.set_cons_zero, List.set_cons_succ, List.toList_toArray, List.drop_succ_cons, List.drop_zero, List.drop_nil, Nat.zero_add, Nat.reduceAdd]
          clear γ
          replace hca := hx1.cell hca
          replace hcb := hx1.cell hcb
          go_wp2
          refine wp_region_par (k := 8) (D := [33, 34, 35, 36, 37, 38, 39, 40]) (T := [[], [], [0, 1], [0, 1, 2], [], [], [4, 5], [4, 5, 6], [0, 1, 2, 3, 4, 5, 6, 7]]) (EK := [0, 5, 1]) (EV := [?e3x0, ?e3x1, ?e3x2]) (VL := [(kv ?v3x0), (kv ?v3x1), (kv ?v3x2), (kv ?v3x3), (kv ?v3x4), (kv ?v3x5), (kv ?v3x6), (kv ?v3x7)]) (FL := fun γ w' => [True, True, True, True, True, True, True, True]) ?hE3 (by kernel_rfl) (by kernel_rfl) (by rfl) (by kernel_rfl) ?hloc3 ?hmono3 ?hstep3 ?htail3
          case hE3 => refine ⟨?_, ?_, ?_, trivial⟩ <;> (simp only [List.getElem?_toArray, List.getElem?_cons_succ, List.getElem?_cons_zero]; rfl)
          case hstep3 =>
            refine ⟨⟨⟨⟨⟨⟨⟨⟨trivial, ?_⟩, ?_⟩, ?_⟩, ?_⟩, ?_⟩, ?_⟩, ?_⟩, ?_⟩
            · intro γ w' he hf; clear hf; refine ⟨trivial, ?_⟩; intro R hR
              have hc := he.cells
              go_simp
              (try go_ints); (try (rw [if_neg (by omega)])); (try (rw [if_pos (by omega)])); (try go_simp); (try go_ints)
              refine hR _ _ (Ext.refl _) ?_ trivial
              rfl
            · intro γ w' he hf; clear hf; refine ⟨trivial, ?_⟩; intro R hR
              have hc := he.cells
              go_simp
              (try go_ints); (try (rw [if_neg (by omega)])); (try (rw [if_pos (by omega)])); (try go_simp); (try go_ints)
              refine hR _ _ (Ext.refl _) ?_ trivial
              rfl
            · intro γ w' he hf; clear hf; refine ⟨trivial, ?_⟩; intro R hR
              have hc := he.cells
              go_simp
              (try go_ints); (try (rw [if_neg (by omega)])); (try (rw [if_pos (by omega)])); (try go_simp); (try go_ints)
              refine hR _ _ (Ext.refl _) ?_ trivial
              rfl
            · intro γ w' he hf; clear hf; refine ⟨trivial, ?_⟩; intro R hR
              have hc := he.cells
              have cq0 := he.cell hca
              have cq1 := he.cell hcb
              go_simp
              (try go_ints); (try (rw [if_neg (by omega)])); (try (rw [if_pos (by omega)])); (try go_simp); (try go_ints)
              refine hR _ _ (Ext.refl _) ?_ trivial
              rfl
            · intro γ w' he hf; clear hf; refine ⟨trivial, ?_⟩; intro R hR
              have hc := he.cells
              go_simp
              (try go_ints); (try (rw [if_neg (by omega)])); (try (rw [if_pos (by omega)])); (try go_simp); (try go_ints)
              refine hR _ _ (Ext.refl _) ?_ trivial
              rfl
            · intro γ w' he hf; clear hf; refine ⟨trivial, ?_⟩; intro R hR
              have hc := he.cells
              go_simp
              (try go_ints); (try (rw [if_neg (by omega)])); (try (rw [if_pos (by omega)])); (try go_simp); (try go_ints)
              refine hR _ _ (Ext.refl _) ?_ trivial
              rfl
            · intro γ w' he hf; clear hf; refine ⟨trivial, ?_⟩; intro R hR
              have hc := he.cells
              go_simp
              (try go_ints); (try (rw [if_neg (by omega)])); (try (rw [if_pos (by omega)])); (try go_simp); (try go_ints)
              refine hR _ _ (Ext.refl _) ?_ trivial
              rfl
            · intro γ w' he hf; clear hf; refine ⟨trivial, ?_⟩; intro R hR
              have hc := he.cells
              have cq0 := he.cell hca
              have cq1 := he.cell hcb
              go_simp
              (try go_ints); (try (rw [if_neg (by omega)])); (try (rw [if_pos (by omega)])); (try go_simp); (try go_ints)
              refine hR _ _ (Ext.refl _) ?_ trivial
              rfl
          case hloc3 =>
            exact ⟨⟨⟨⟨⟨⟨⟨⟨trivial, (fun γ γ' h => ⟨rfl, fun _ => rfl⟩)⟩, (fun γ γ' h => ⟨rfl, fun _ => rfl⟩)⟩, (fun γ γ' h => ⟨rfl, fun _ => rfl⟩)⟩, (fun γ γ' h => ⟨rfl, fun _ => rfl⟩)⟩, (fun γ γ' h => ⟨rfl, fun _ => rfl⟩)⟩, (fun γ γ' h => ⟨rfl, fun _ => rfl⟩)⟩, (fun γ γ' h => ⟨rfl, fun _ => rfl⟩)⟩, (fun γ γ' h => ⟨rfl, fun _ => rfl⟩)⟩
          case hmono3 =>
            exact ⟨⟨⟨⟨⟨⟨⟨⟨trivial, (fun γ wA w' e h => h)⟩, (fun γ wA w' e h => h)⟩, (fun γ wA w' e h => h)⟩, (fun γ wA w' e h => h)⟩, (fun γ wA w' e h => h)⟩, (fun γ wA w' e h => h)⟩, (fun γ wA w' e h => h)⟩, (fun γ wA w' e h => h)⟩
          intro γ w2 hx2 hF
          clear hF
          simp only [fillAll, gV, kv, List.getD_cons_zero, List.getD_cons_succ, Act.put, List.setIfInBounds_toArray, List.set_cons_zero, List.set_cons_succ, List.toList_toArray, List.drop_succ_cons, List.drop_zero, List.drop_nil, Nat.zero_add, Nat.reduceAdd]
          clear γ
          go_wp2
          go_ret
          refine Gives.mk ?_ ((hx.trans hx1).trans hx2)
          rw [cmp_lt (top_differs hA.1 hE.1 (by omega) hke Hv.out (by rw [Hx.out, Hy.out]; exact hlt))]
          rfl
        · subst heq
          have b1 : ((x : Int) != x) = false := by simp
          go_wp2
          refine wp_region_par (k := 8) (D := [24, 25, 26, 27, 28, 29, 30, 31]) (T := [[], [], [0, 1], [0, 1, 2], [], [], [4, 5], [4, 5, 6], [0, 1, 2, 3, 4, 5, 6, 7]]) (EK := [0, 5, 1]) (EV := [?e4x0, ?e4x1, ?e4x2]) (VL := [(kv ?v4x0), (kv ?v4x1), (kv ?v4x2), (kv ?v4x3), (kv ?v4x4), (kv ?v4x5), (kv ?v4x6), (kv ?v4x7)]) (FL := fun γ w' => [True, True, True, True, True, True, True, True]) ?hE4 (by kernel_rfl) (by kernel_rfl) (by rfl) (by kernel_rfl) ?hloc4 ?hmono4 ?hstep4 ?htail4
          case hE4 => refine ⟨?_, ?_, ?_, trivial⟩ <;> (simp only [List.getElem?_toArray, List.getElem?_cons_succ, List.getElem?_cons_zero]; rfl)
          case hstep4 =>
            refine ⟨⟨⟨⟨⟨⟨⟨⟨trivial, ?_⟩, ?_⟩, ?_⟩, ?_⟩, ?_⟩, ?_⟩, ?_⟩, ?_⟩
            · intro γ w' he hf; clear hf; refine ⟨trivial, ?_⟩; intro R hR
              have hc := he.cells
              go_simp
              (try go_ints); (try (rw [if_neg (by omega)])); (try (rw [if_pos (by omega)])); (try go_simp); (try go_ints)
              refine hR _ _ (Ext.refl _) ?_ trivial
              rfl
            · intro γ w' he hf; clear hf; refine ⟨trivial, ?_⟩; intro R hR
              have hc := he.cells
              go_simp
              (try go_ints); (try (rw [if_neg (by omega)])); (try (rw [if_pos (by omega)])); (try go_simp); (try go_ints)
              refine hR _ _ (Ext.refl _) ?_ trivial
              rfl
            · intro γ w' he hf; clear hf; refine ⟨trivial, ?_⟩; intro R hR
              have hc := he.cells
              go_simp
              (try go_ints); (try (rw [if_neg (by omega)])); (try (rw [if_pos (by omega)])); (try go_simp); (try go_ints)
              refine hR _ _ (Ext.refl _) ?_ trivial
              rfl
            · intro γ w' he hf; clear hf; refine ⟨trivial, ?_⟩; intro R hR
              have hc := he.cells
              have cq0 := he.cell hca
              have cq1 := he.cell hcb
              go_simp
              (try go_ints); (try (rw [if_neg (by omega)])); (try (rw [if_pos (by omega)])); (try go_simp); (try go_ints)
              refine hR _ _ (Ext.refl _) ?_ trivial
              rfl
            · intro γ w' he hf; clear hf; refine ⟨trivial, ?_⟩; intro R hR
              have hc := he.cells
              go_simp
              (try go_ints); (try (rw [if_neg (by omega)])); (try (rw [if_pos (by omega)])); (try go_simp); (try go_ints)
              refine hR _ _ (Ext.refl _) ?_ trivial
              rfl
            · intro γ w' he hf; clear hf; refine ⟨trivial, ?_⟩; intro R hR
              have hc := he.cells
              go_simp
              (try go_ints); (try (rw [if_neg (by omega)])); (try (rw [if_pos (by omega)])); (try go_simp); (try go_ints)
              refine hR _ _ (Ext.refl _) ?_ trivial
              rfl
            · intro γ w' he hf; clear hf; refine ⟨trivial, ?_⟩; intro R hR
              have hc := he.cells
              go_simp
              (try go_ints); (try (rw [if_neg (by omega)])); (try (rw [if_pos (by omega)])); (try go_simp); (try go_ints)
              refine hR _ _ (Ext.refl _) ?_ trivial
              rfl
            · intro γ w' he hf; clear hf; refine ⟨trivial, ?_⟩; intro R hR
              have hc := he.cells
              have cq0 := he.cell hca
              have cq1 := he.cell hcb
              go_simp
              (try go_ints); (try (rw [if_neg (by omega)])); (try (rw [if_pos (by omega)])); (try go_simp); (try go_ints)
              refine hR _ _ (Ext.refl _) ?_ trivial
              rfl
          case hloc4 =>
            exact ⟨⟨⟨⟨⟨⟨⟨⟨trivial, (fun γ γ' h => ⟨rfl, fun _ => rfl⟩)⟩, (fun γ γ' h => ⟨rfl, fun _ => rfl⟩)⟩, (fun γ γ' h => ⟨rfl, fun _ => rfl⟩)⟩, (fun γ γ' h => ⟨rfl, fun _ => rfl⟩)⟩, (fun γ γ' h => ⟨rfl, fun _ => rfl⟩)⟩, (fun γ γ' h => ⟨rfl, fun _ => rfl⟩)⟩, (fun γ γ' h => ⟨rfl, fun _ => rfl⟩)⟩, (fun γ γ' h => ⟨rfl, fun _ => rfl⟩)⟩
          case hmono4 =>
            exact ⟨⟨⟨⟨⟨⟨⟨⟨trivial, (fun γ wA w' e h => h)⟩, (fun γ wA w' e h => h)⟩, (fun γ wA w' e h => h)⟩, (fun γ wA w' e h => h)⟩, (fun γ wA w' e h => h)⟩, (fun γ wA w' e h => h)⟩, (fun γ wA w' e h => h)⟩, (fun γ wA w' e h => h)⟩
          intro γ w1 hx1 hF
          clear hF
          simp only [fillAll, gV, kv, List.getD_cons_zero, List.getD_cons_succ, Act.put, List.setIfInBounds_toArray, List.set_cons_zero, List.set_cons_succ, List.toList_toArray, List.drop_succ_cons, List.drop_zero, List.drop_nil, Nat.zero_add, Nat.reduceAdd]
          clear γ
          go_wp2
          go_roundw
          case rel =>
            refine ⟨k, by omega, ⟨_, by omega, rfl⟩, ?_, hx.trans hx1⟩
            rw [nv_drop (by omega), nv_drop hke, ← dg_lt, ← dg_lt, Hx.out, Hy.out, Hv.out]
          case measure => simp [intOf] <;> omega
        · have b1 : ((x : Int) != y) = true := by simp; omega
          have b2 : decide ((x : Int) < y) = false := by simp; omega
          go_wp2
          refine wp_region_par (k := 8) (D := [24, 25, 26, 27, 28, 29, 30, 31]) (T := [[], [], [0, 1], [0, 1, 2], [], [], [4, 5], [4, 5, 6], [0, 1, 2, 3, 4, 5, 6, 7]]) (EK := [0, 5, 1]) (EV := [?e5x0, ?e5x1, ?e5x2]) (VL := [(kv ?v5x0), (kv ?v5x1), (kv ?v5x2), (kv ?v5x3), (kv ?v5x4), (kv ?v5x5), (kv ?v5x6), (kv ?v5x7)]) (FL := fun γ w' => [True, True, True, True, True, True, True, True]) ?hE5 (by kernel_rfl) (by kernel_rfl) (by rfl) (by kernel_rfl) ?hloc5 ?hmono5 ?hstep5 ?htail5
          case hE5 => refine ⟨?_, ?_, ?_, trivial⟩ <;> (simp only [List.getElem?_toArray, List.getElem?_cons_succ, List.getElem?_cons_zero]; rfl)
          case hstep5 =>
            refine ⟨⟨⟨⟨⟨⟨⟨⟨trivial, ?_⟩, ?_⟩, ?_⟩, ?_⟩, ?_⟩, ?_⟩, ?_⟩, ?_⟩
            · intro γ w' he hf; clear hf; refine ⟨trivial, ?_⟩; intro R hR
              have hc := he.cells
              go_simp
              (try go_ints); (try (rw [if_neg (by omega)])); (try (rw [if_pos (by omega)])); (try go_simp); (try go_ints)
              refine hR _ _ (Ext.refl _) ?_ trivial
              rfl
            · intro γ w' he hf; clear hf; refine ⟨trivial, ?_⟩; intro R hR
              have hc := he.cells
              go_simp
              (try go_ints); (try (rw [if_neg (by omega)])); (try (rw [if_pos (by omega)])); (try go_simp); (try go_ints)
              refine hR _ _ (Ext.refl _) ?_ trivial
              rfl
            · intro γ w' he hf; clear hf; refine ⟨trivial, ?_⟩; intro R hR
              have hc := he.cells
              go_simp
              (try go_ints); (try (rw [if_neg (by omega)])); (try (rw [if_pos (by omega)])); (try go_simp); (try go_ints)
              refine hR _ _ (Ext.refl _) ?_ trivial
              rfl
            · intro γ w' he hf; clear hf; refine ⟨trivial, ?_⟩; intro R hR
              have hc := he.cells
              have cq0 := he.cell hca
              have cq1 := he.cell hcb
              go_simp
              (try go_ints); (try (rw [if_neg (by omega)])); (try (rw [if_pos (by omega)])); (try go_simp); (try go_ints)
              refine hR _ _ (Ext.refl _) ?_ trivial
              rfl
            · intro γ w' he hf; clear hf; refine ⟨trivial, ?_⟩; intro R hR
              have hc := he.cells
              go_simp
              (try go_ints); (try (rw [if_neg (by omega)])); (try (rw [if_pos (by omega)])); (try go_simp); (try go_ints)
              refine hR _ _ (Ext.refl _) ?_ trivial
              rfl
            · intro γ w' he hf; clear hf; refine ⟨trivial, ?_⟩; intro R hR
              have hc := he.cells
              go_simp
              (try go_ints); (try (rw [if_neg (by omega)])); (try (rw [if_pos (by omega)])); (try go_simp); (try go_ints)
              refine hR _ _ (Ext.refl _) ?_ trivial
              rfl
            · intro γ w' he hf; clear hf; refine ⟨trivial, ?_⟩; intro R hR
              have hc := he.cells
              go_simp
              (try go_ints); (try (rw [if_neg (by omega)])); (try (rw [if_pos (by omega)])); (try go_simp); (try go_ints)
              refine hR _ _ (Ext.refl _) ?_ trivial
              rfl
            · intro γ w' he hf; clear hf; refine ⟨trivial, ?_⟩; intro R hR
              have hc := he.cells
              have cq0 := he.cell hca
              have cq1 := he.cell hcb
              go_simp
              (try go_ints); (try (rw [if_neg (by omega)])); (try (rw [if_pos (by omega)])); (try go_simp); (try go_ints)
              refine hR _ _ (Ext.refl _) ?_ trivial
              rfl
          case hloc5 =>
            exact ⟨⟨⟨⟨⟨⟨⟨⟨trivial, (fun γ γ' h => ⟨rfl, fun _ => rfl⟩)⟩, (fun γ γ' h => ⟨rfl, fun _ => rfl⟩)⟩, (fun γ γ' h => ⟨rfl, fun _ => rfl⟩)⟩, (fun γ γ' h => ⟨rfl, fun _ => rfl⟩)⟩, (fun γ γ' h => ⟨rfl, fun _ => rfl⟩)⟩, (fun γ γ' h => ⟨rfl, fun _ => rfl⟩)⟩, (fun γ γ' h => ⟨rfl, fun _ => rfl⟩)⟩, (fun γ γ' h => ⟨rfl, fun _ => rfl⟩)⟩
          case hmono5 =>
            exact ⟨⟨⟨⟨⟨⟨⟨⟨trivial, (fun γ wA w' e h => h)⟩, (fun γ wA w' e h => h)⟩, (fun γ wA w' e h => h)⟩, (fun γ wA w' e h => h)⟩, (fun γ wA w' e h => h)⟩, (fun γ wA w' e h => h)⟩, (fun γ wA w' e h => h)⟩, (fun γ wA w' e h => h)⟩
          intro γ w1 hx1 hF
          clear hF
          simp only [fillAll, gV, kv, List.getD_cons_zero, List.getD_cons_succ, Act.put, List.setIfInBounds_toArray, List.set_cons_zero, List.set_cons_succ, List.toList_toArray, List.drop_succ_cons, List.drop_zero, List.drop_nil, Nat.zero_add, Nat.reduceAdd]
          clear γ
          replace hca := hx1.cell hca
          replace hcb := hx1.cell hcb
          go_wp2
          refine wp_region_par (k := 8) (D := [33, 34, 35, 36, 37, 38, 39, 40]) (T := [[], [], [0, 1], [0, 1, 2], [], [], [4, 5], [4, 5, 6], [0, 1, 2, 3, 4, 5, 6, 7]]) (EK := [0, 5, 1]) (EV := [?e6x0, ?e6x1, ?e6x2]) (VL := [(kv ?v6x0), (kv ?v6x1), (kv ?v6x2), (kv ?v6x3), (kv ?v6x4), (kv ?v6x5), (kv ?v6x6), (kv ?v6x7)]) (FL := fun γ w' => [True, True, True, True, True, True, True, True]) ?hE6 (by kernel_rfl) (by kernel_rfl) (by rfl) (by kernel_rfl) ?hloc6 ?hmono6 ?hstep6 ?htail6
          case hE6 => refine ⟨?_, ?_, ?_, trivial⟩ <;> (simp only [List.getElem?_toArray, List.getElem?_cons_succ, List.getElem?_cons_zero]; rfl)
          case hstep6 =>
            refine ⟨⟨⟨⟨⟨⟨⟨⟨trivial, ?_⟩, ?_⟩, ?_⟩, ?_⟩, ?_⟩, ?_⟩, ?_⟩, ?_⟩
            · intro γ w' he hf; clear hf; refine ⟨trivial, ?_⟩; intro R hR
              have hc := he.cells
              go_simp
              (try go_ints); (try (rw [if_neg (by omega)])); (try (rw [if_pos (by omega)])); (try go_simp); (try go_ints)
              refine hR _ _ (Ext.refl _) ?_ trivial
              rfl
            · intro γ w' he hf; clear hf; refine ⟨trivial, ?_⟩; intro R hR
              have hc := he.cells
              go_simp
              (try go_ints); (try (rw [if_neg (by omega)])); (try (rw [if_pos (by omega)])); (try go_simp); (try go_ints)
              refine hR _ _ (Ext.refl _) ?_ trivial
              rfl
            · intro γ w' he hf; clear hf; refine ⟨trivial, ?_⟩; intro R hR
              have hc := he.cells
              go_simp
              (try go_ints); (try (rw [if_neg (by omega)])); (try (rw [if_pos (by omega)])); (try go_simp); (try go_ints)
              refine hR _ _ (Ext.refl _) ?_ trivial
              rfl
            · intro γ w' he hf; clear hf; refine ⟨trivial, ?_⟩; intro R hR
              have hc := he.cells
              have cq0 := he.cell hca
              have cq1 := he.cell hcb
              go_simp
              (try go_ints); (try (rw [if_neg (by omega)])); (try (rw [if_pos (by omega)])); (try go_simp); (try go_ints)
              refine hR _ _ (Ext.refl _) ?_ trivial
              rfl
            · intro γ w' he hf; clear hf; refine ⟨trivial, ?_⟩; intro R hR
              have hc := he.cells
              go_simp
              (try go_ints); (try (rw [if_neg (by omega)])); (try (rw [if_pos (by omega)])); (try go_simp); (try go_ints)
              refine hR _ _ (Ext.refl _) ?_ trivial
              rfl
            · intro γ w' he hf; clear hf; refine ⟨trivial, ?_⟩; intro R hR
              have hc := he.cells
              go_simp
              (try go_ints); (try (rw [if_neg (by omega)])); (try (rw [if_pos (by omega)])); (try go_simp); (try go_ints)
              refine hR _ _ (Ext.refl _) ?_ trivial
              rfl
            · intro γ w' he hf; clear hf; refine ⟨trivial, ?_⟩; intro R hR
              have hc := he.cells
              go_simp
              (try go_ints); (try (rw [if_neg (by omega)])); (try (rw [if_pos (by omega)])); (try go_simp); (try go_ints)
              refine hR _ _ (Ext.refl _) ?_ trivial
              rfl
            · intro γ w' he hf; clear hf; refine ⟨trivial, ?_⟩; intro R hR
              have hc := he.cells
              have cq0 := he.cell hca
              have cq1 := he.cell hcb
              go_simp
              (try go_ints); (try (rw [if_neg (by omega)])); (try (rw [if_pos (by omega)])); (try go_simp); (try go_ints)
              refine hR _ _ (Ext.refl _) ?_ trivial
              rfl
          case hloc6 =>
            exact ⟨⟨⟨⟨⟨⟨⟨⟨trivial, (fun γ γ' h => ⟨rfl, fun _ => rfl⟩)⟩, (fun γ γ' h => ⟨rfl, fun _ => rfl⟩)⟩, (fun γ γ' h => ⟨rfl, fun _ => rfl⟩)⟩, (fun γ γ' h => ⟨rfl, fun _ => rfl⟩)⟩, (fun γ γ' h => ⟨rfl, fun _ => rfl⟩)⟩, (fun γ γ' h => ⟨rfl, fun _ => rfl⟩)⟩, (fun γ γ' h => ⟨rfl, fun _ => rfl⟩)⟩, (fun γ γ' h => ⟨rfl, fun _ => rfl⟩)⟩
          case hmono6 =>
            exact ⟨⟨⟨⟨⟨⟨⟨⟨trivial, (fun γ wA w' e h => h)⟩, (fun γ wA w' e h => h)⟩, (fun γ wA w' e h => h)⟩, (fun γ wA w' e h => h)⟩, (fun γ wA w' e h => h)⟩, (fun γ wA w' e h => h)⟩, (fun γ wA w' e h => h)⟩, (fun γ wA w' e h => h)⟩
          intro γ w2 hx2 hF
          clear hF
          simp only [fillAll, gV, kv, List.getD_cons_zero, List.getD_cons_succ, Act.put, List.setIfInBounds_toArray, List.set_cons_zero, List.set_cons_succ, List.toList_toArray, List.drop_succ_cons, List.drop_zero, List.drop_nil, Nat.zero_add, Nat.reduceAdd]
          clear γ
          go_wp2
          go_ret
          refine Gives.mk ?_ ((hx.trans hx1).trans hx2)
          rw [cmp_gt (top_differs hE.1 hA.1 hke (by omega) Hv.out.symm (by rw [Hx.out, Hy.out]; exact hgt))]
          rfl
      · obtain rfl : k = 0 := by omega
        have q1 : q < 0 := by omega
        have Hq := Lib.hid hq; clear hq
        go_wp2
        go_ret
        refine Gives.mk ?_ hx
        rw [cmp_eq (by simpa using Hv.out)]
        rfl
  · have hb0 : ((ds.length : Int) != es.length) = true := by simp; omega
    go_enter Tryz.func137, Tryz.ntmps137
    go_wp2_with (go_at_call 147; refine (sign_any _ _ (by omega) (by omega)).mono ?_; rintro e w' ⟨rfl, rfl⟩)
    go_ret
    refine Gives.mk ?_ (Ext.refl _)
    rcases Nat.lt_or_ge ds.length es.length with h | h
    · rw [cmp_lt (top_len_lt hA.1 hte h)]
      exact congrArg (Value.int .i64) (Int.sign_eq_neg_one_of_neg (by omega))
    · rw [cmp_gt (top_len_lt hE.1 htd (by omega))]
      exact congrArg (Value.int .i64) (Int.sign_eq_one_of_pos (by omega))
end Go.Proofs.YtedoifjbgokmcaaGreat
namespace Go.Proofs.YtedoifjbgokmcaaGreat
open Go.RowKit Go.Hp
theorem nv_set {l : List Nat} {p d : Nat} (hp : p < l.length) : nv (l.set p d) + bp p * dg l p = nv l + bp p * d := by
  have hp' : p < (l.set p d).length := by simpa using hp
  have h1 := nv_split l p (by omega)
  have h2 := nv_split (l.set p d) p (by omega)
  rw [nv_drop hp] at h1
  rw [nv_drop hp'] at h2
  rw [dg_lt hp, h1, h2]
  simp only [List.take_set_of_le (Nat.le_refl p), List.getElem_set_self, List.drop_set_of_lt (Nat.lt_succ_self p)]
  grind
theorem dg_set_ne {l : List Nat} {p q d : Nat} (h : q ≠ p) : dg (l.set p d) q = dg l q := by
  unfold dg
  rw [List.getD_eq_getElem?_getD, List.getD_eq_getElem?_getD, List.getElem?_set_ne (by omega)]
/-- One step of a row of the product. -/
theorem mul_step {M M' N pi pj E x y z c : Nat} (hM : M' + (pi * pj) * z = M + (pi * pj) * ((x * y + z + c) % 4294967296)) (h : M + c * (pi * pj) = N + x * pi * E) :
    M' + (x * y + z + c) / 4294967296 * (pi * (4294967296 * pj)) = N + x * pi * (E + pj * y) := by
  have e : (x * y + z + c) % 4294967296 + 4294967296 * ((x * y + z + c) / 4294967296) = x * y + z + c := Nat.mod_add_div _ _
  generalize (x * y + z + c) % 4294967296 = r at *
  generalize (x * y + z + c) / 4294967296 = q at *
  grind
set_option maxHeartbeats 2000000 in
theorem times_any (v u : Value) (ds es : List Nat) (w : World) (hv : DigV w v ds) (hu : DigV w u es) (hn : ds.length ≤ 4398046511104) (hm : es.length ≤ 4398046511104) :
    Calls Tryz.prog 112 #[v, u] w (Gives w fun r w' => ∃ l, DigV w' r l ∧ nv l = nv ds * nv es ∧ l.length ≤ ds.length + es.length) := by
  obtain ⟨A, p1, rfl, hl, hc, hA⟩ := hv
  obtain ⟨E, p2, rfl, hl', hc', hE⟩ := hu
  by_cases h0 : ds.length = 0
  · obtain rfl := List.eq_nil_of_length_eq_zero h0
    clear hA hE
    go_enter Tryz.func112, Tryz.ntmps112
    go_wp2
    go_ret
    exact Gives.mk ⟨[], ⟨none, 0, rfl, by simp, by omega, Digs.nil, fun h => by simp at h⟩, by simp [nv_nil], by simp⟩ (Ext.refl _)
  by_cases h1 : es.length = 0
  · have b0 : ((ds.length : Int) == 0) = false := by simpa using h0
    obtain rfl := List.eq_nil_of_length_eq_zero h1
    clear hA hE
    go_enter Tryz.func112, Tryz.ntmps112
    go_wp2
    go_ret
    exact Gives.mk ⟨[], ⟨none, 0, rfl, by simp, by omega, Digs.nil, fun h => by simp at h⟩, by simp [nv_nil], by simp⟩ (Ext.refl _)
  have b0 : ((ds.length : Int) == 0) = false := by simpa using h0
  have b1 : ((es.length : Int) == 0) = false := by simpa using h1
  by_cases h2 : ds.length = 1 ∧ es.length = 1
  · obtain ⟨h2, h3⟩ := h2
    match ds, es, h2, h3, hA, hE, b0, b1, hl, hl' with
    | [x], [y], _, _, hA, hE, b0, b1, hl, hl' =>
      clear b0 b1
      obtain ⟨a, rfl, hca⟩ := dig_at hA (k := 0) (by simp)
      obtain ⟨b, rfl, hcb⟩ := dig_at hE (k := 0) (by simp)
      replace hca : w.cell? a = some (.int .u32 (x : Nat)) := hca
      replace hcb : w.cell? b = some (.int .u32 (y : Nat)) := hcb
      have hx : x < 4294967296 := hA.1 x (by simp)
      have hy : y < 4294967296 := hE.1 y (by simp)
      have hxy : x * y ≤ 4294967295 * 4294967295 := Nat.mul_le_mul (by omega) (by omega)
      have hxy2 : x * y < 18446744073709551616 := Nat.lt_of_le_of_lt hxy (by decide)
      have k1 : (0 : Int) ≤ (x : Int) * y := by rw [← Int.natCast_mul]; omega
      have k2 : (x : Int) * y < 18446744073709551616 := by rw [← Int.natCast_mul]; omega
      clear hxy
      clear hA hE
      go_enter Tryz.func112, Tryz.ntmps112
      go_wp2
      refine wp_region_par (k := 8) (D := [28, 29, 30, 31, 32, 33, 34, 35]) (T := [[], [0], [0, 1], [0, 1, 2], [], [4], [4, 5], [4, 5, 6], [0, 1, 2, 3, 4, 5, 6, 7], [0, 1, 2, 3, 4, 5, 6, 7, 8], [0, 1, 2, 3, 4, 5, 6, 7, 8, 9]]) (EK := [0, 1]) (EV := [?e1x0, ?e1x1]) (VL := [(kv ?v1x0), (kv ?v1x1), (kv ?v1x2), (kv ?v1x3), (kv ?v1x4), (kv ?v1x5), (kv ?v1x6), (kv ?v1x7)]) (FL := fun γ w' => [True, True, True, True, True, True, True, True]) ?hE1 (by kernel_rfl) (by kernel_rfl) (by rfl) (by kernel_rfl) ?hloc1 ?hmono1 ?hstep1 ?htail1
      case hE1 => refine ⟨?_, ?_, trivial⟩ <;> (simp only [List.getElem?_toArray, List.getElem?_cons_succ, List.getElem?_cons_zero]; rfl)
      case hstep1 =>
        refine ⟨⟨⟨⟨⟨⟨⟨⟨trivial, ?_⟩, ?_⟩, ?_⟩, ?_⟩, ?_⟩, ?_⟩, ?_⟩, ?_⟩
        · intro γ w' he hf; clear hf; refine ⟨trivial, ?_⟩; intro R hR
          have hc := he.cells
          go_simp
          (try go_ints); (try (rw [if_neg (by omega)])); (try (rw [if_pos (by omega)])); (try go_simp); (try go_ints)
          refine hR _ _ (Ext.refl _) ?_ trivial
          rfl
        · intro γ w' he hf; clear hf; refine ⟨trivial, ?_⟩; intro R hR
          have hc := he.cells
          go_simp
          (try go_ints); (try (rw [if_neg (by omega)])); (try (rw [if_pos (by omega)])); (try go_simp); (try go_ints)
          refine hR _ _ (Ext.refl _) ?_ trivial
          rfl
        · intro γ w' he hf; clear hf; refine ⟨trivial, ?_⟩; intro R hR
          have hc := he.cells
          have cq0 := he.cell hca
          have cq1 := he.cell hcb
          go_simp
          (try go_ints); (try (rw [if_neg (by omega)])); (try (rw [if_pos (by omega)])); (try go_simp); (try go_ints)
          refine hR _ _ (Ext.refl _) ?_ trivial
          rfl
        · intro γ w' he hf; clear hf; refine ⟨trivial, ?_⟩; intro R hR
          have hc := he.cells
          go_simp
          (try go_ints); (try (rw [if_neg (by omega)])); (try (rw [if_pos (by omega)])); (try go_simp); (try go_ints)
          refine hR _ _ (Ext.refl _) ?_ trivial
          rfl
        · intro γ w' he hf; clear hf; refine ⟨trivial, ?_⟩; intro R hR
          have hc := he.cells
          go_simp
          (try go_ints); (try (rw [if_neg (by omega)])); (try (rw [if_pos (by omega)])); (try go_simp); (try go_ints)
          refine hR _ _ (Ext.refl _) ?_ trivial
          rfl
        · intro γ w' he hf; clear hf; refine ⟨trivial, ?_⟩; intro R hR
          have hc := he.cells
          go_simp
          (try go_ints); (try (rw [if_neg (by omega)])); (try (rw [if_pos (by omega)])); (try go_simp); (try go_ints)
          refine hR _ _ (Ext.refl _) ?_ trivial
          rfl
        · intro γ w' he hf; clear hf; refine ⟨trivial, ?_⟩; intro R hR
          have hc := he.cells
          have cq0 := he.cell hca
          have cq1 := he.cell hcb
          go_simp
          (try go_ints); (try (rw [if_neg (by omega)])); (try (rw [if_pos (by omega)])); (try go_simp); (try go_ints)
          refine hR _ _ (Ext.refl _) ?_ trivial
          rfl
        · intro γ w' he hf; clear hf; refine ⟨trivial, ?_⟩; intro R hR
          have hc := he.cells
          go_simp
          (try go_ints); (try (rw [if_neg (by omega)])); (try (rw [if_pos (by omega)])); (try go_simp); (try go_ints)
          refine hR _ _ (Ext.refl _) ?_ trivial
          rfl
      case hloc1 =>
        exact ⟨⟨⟨⟨⟨⟨⟨⟨trivial, (fun γ γ' h => ⟨rfl, fun _ => rfl⟩)⟩, (fun γ γ' h => ⟨rfl, fun _ => rfl⟩)⟩, (fun γ γ' h => ⟨rfl, fun _ => rfl⟩)⟩, (fun γ γ' h => ⟨rfl, fun _ => rfl⟩)⟩, (fun γ γ' h => ⟨rfl, fun _ => rfl⟩)⟩, (fun γ γ' h => ⟨rfl, fun _ => rfl⟩)⟩, (fun γ γ' h => ⟨rfl, fun _ => rfl⟩)⟩, (fun γ γ' h => ⟨rfl, fun _ => rfl⟩)⟩
      case hmono1 =>
        exact ⟨⟨⟨⟨⟨⟨⟨⟨trivial, (fun γ wA w' e h => h)⟩, (fun γ wA w' e h => h)⟩, (fun γ wA w' e h => h)⟩, (fun γ wA w' e h => h)⟩, (fun γ wA w' e h => h)⟩, (fun γ wA w' e h => h)⟩, (fun γ wA w' e h => h)⟩, (fun γ wA w' e h => h)⟩
      intro γ w1 hx1 hF
      clear hF
      simp only [fillAll, gV, kv, List.getD_cons_zero, List.getD_cons_succ, Act.put, List.setIfInBounds_toArray, List.set_cons_zero, List.set_cons_succ, List.toList_toArray, List.drop_succ_cons, List.drop_zero, List.drop_nil, Nat.zero_add, Nat.reduceAdd]
      clear γ
      go_wp2_with (go_at_call 108; refine (wide_any (x * y) _ (by simp) _ (by omega)).mono ?_; rintro e w2 ⟨r, rfl, ⟨l, q1, q2, q3, q4⟩, hx2⟩)
      go_ret
      exact Gives.mk ⟨l, q1, by simpa [nv_cons, nv_nil] using q2, by simpa using q4⟩ (hx1.trans hx2)
  · have hor : ¬ ((ds.length : Int) = 1 ∧ (es.length : Int) = 1) := fun ⟨a, b⟩ => h2 ⟨by omega, by omega⟩
    have hb2 : ((ds.length : Int) == 1) = false ∨ (((ds.length : Int) == 1) = true ∧ ((es.length : Int) == 1) = false) := by
      by_cases q : ds.length = 1
      · right
        refine ⟨by simp [q], ?_⟩
        have : ¬ (es.length : Int) = 1 := fun e => hor ⟨by omega, e⟩
        simpa using this
      · left; simp; omega
    clear h2 hor
    have hmk := fun W => make_u32 (ds.length + es.length) ((ds.length : Int) + es.length) (by omega) (by omega) W
    rcases hb2 with hb2 | ⟨hb2, hb3⟩
    all_goals
      go_enter Tryz.func112, Tryz.ntmps112
      go_wp2
      go_loopw [46] (fun iv wr => ∃ (i : Nat) (l : List Nat), i ≤ ds.length ∧ iv = .int .i64 i ∧ l.length = ds.length + es.length ∧ DBlk wr w.heap.size 112 l ∧ Digs l ∧ (∀ q, i + es.length ≤ q → dg l q = 0) ∧ nv l = nv (ds.take i) * nv es ∧ Ext w wr) (fun iv _ => ds.length - (intOf iv).toNat)
      case atStart => exact ⟨0, _, Nat.zero_le _, rfl, List.length_replicate, DBlk.new _ _ _, Digs.zeros _, fun q _ => by unfold dg; rw [List.getD_eq_getElem?_getD, List.getElem?_replicate]; split <;> rfl, by rw [nv_zeros]; simp [nv_nil], (Ext.refl w).alloc _⟩
      case round =>
        obtain ⟨i, l, hi, rfl, hll, hblk, hdl, hz, hval, hx⟩ := hrel
        have Hll := Lib.hid hll; clear hll
        have Hval := Lib.hid hval; clear hval
        have Hz := Lib.hid hz; clear hz
        by_cases hil : i < ds.length
        · obtain ⟨a, rfl, hca⟩ := dig_at hA hil
          have hcar := hx.cell hca
          have x1 := dg_bound hA.1 i
          generalize hxx : dg ds i = x at *
          have Hx := Lib.hid hxx; clear hxx
          clear hca
          go_wp2
          obtain ⟨wo, rfl⟩ : ∃ wo : World, wo = wr := ⟨_, rfl⟩
          go_loopw [8, 53] (fun cv jv wr => ∃ (j c0 : Nat) (m : List Nat), j ≤ es.length ∧ jv = .int .i64 j ∧ cv = .int .u64 c0 ∧ c0 < 4294967296 ∧ m.length = ds.length + es.length ∧ DBlk wr w.heap.size 112 m ∧ Digs m ∧ (∀ q, i + es.length ≤ q → dg m q = 0) ∧ nv m + c0 * (bp i * bp j) = nv l + x * bp i * nv (es.take j) ∧ Ext w wr) (fun _ jv _ => es.length - (intOf jv).toNat)
          case atStart => exact ⟨0, 0, l, Nat.zero_le _, rfl, rfl, by omega, Hll.out, hblk, hdl, Hz.out, by simp [nv_nil], hx⟩
          case round =>
            obtain ⟨j, c0, m, hj, rfl, rfl, hc0, hml, hbm, hdm, hzm, hvm, hxm⟩ := hrel
            have Hml := Lib.hid hml; clear hml
            have Hvm := Lib.hid hvm; clear hvm
            have Hzm := Lib.hid hzm; clear hzm
            by_cases hje : j < es.length
            · obtain ⟨b, rfl, hcb⟩ := dig_at hE hje
              replace hcb := hxm.cell hcb
              have y1 := dg_bound hE.1 j
              generalize hyy : dg es j = y at *
              have Hy := Lib.hid hyy; clear hyy
              have hmc := hbm.celld (i := i + j) (by have := Hml.out; omega)
              have z1 := dg_bound hdm (i + j)
              have hfz := hbm.frozen (i + j)
              generalize hzz : dg m (i + j) = z at *
              have Hzz := Lib.hid hzz; clear hzz
              have hxy : x * y ≤ 4294967295 * 4294967295 := Nat.mul_le_mul (by omega) (by omega)
              have hxy2 : x * y ≤ 18446744065119617025 := hxy
              clear hxy
              have k1 : (0 : Int) ≤ (x : Int) * y := by rw [← Int.natCast_mul]; omega
              have k2 : (x : Int) * y ≤ 18446744065119617025 := by rw [← Int.natCast_mul]; omega
              have Hxy := Lib.hid hxy2; clear hxy2
              go_wp2
              go_roundw
              case rel =>
                have hml := Hml.out
                have e1 : (((x * y + z + c0) % 4294967296 : Nat) : Int) = ((x : Int) * y + z + c0) % 4294967296 := by rw [← Int.natCast_mul]; omega
                have e2 : (((x * y + z + c0) / 4294967296 : Nat) : Int) = ((x : Int) * y + z + c0) / 4294967296 := by rw [← Int.natCast_mul]; omega
                refine ⟨j + 1, (x * y + z + c0) / 4294967296, m.set (i + j) ((x * y + z + c0) % 4294967296), by omega, by go_num, by rw [e2], by have := Hxy.out; omega, by simpa using hml, hbm.setI _ _ e1.symm, hdm.set (by omega) _, fun q hq => by rw [dg_set_ne (by omega)]; exact Hzm.out q hq, ?_, hxm.setCell _ _ (Nat.le_refl _)⟩
                have hs := nv_set (l := m) (p := i + j) (d := (x * y + z + c0) % 4294967296) (by omega)
                rw [Hzz.out, bp_add] at hs
                rw [nv_take_dg, Hy.out, bp_succ]
                exact mul_step hs Hvm.out
              case measure => simp [intOf]; omega
            · obtain rfl : j = es.length := by omega
              have hmc := hbm.celld (i := i + es.length) (by have := Hml.out; omega)
              have hfz := hbm.frozen (i + es.length)
              go_wp2
              go_roundw
              case rel =>
                have hml := Hml.out
                refine ⟨i + 1, m.set (i + es.length) c0, by omega, by go_num, by simpa using hml, hbm.setI _ _ (by omega), hdm.set (by omega) _, fun q hq => by rw [dg_set_ne (by omega)]; exact Hzm.out q (by omega), ?_, hxm.setCell _ _ (Nat.le_refl _)⟩
                have hs := nv_set (l := m) (p := i + es.length) (d := c0) (by omega)
                rw [Hzm.out _ (Nat.le_refl _), Nat.mul_zero, Nat.add_zero, bp_add] at hs
                have h1 := Hvm.out
                rw [List.take_of_length_le (Nat.le_refl _), Hval.out] at h1
                rw [hs, nv_take_dg, Hx.out, Nat.mul_comm _ c0, h1]
                grind
              case measure => simp [intOf]; omega
        · obtain rfl : i = ds.length := by omega
          go_wp2
          go_ret
          have hll := Hll.out
          refine Gives.mk ⟨l, ?_, by rw [Hval.out, List.take_of_length_le (Nat.le_refl _)], by omega⟩ hx
          have hq := hblk.digv hdl (c := ds.length + es.length) (by omega) (by omega)
          rw [hll] at hq
          exact hq
set_option maxHeartbeats 1000000 in
theorem short_any (v : Value) (ds : List Nat) (d : Nat) (w : World) (hv : DigV w v ds) (hd0 : 0 < d) (hd1 : d < 4294967296) (hn : ds.length ≤ 4398046511104) :
    Calls Tryz.prog 138 #[v, .int .u32 (d : Nat)] w (Gives w fun r w' => ∃ q l, r = .tuple #[q, .int .u32 ((nv ds % d : Nat) : Int)] ∧ DigV w' q l ∧ nv l = nv ds / d ∧ l.length = ds.length) := by
  obtain ⟨A, p1, rfl, hl, hc, hA⟩ := hv
  have hmk := fun W => make_u32 ds.length (ds.length : Int) (by omega) (by omega) W
  go_enter Tryz.func138, Tryz.ntmps138
  go_wp2
  go_loopw [7, 8] (fun rv iv wr => ∃ (k r : Nat) (l : List Nat), k ≤ ds.length ∧ (∃ q : Int, q + 1 = k ∧ iv = .int .i64 q) ∧ rv = .int .u32 r ∧ r < d ∧ l.length = ds.length ∧ DBlk wr w.heap.size 112 l ∧ Digs l ∧ nv (l.drop k) * d + r = nv (ds.drop k) ∧ Ext w wr) (fun _ iv _ => (intOf iv + 1).toNat)
  case atStart => exact ⟨ds.length, 0, _, Nat.le_refl _, ⟨_, by omega, rfl⟩, rfl, hd0, List.length_replicate, DBlk.new _ _ _, Digs.zeros _, by rw [List.drop_length, List.drop_of_length_le (by simp)]; simp [nv_nil], (Ext.refl w).alloc _⟩
  case round =>
    obtain ⟨k, r, l, hk, ⟨q, hq, rfl⟩, rfl, hr, hll, hblk, hdl, hval, hx⟩ := hrel
    have Hll := Lib.hid hll; clear hll
    have Hv := Lib.hid hval; clear hval
    by_cases hk0 : 0 < k
    · obtain ⟨k, rfl⟩ : ∃ j, k = j + 1 := ⟨k - 1, by omega⟩
      obtain rfl : q = (k : Int) := by omega
      clear hq
      obtain ⟨a, rfl, hca⟩ := dig_at hA (k := k) (by omega)
      replace hca := hx.cell hca
      have x1 := dg_bound hA.1 k
      have hkl : k < l.length := by have := Hll.out; omega
      generalize hxx : dg ds k = x at *
      have Hx := Lib.hid hxx; clear hxx
      go_wp2_with (go_at_call 148; refine (div32_any _ _ _ _ (by omega) (by omega) (by omega) (by omega) (by omega)).mono ?_; rintro e w2 ⟨rr, rfl, rfl, hx2⟩; replace hblk := hblk.ext hx2; have hcl := hblk.celld (i := k) hkl; have hfz := hblk.frozen k)
      go_roundw
      case rel =>
        have e1 : (((r * 4294967296 + x) / d : Nat) : Int) = ((r : Int) * 4294967296 + x) / d := by simp
        have e2 : (((r * 4294967296 + x) % d : Nat) : Int) = ((r : Int) * 4294967296 + x) % d := by simp
        have hq : (r * 4294967296 + x) / d < 4294967296 := by
          apply Nat.div_lt_of_lt_mul
          have : (r + 1) * 4294967296 ≤ d * 4294967296 := Nat.mul_le_mul_right _ hr
          omega
        refine ⟨k, (r * 4294967296 + x) % d, l.set k ((r * 4294967296 + x) / d), by omega, ⟨_, by omega, rfl⟩, by rw [e2], Nat.mod_lt _ hd0, by simpa using Hll.out, hblk.setI _ _ e1.symm, hdl.set hq _, ?_, (hx.trans hx2).setCell _ _ (Nat.le_refl _)⟩
        have hkl' : k < (l.set k ((r * 4294967296 + x) / d)).length := by simpa using hkl
        rw [nv_drop hkl', nv_drop (ds := ds) (i := k) (by omega), ← dg_lt (ds := ds) (k := k), Hx.out, ← Hv.out]
        simp only [List.getElem_set_self, List.drop_set_of_lt (Nat.lt_succ_self k)]
        have e : d * ((r * 4294967296 + x) / d) + (r * 4294967296 + x) % d = r * 4294967296 + x := Nat.div_add_mod _ _
        generalize (r * 4294967296 + x) / d = qq at *
        generalize (r * 4294967296 + x) % d = rr at *
        grind
      case measure => simp [intOf] <;> omega
    · obtain rfl : k = 0 := by omega
      have q1 : q < 0 := by omega
      have Hq := Lib.hid hq; clear hq
      go_wp2
      go_ret2
      have hv := Hv.out
      simp only [List.drop_zero] at hv
      have e := Nat.div_add_mod (nv ds) d
      have hm : nv ds % d = r := by rw [← hv, Nat.mul_add_mod_self_right, Nat.mod_eq_of_lt hr]
      have hqq : nv ds / d = nv l := by rw [← hv, Nat.add_comm, Nat.add_mul_div_right _ _ hd0, Nat.div_eq_of_lt hr]; omega
      refine Gives.mk ⟨_, l, by rw [hm]; rfl, ?_, hqq.symm, Hll.out⟩ hx
      have hq := hblk.digv hdl (c := ds.length) (by have := Hll.out; omega) (by omega)
      rw [Hll.out] at hq
      exact hq
/-- The lower word of a digit that was moved to the left; it joins what came from the digit below. -/
theorem shl_low {x z s S : Nat} (hS : 2 ^ s = S) (hs : s < 32) (hz : z < S) : z ||| (x * S % 4294967296) = z + x * S % 4294967296 ∧ z + x * S % 4294967296 < 4294967296 := by
  subst hS
  have e : (4294967296 : Nat) = 2 ^ s * 2 ^ (32 - s) := by rw [← Nat.pow_add, show s + (32 - s) = 32 from by omega]
  have h1 : x * 2 ^ s % 4294967296 = 2 ^ s * (x % 2 ^ (32 - s)) := by rw [e, Nat.mul_comm x, Nat.mul_mod_mul_left]
  have h2 : x % 2 ^ (32 - s) + 1 ≤ 2 ^ (32 - s) := Nat.mod_lt _ (Nat.two_pow_pos _)
  have h3 : 2 ^ s * (x % 2 ^ (32 - s) + 1) ≤ 2 ^ s * 2 ^ (32 - s) := Nat.mul_le_mul_left _ h2
  rw [Nat.mul_add, Nat.mul_one] at h3
  rw [← e] at h3
  rw [h1]
  constructor
  · rw [Nat.or_comm, ← Nat.two_pow_add_eq_or_of_lt hz, Nat.add_comm]
  · omega
theorem u32_or_add {x z s S : Nat} (hS : 2 ^ s = S) (hs : s < 32) (hz : z < S) : bits .or .u32 (z : Int) ((x : Int) * S % 4294967296) = (z : Int) + (x : Int) * S % 4294967296 := by
  have ⟨h1, h2⟩ := shl_low (x := x) hS hs hz
  have h := u32_or_nat z (x * S % 4294967296) (by omega) (by omega)
  rw [h1] at h
  simpa using h
set_option maxHeartbeats 1000000 in
theorem shifted_any (v : Value) (ds : List Nat) (s : Nat) (w : World) (hv : DigV w v ds) (hs : s < 32) (hn : ds.length ≤ 4398046511104) :
    Calls Tryz.prog 140 #[v, .int .u64 (s : Nat)] w (Gives w fun r w' => ∃ l g, r = .slice (some ⟨g, 0, none⟩) (ds.length + 1) (ds.length + 1) ∧ w.heap.size ≤ g ∧ DBlk w' g 112 l ∧ Digs l ∧ nv l = nv ds * 2 ^ s ∧ l.length = ds.length + 1) := by
  obtain ⟨A, p1, rfl, hl, hc, hA⟩ := hv
  have hmk := fun W => make_u32 (ds.length + 1) ((ds.length : Int) + 1) (by omega) (by omega) W
  obtain ⟨S, hS⟩ : ∃ S, 2 ^ s = S := ⟨_, rfl⟩
  have hSi : (2 : Int) ^ s = (S : Nat) := by rw [← hS]; simp
  have hS1 : S ≤ 2147483648 := by rw [← hS]; exact Nat.pow_le_pow_right (by decide) (show s ≤ 31 by omega)
  have hS0 : 0 < S := by rw [← hS]; exact Nat.two_pow_pos _
  rw [hS]
  have HS := Lib.hid hS; clear hS
  go_enter Tryz.func140, Tryz.ntmps140
  go_wp2
  go_loopw [15] (fun iv wr => ∃ (k : Nat) (l : List Nat), k ≤ ds.length ∧ iv = .int .i64 k ∧ l.length = ds.length + 1 ∧ DBlk wr w.heap.size 112 l ∧ Digs l ∧ dg l k < S ∧ nv (l.take (k + 1)) = nv (ds.take k) * S ∧ Ext w wr) (fun iv _ => ds.length - (intOf iv).toNat)
  case atStart =>
    refine ⟨0, _, Nat.zero_le _, rfl, List.length_replicate, DBlk.new _ _ _, Digs.zeros _, ?_, ?_, (Ext.refl w).alloc _⟩
    · rw [dg_lt (by simp), List.getElem_replicate]; exact hS0
    · rw [List.replicate_succ]; simp [nv_cons, nv_nil]
  case round =>
    obtain ⟨k, l, hk, rfl, hll, hblk, hdl, hlo, hval, hx⟩ := hrel
    have Hll := Lib.hid hll; clear hll
    have Hv := Lib.hid hval; clear hval
    by_cases hkl : k < ds.length
    · obtain ⟨a, rfl, hca⟩ := dig_at hA hkl
      replace hca := hx.cell hca
      have x1 := dg_bound hA.1 k
      have hcl := hblk.celld (i := k) (by have := Hll.out; omega)
      have hfz := hblk.frozen k
      have hcl2 := hblk.celld (i := k + 1) (by have := Hll.out; omega)
      have hfz2 := hblk.frozen (k + 1)
      generalize hxx : dg ds k = x at *
      generalize hzz : dg l k = z at *
      have Hx := Lib.hid hxx; clear hxx
      have Hz := Lib.hid hzz; clear hzz
      have ho := u32_or_add (x := x) HS.out hs hlo
      have hlo2 := (shl_low (x := x) HS.out hs hlo).2
      have hxS : x * S ≤ 4294967295 * 2147483648 := Nat.mul_le_mul (by omega) hS1
      have hxS2 : x * S ≤ 9223372034707292160 := hxS
      clear hxS
      have hxhi : x * S / 4294967296 < S := Nat.div_lt_of_lt_mul (by rw [Nat.mul_comm]; exact Nat.mul_lt_mul_of_pos_left x1 hS0 |> fun h => by rw [Nat.mul_comm S, Nat.mul_comm S] at h; rw [Nat.mul_comm]; omega)
      have k1 : (0 : Int) ≤ (x : Int) * S := by rw [← Int.natCast_mul]; omega
      have k2 : (x : Int) * S ≤ 9223372034707292160 := by rw [← Int.natCast_mul]; omega
      have e1 : ((z + x * S % 4294967296 : Nat) : Int) = (z : Int) + (x : Int) * S % 4294967296 := by rw [← Int.natCast_mul]; omega
      have e2 : ((x * S / 4294967296 : Nat) : Int) = (x : Int) * S / 4294967296 := by rw [← Int.natCast_mul]; omega
      have Hh := Lib.hid (And.intro hxhi (And.intro hlo2 (And.intro e1 e2)))
      clear hxS2 hxhi hlo2 e1 e2
      go_wp2
      go_roundw
      case rel =>
        obtain ⟨a1, a2, a3, a4⟩ := Hh.out
        have hll := Hll.out
        refine ⟨k + 1, (l.set k (z + x * S % 4294967296)).set (k + 1) (x * S / 4294967296), by omega, by go_num, by simpa using hll, (hblk.setI k _ a3.symm).setI (k + 1) _ a4.symm, (hdl.set a2 _).set (by omega) _, ?_, ?_, (hx.setCell _ _ (Nat.le_refl _)).setCell _ _ (Nat.le_refl _)⟩
        · rw [dg_lt (by simp; omega), List.getElem_set_self]; exact a1
        · rw [nv_take_set (by simp; omega), nv_take_set (by omega), nv_take_dg ds, Hx.out, bp_succ]
          have h1 := Hv.out
          rw [nv_take_dg, Hz.out] at h1
          have e : x * S % 4294967296 + 4294967296 * (x * S / 4294967296) = x * S := Nat.mod_add_div _ _
          generalize x * S % 4294967296 = r at *
          generalize x * S / 4294967296 = q at *
          grind
      case measure => simp [intOf] <;> omega
    · obtain rfl : k = ds.length := by omega
      go_wp2
      go_ret
      have hll := Hll.out
      have hv := Hv.out
      rw [List.take_of_length_le (by omega), List.take_of_length_le (Nat.le_refl _)] at hv
      exact Gives.mk ⟨l, _, rfl, Nat.le_refl _, hblk, hdl, hv, hll⟩ hx
theorem or_shift2 (h l : Int) (hh : 0 ≤ h) (hh' : h < 4294967296) (hl : 0 ≤ l) (hl' : l < 4294967296) : bits .or .u64 l (h * 4294967296) = l + 4294967296 * h := by
  obtain ⟨H, rfl⟩ := Int.eq_ofNat_of_zero_le hh
  obtain ⟨L, rfl⟩ := Int.eq_ofNat_of_zero_le hl
  have e := u64_or_nat L (H * 4294967296) (by omega) (by omega)
  have e2 : L ||| H * 4294967296 = L + 4294967296 * H := by
    rw [Nat.or_comm, show H * 4294967296 = 2 ^ 32 * H from by omega, ← Nat.two_pow_add_eq_or_of_lt (by omega) H]
    omega
  rw [e2] at e
  simpa using e
/-- The word that one step of the shift to the right leaves. -/
theorem shr_word {x y S S' : Nat} (hS : 4294967296 = S * S') (hS0 : 0 < S) (hx : x < 4294967296) : (x + 4294967296 * y) / S % 4294967296 * S = (x - x % S) + 4294967296 * (y % S) := by
  have h1 : (x + 4294967296 * y) / S = x / S + S' * y := by
    rw [show 4294967296 * y = S * (S' * y) from by rw [hS, Nat.mul_assoc], Nat.add_mul_div_left _ _ hS0]
  have hS'0 : 0 < S' := by
    rcases Nat.eq_zero_or_pos S' with h | h
    · subst h; omega
    · exact h
  have hxS : x / S < S' := Nat.div_lt_of_lt_mul (by rw [← hS]; exact hx)
  have h2 : (x / S + S' * y) % 4294967296 = x / S + S' * (y % S) := by
    have e : x / S + S' * y = (x / S + S' * (y % S)) + 4294967296 * (y / S) := by
      have := Nat.mod_add_div y S
      have h : S' * y = S' * (y % S + S * (y / S)) := by rw [this]
      rw [h, Nat.mul_add, ← Nat.mul_assoc S' S, Nat.mul_comm S' S, ← hS]
      omega
    rw [e, Nat.add_mul_mod_self_left, Nat.mod_eq_of_lt]
    have h3 : S' * (y % S + 1) ≤ S' * S := Nat.mul_le_mul_left _ (Nat.mod_lt _ hS0)
    rw [Nat.mul_add, Nat.mul_one, Nat.mul_comm S' S, ← hS] at h3
    omega
  rw [h1, h2, Nat.add_mul]
  have h4 := Nat.mod_add_div x S
  rw [Nat.mul_comm S (x / S)] at h4
  have h5 : S' * (y % S) * S = 4294967296 * (y % S) := by rw [hS]; grind
  rw [h5]
  omega
theorem shr_step {L R X p S S' x y : Nat} (hS : 4294967296 = S * S') (hS0 : 0 < S) (hx : x < 4294967296) (h : L * S + R = X + x % S * p) :
    (L + p * ((x + 4294967296 * y) / S % 4294967296)) * S + R = X + p * x + y % S * (4294967296 * p) := by
  have e := shr_word (y := y) hS hS0 hx
  have e2 := Nat.mod_le x S
  generalize (x + 4294967296 * y) / S % 4294967296 = q at *
  obtain ⟨m, hm⟩ : ∃ m, x = x % S + m := ⟨x - x % S, by omega⟩
  rw [show x - x % S = m from by omega] at e
  generalize x % S = xs at *
  generalize y % S = ys at *
  subst hm
  have e3 : p * (q * S) = p * (m + 4294967296 * ys) := by rw [e]
  grind
theorem add_succ (a : Addr) (k : Nat) : a.add (k + 1) = ⟨a.block, a.off + (k + 1), none⟩ := by unfold Addr.add; rw [if_neg (by omega)]
set_option maxHeartbeats 1000000 in
theorem unshifted_any (v : Value) (ds : List Nat) (s : Nat) (w : World) (hv : DigV w v ds) (hs : s < 32) (hn : ds.length ≤ 4398046511104) :
    Calls Tryz.prog 142 #[v, .int .u64 (s : Nat)] w (Gives w fun r w' => ∃ l, DigV w' r l ∧ nv l = nv ds / 2 ^ s ∧ l.length = ds.length) := by
  obtain ⟨A, p1, rfl, hl, hc, hA⟩ := hv
  have hmk := fun W => make_u32 ds.length (ds.length : Int) (by omega) (by omega) W
  obtain ⟨S, hS⟩ : ∃ S, 2 ^ s = S := ⟨_, rfl⟩
  have hSi : (2 : Int) ^ s = (S : Nat) := by rw [← hS]; simp
  have hS0 : 0 < S := by rw [← hS]; exact Nat.two_pow_pos _
  have hSS : 4294967296 = S * 2 ^ (32 - s) := by rw [← hS, ← Nat.pow_add, show s + (32 - s) = 32 from by omega]
  rw [hS]
  have HS := Lib.hid (And.intro hS hSS); clear hS hSS
  go_enter Tryz.func142, Tryz.ntmps142
  go_wp2
  go_loopw [13] (fun iv wr => ∃ (k : Nat) (l : List Nat), k ≤ ds.length ∧ iv = .int .i64 k ∧ l.length = ds.length ∧ DBlk wr w.heap.size 112 l ∧ Digs l ∧ nv (l.take k) * S + nv ds % S = nv (ds.take k) + dg ds k % S * bp k ∧ Ext w wr) (fun iv _ => ds.length - (intOf iv).toNat)
  case atStart =>
    refine ⟨0, _, Nat.zero_le _, rfl, List.length_replicate, DBlk.new _ _ _, Digs.zeros _, ?_, (Ext.refl w).alloc _⟩
    simp only [List.take_zero, nv_nil, Nat.zero_mul, Nat.zero_add, bp_zero, Nat.mul_one]
    cases ds with
    | nil => rfl
    | cons d ds => rw [nv_cons, HS.out.2, Nat.mul_assoc, Nat.add_mul_mod_self_left]; rfl
  case round =>
    obtain ⟨k, l, hk, rfl, hll, hblk, hdl, hval, hx⟩ := hrel
    have Hll := Lib.hid hll; clear hll
    have Hv := Lib.hid hval; clear hval
    by_cases hkl : k < ds.length
    · obtain ⟨a, rfl, hca⟩ := dig_at hA hkl
      replace hca := hx.cell hca
      have x1 := dg_bound hA.1 k
      have y1 := dg_bound hA.1 (k + 1)
      have hcl := hblk.celld (i := k) (by have := Hll.out; omega)
      have hfz := hblk.frozen k
      have hs1 : (1 : Int) ≤ S := by omega
      by_cases hkl1 : k + 1 < ds.length
      · obtain ⟨a', ha, hcb⟩ := dig_at hA hkl1
        cases ha
        replace hcb := hx.cell hcb
        rw [add_succ] at hcb
        generalize hxx : dg ds k = x at *
        generalize hyy : dg ds (k + 1) = y at *
        have Hx := Lib.hid (And.intro hxx hyy); clear hxx hyy
        have ho := or_shift2 y x (by omega) (by omega) (by omega) (by omega)
        go_wp2
        go_roundw
        case rel =>
          have e1 : (((x + 4294967296 * y) / S % 4294967296 : Nat) : Int) = ((x : Int) + 4294967296 * y) / S % 4294967296 := by simp
          refine ⟨k + 1, l.set k ((x + 4294967296 * y) / S % 4294967296), by omega, by go_num, by simpa using Hll.out, hblk.setI _ _ e1.symm, hdl.set (by omega) _, ?_, hx.setCell _ _ (Nat.le_refl _)⟩
          rw [nv_take_set (by have := Hll.out; omega), nv_take_dg, Hx.out.1, Hx.out.2, bp_succ]
          have h1 := Hv.out
          exact shr_step HS.out.2 hS0 x1 h1
        case measure => simp [intOf] <;> omega
      · generalize hxx : dg ds k = x at *
        have Hx := Lib.hid hxx; clear hxx
        have hyy : dg ds (k + 1) = 0 := dg_ge (by omega)
        have Hy := Lib.hid hyy; clear hyy
        go_wp2
        go_roundw
        case rel =>
          have e1 : (((x + 4294967296 * 0) / S % 4294967296 : Nat) : Int) = (x : Int) / S % 4294967296 := by simp
          refine ⟨k + 1, l.set k ((x + 4294967296 * 0) / S % 4294967296), by omega, by go_num, by simpa using Hll.out, hblk.setI _ _ e1.symm, hdl.set (by omega) _, ?_, hx.setCell _ _ (Nat.le_refl _)⟩
          rw [nv_take_set (by have := Hll.out; omega), nv_take_dg, Hx.out, Hy.out, bp_succ]
          have h1 := Hv.out
          exact shr_step HS.out.2 hS0 x1 h1
        case measure => simp [intOf] <;> omega
    · obtain rfl : k = ds.length := by omega
      go_wp2
      go_ret
      have hll := Hll.out
      have hv := Hv.out
      rw [List.take_of_length_le (by omega), List.take_of_length_le (Nat.le_refl _), dg_ge (Nat.le_refl _), Nat.zero_mod, Nat.zero_mul, Nat.add_zero] at hv
      refine Gives.mk ⟨l, ?_, ?_, hll⟩ hx
      · have hq := hblk.digv hdl (c := ds.length) (by omega) (by omega)
        rw [hll] at hq
        exact hq
      · rw [← hv, Nat.mul_comm, Nat.mul_add_div hS0, Nat.div_eq_of_lt (Nat.mod_lt _ hS0)]; rfl
end Go.Proofs.YtedoifjbgokmcaaGreat
