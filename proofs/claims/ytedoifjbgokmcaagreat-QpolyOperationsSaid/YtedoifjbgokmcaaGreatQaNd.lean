/- The statement QpolyOperations holds: for every two polynomials and every fraction the law returns true, and the arguments read afterwards as before. No condition. -/
import Derived.Test.YtedoifjbgokmcaaGreatQa1
import Derived.Test.YtedoifjbgokmcaaGreatQa2
import Derived.Test.YtedoifjbgokmcaaGreatQa3
import Derived.Test.YtedoifjbgokmcaaGreatQa4
import Derived.Test.YtedoifjbgokmcaaGreatQa5
import Derived.Test.YtedoifjbgokmcaaGreatQa6
import Derived.Test.YtedoifjbgokmcaaGreatRows
import Derived.WalkKit
import Derived.ProofKit
import Derived.OpenShut
import Derived.ShutString
import Derived.ChangeOld
import Derived.Below
set_option linter.unusedVariables false
set_option linter.unusedSimpArgs false
namespace Go.Hp
open Go.RowKit
theorem agg_of_cells {v : Value} {cs : Array Value} (h : v.cells.toList = cs.toList) (hs : cs.size = 4) : v = .agg cs := by
  have hc : v.cells = cs := Array.toList_inj.1 h
  subst hc
  cases v <;> first | rfl | (exfalso; simp [Value.cells] at hs)
end Go.Hp
namespace Go.Proofs.YtedoifjbgokmcaaGreat
open Go.ChangeShapes Go.WideShapes Go.ChangeAt Go.RowKit Go.Hp
open Go.ChangeMaps (open_string shut_string)
theorem own_ : ownKnob Tryz.prog.godebug = none := by kernel_rfl
theorem laidOut_ : laidOutB Tryz.prog = true := by kernel_rfl
set_option maxRecDepth 100000 in
theorem qpolyOperations_lifted (os : Os) (started : os.Started) (H : Type) (enc : TypeId × Value → H) :
    ReturnsInHanded {} Tryz.checked os 4 .any (Rows.qpolyOperationsSpec.pre6 enc Tryz.prog Tryz.f4 Rows.qpolyOperationsRow.domain false) (Rows.qpolyOperationsSpec.post enc Tryz.prog Tryz.f4 false true false false) := by
  refine returnsInHanded_of_change (C := Tryz.checked) own_ started (by kernel_rfl) Tryz.func4
    (ChangeSpec.witness6 (enc := enc) (C := Tryz.checked) false ⟨#[], #[.slice none 0 0, .slice none 0 0, .agg #[.bool false, .slice none 0 0, .bool false, .slice none 0 0]], []⟩ 8 (by kernel_rfl) (by kernel_rfl) (by kernel_rfl) (by kernel_rfl)) ?_
  intro W base args ds gs before hval0 hW hcnd _
  have hval : ∀ (j : Nat) t v, Tryz.f4.params[j]? = some t → args[j]? = some v → Value.okWide Tryz.prog W .any base t v := hval0
  have hW' := hW
  obtain ⟨p, q, hA0, hV, rfl, hfz, hnd⟩ := hW
  have hA : DataW.TrodAll enc Tryz.prog W 0 (fun _ => true) true Tryz.f4.params.toList args.toList ds p := hA0
  rw [Tryz.params4] at hA hval
  obtain ⟨v0, v1, v2, d0, d1, d2, p0, p1, p2, hargs, rfl, rfl, h0, h1, h2⟩ := trodAll_three hA
  obtain rfl : args = #[v0, v1, v2] := by cases args; simp_all
  obtain ⟨rfl, rfl⟩ := trodVars_none hV
  have lt0 : ∀ x ∈ p0, x.block < W.heap.size := by obtain ⟨m, hm⟩ := h0; exact DataW.trod_lt m _ _ _ hm
  have lt1 : ∀ x ∈ p1, x.block < W.heap.size := by obtain ⟨m, hm⟩ := h1; exact DataW.trod_lt m _ _ _ hm
  have lt2 : ∀ x ∈ p2, x.block < W.heap.size := by obtain ⟨m, hm⟩ := h2; exact DataW.trod_lt m _ _ _ hm
  obtain ⟨l0, w0⟩ : ∃ l, PolyV W v0 l := by obtain ⟨m, hm⟩ := h0; exact open_poly Tryz.underlying23 hm (okWide_slice Tryz.underlying23 (hval 0 23 v0 rfl rfl))
  obtain ⟨l1, w1⟩ : ∃ l, PolyV W v1 l := by obtain ⟨m, hm⟩ := h1; exact open_poly Tryz.underlying23 hm (okWide_slice Tryz.underlying23 (hval 1 23 v1 rfl rfl))
  obtain ⟨x2, w2⟩ : ∃ x, RawQ W v2 x := by
    obtain ⟨m, hm⟩ := h2
    obtain ⟨r, cs, e1, e2, e3⟩ := open_raw hm
    exact ⟨r, by rw [agg_of_cells e1 e2]; exact e3⟩
  clear hA0 hval0
  refine (operations_law v0 v1 v2 l0 l1 x2 W w0 w1 w2).mono fun e W' ⟨v, he, hv, bel⟩ => ?_
  subst he hv
  exact ⟨_, rfl, _, _, _, [], _, [], hW', trodAll_mk1 (shut_bool Tryz.underlying4 _), (trodAll_cons_mk (Below.trod laidOut_ (by kernel_rfl) (of_decide_eq_true (by kernel_rfl)) h0 bel lt0) (trodAll_cons_mk (Below.trod laidOut_ (by kernel_rfl) (of_decide_eq_true (by kernel_rfl)) h1 bel lt1) (trodAll_cons_mk (Below.trod laidOut_ (by kernel_rfl) (of_decide_eq_true (by kernel_rfl)) h2 bel lt2) trodAll_mk0))), rfl, bel.frame _, fun h => by cases h⟩
theorem qpolyOperations_over : Rows.qpolyOperationsRow.holds Tryz.pinned (OpenSpec.ofChange Rows.qpolyOperationsSpec) :=
  OpenClaim.holds_of_wide 4 Tryz.f4 rfl rfl rfl rfl rfl rfl rfl ⟨rfl, rfl, rfl, rfl, rfl⟩ rfl rfl rfl rfl rfl (by kernel_rfl) Tryz.func4 (by kernel_rfl)
    (of_decide_eq_true (by kernel_rfl)) (by unfold Func.isWrapper; first | (rw [if_pos (by decide +kernel)]; kernel_rfl) | (rw [if_neg (by decide +kernel)]; exact ⟨rfl, rfl⟩))
    (fun os started H enc _ => qpolyOperations_lifted os started H enc)
theorem qpolyOperations_proved : Rows.QpolyOperationsSaid := qpolyOperations_over
end Go.Proofs.YtedoifjbgokmcaaGreat
