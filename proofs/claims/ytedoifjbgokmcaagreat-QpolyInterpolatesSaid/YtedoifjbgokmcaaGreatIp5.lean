/- The statement QpolyInterpolates holds: for every list of points the law returns true, and the argument reads afterwards as before. No condition. -/
import Derived.Test.YtedoifjbgokmcaaGreatIp1
import Derived.Test.YtedoifjbgokmcaaGreatIp2
import Derived.Test.YtedoifjbgokmcaaGreatIp3
import Derived.Test.YtedoifjbgokmcaaGreatIp4
import Derived.ProofKit
import Derived.ChangeSlices
import Derived.Deep.Slices
import Derived.Deep.Cut
import Derived.Deep.DeepCutAuto
import Derived.RangeFuncNested
import Derived.RangeFuncBound
import Derived.RangeFuncCalls
import Derived.RangeFuncLeaves
import Derived.Shelf.Abstract
import Derived.Shelf.RegionOpen
import Derived.WalkKit
import Derived.OwnWalkIn
import Derived.TacticsInMore
import Derived.LoopNIn
import Derived.LoopIn
import Derived.Test.YtedoifjbgokmcaaGreatRows
import Derived.OpenShut
import Derived.ShutString
import Derived.ChangeOld
import Derived.Below
set_option linter.unusedVariables false
set_option linter.unusedSimpArgs false
namespace Go.Hp
/-- The factor x - a. -/
def lin (a : Rat) : Nat → Rat := cs (-a) pone
theorem pone_sup : Sup 1 pone := (Sup.pz 0).cs 1
theorem pone_fin : Fin_ pone := ⟨1, pone_sup⟩
theorem ev_pone (x : Rat) : ev pone x = 1 := by unfold pone; rw [ev_cs _ Fin_.pz, ev_pz]; grind
theorem lin_sup (a : Rat) : Sup 2 (lin a) := pone_sup.cs _
theorem lin_fin (a : Rat) : Fin_ (lin a) := ⟨2, lin_sup a⟩
theorem ev_lin (a x : Rat) : ev (lin a) x = x - a := by unfold lin; rw [ev_cs _ pone_fin, ev_pone]; grind
theorem CD.pone : CD 3 pone := by
  have := CD.pz.cs 1
  have e : qsz (1 : Rat) = 1 := by decide
  rw [e] at this; exact this
theorem CD.lin {a : Rat} (h : qsz a ≤ 2) : CD 6 (lin a) := by
  have := CD.pone.cs (-a)
  rw [qsz_neg] at this
  exact this.mono (by omega)
/-- The product of x - X k over the k below n but for i. -/
def lgp (X : Nat → Rat) (i : Nat) : Nat → Nat → Rat
  | 0 => pone
  | n + 1 => if n = i then lgp X i n else cv (lgp X i n) (lin (X n))
theorem lgp_succ (X : Nat → Rat) (i n : Nat) : lgp X i (n + 1) = if n = i then lgp X i n else cv (lgp X i n) (lin (X n)) := by rw [lgp]
theorem lgp_fin (X : Nat → Rat) (i n : Nat) : Fin_ (lgp X i n) := by
  induction n with
  | zero => exact pone_fin
  | succ n ih => rw [lgp_succ]; split
                 · exact ih
                 · exact ih.cv (lin_fin _)
theorem lgp_sup (X : Nat → Rat) (i n : Nat) : Sup (n + 1) (lgp X i n) ∧ (i < n → Sup n (lgp X i n)) := by
  induction n with
  | zero => exact ⟨pone_sup, fun h => by omega⟩
  | succ n ih =>
    rw [lgp_succ]; split
    · exact ⟨ih.1.mono (by omega), fun _ => ih.1⟩
    · have h1 := ih.1.cv (lin_sup (X n))
      refine ⟨h1.mono (by omega), fun h => ?_⟩
      exact ((ih.2 (by omega)).cv (lin_sup (X n))).mono (by omega)
theorem lgp_root (X : Nat → Rat) {i n k : Nat} (hk : k < n) (hi : k ≠ i) : ev (lgp X i n) (X k) = 0 := by
  induction n with
  | zero => omega
  | succ n ih =>
    rw [lgp_succ]; split
    · rcases Nat.lt_or_ge k n with h | h
      · exact ih h
      · omega
    · rw [ev_cv (lgp_fin _ _ _) (lin_fin _), ev_lin]
      rcases Nat.lt_or_ge k n with h | h
      · rw [ih h]; grind
      · obtain rfl : k = n := by omega
        grind
theorem lgp_ne (X : Nat → Rat) {i n : Nat} {x : Rat} (h : ∀ k, k < n → k ≠ i → x ≠ X k) : ev (lgp X i n) x ≠ 0 := by
  induction n with
  | zero => show ev pone x ≠ 0; rw [ev_pone]; decide
  | succ n ih =>
    have h1 := ih fun k hk => h k (by omega)
    rw [lgp_succ]; split
    · exact h1
    · rename_i hne
      rw [ev_cv (lgp_fin _ _ _) (lin_fin _), ev_lin]
      intro e
      rcases Rat.mul_eq_zero.1 e with e | e
      · exact h1 e
      · exact h n (by omega) hne (by grind)
theorem lgp_cd {X : Nat → Rat} (i n : Nat) (hX : ∀ k, k < n → qsz (X k) ≤ 2) (hn : n ≤ 4294967290) : CD (3 + 7 * n) (lgp X i n) := by
  induction n with
  | zero => exact CD.pone
  | succ n ih =>
    have h1 := ih (fun k hk => hX k (by omega)) (by omega)
    rw [lgp_succ]; split
    · exact h1.mono (by omega)
    · exact (CD.cv (lgp_sup X i n).1 (by omega) h1 (CD.lin (hX n (by omega)))).mono (by omega)
/-- The steps of Horner's rule: what stands behind the coefficient at i. -/
def hor (F : Nat → Rat) (x : Rat) (n i : Nat) : Rat := evn (n - i) (fun j => F (i + j)) x
theorem hor_top (F : Nat → Rat) (x : Rat) (n : Nat) : hor F x n n = 0 := by unfold hor; rw [Nat.sub_self]; rfl
theorem hor_step (F : Nat → Rat) (x : Rat) {n i : Nat} (h : i < n) : hor F x n i = hor F x n (i + 1) * x + F i := by
  unfold hor
  obtain ⟨m, hm⟩ : ∃ m, n - i = m + 1 := ⟨n - i - 1, by omega⟩
  rw [hm, evn_tl, show n - (i + 1) = m from by omega]
  have : tl (fun j => F (i + j)) = fun j => F (i + 1 + j) := by funext j; show F (i + (j + 1)) = _; rw [show i + (j + 1) = i + 1 + j from by omega]
  rw [this]; show F (i + 0) + _ = _; rw [Nat.add_zero]; grind
theorem hor_zero (F : Nat → Rat) (x : Rat) (n : Nat) : hor F x n 0 = evn n F x := by unfold hor; simp
theorem evn_qsz {F : Nat → Rat} {x : Rat} {s t : Nat} (hF : ∀ i, qsz (F i) ≤ s) (hx : qsz x ≤ t) (n : Nat) : qsz (evn n F x) ≤ 1 + n * (s + t + 1) := by
  induction n generalizing F with
  | zero => show qsz 0 ≤ _; rw [qsz_zero]; omega
  | succ n ih =>
    rw [evn_tl]
    have h1 := qsz_add (F 0) (x * evn n (tl F) x)
    have h2 := qsz_mul x (evn n (tl F) x)
    have h3 := ih (F := tl F) fun i => hF (i + 1)
    have h4 := hF 0
    rw [Nat.succ_mul]; omega
theorem hor_qsz {F : Nat → Rat} {x : Rat} {s t : Nat} (hF : ∀ i, qsz (F i) ≤ s) (hx : qsz x ≤ t) (n i : Nat) : qsz (hor F x n i) ≤ 1 + n * (s + t + 1) := by
  have h1 := evn_qsz (F := fun j => F (i + j)) (fun j => hF (i + j)) hx (n - i)
  have h2 : (n - i) * (s + t + 1) ≤ n * (s + t + 1) := Nat.mul_le_mul_right _ (by omega)
  unfold hor; omega
theorem ev_qsz {F : Nat → Rat} {x : Rat} {s t n : Nat} (hs : Sup n F) (hF : ∀ i, qsz (F i) ≤ s) (hx : qsz x ≤ t) : qsz (ev F x) ≤ 1 + n * (s + t + 1) := by
  rw [ev_eq hs]; exact evn_qsz hF hx n
/-- Lagrange's term for the point i out of n. -/
noncomputable def lgt (X Y : Nat → Rat) (n i : Nat) : Nat → Rat := psc (Y i / ev (lgp X i n) (X i)) (lgp X i n)
/-- The sum of the first m terms. -/
noncomputable def lgs (X Y : Nat → Rat) (n : Nat) : Nat → Nat → Rat
  | 0 => pz
  | m + 1 => pad (lgs X Y n m) (lgt X Y n m)
def Apart (X : Nat → Rat) (n : Nat) : Prop := ∀ i k, i < n → k < i → X i ≠ X k
theorem Apart.ne {X : Nat → Rat} {n : Nat} (h : Apart X n) {i k : Nat} (hi : i < n) (hk : k < n) (e : k ≠ i) : X i ≠ X k := by
  rcases Nat.lt_or_ge k i with l | l
  · exact h i k hi l
  · exact fun e2 => h k i hk (by omega) e2.symm
theorem lgt_sup (X Y : Nat → Rat) {n i : Nat} (h : i < n) : Sup n (lgt X Y n i) := ((lgp_sup X i n).2 h).psc _
theorem lgs_sup (X Y : Nat → Rat) (n : Nat) : ∀ m, m ≤ n → Sup n (lgs X Y n m) := by
  intro m
  induction m with
  | zero => intro _; exact Sup.pz n
  | succ m ih => intro h; exact (ih (by omega)).pad (lgt_sup X Y h)
theorem ev_lgs {X Y : Nat → Rat} {n : Nat} (h : Apart X n) {k : Nat} (hk : k < n) : ∀ m, m ≤ n → ev (lgs X Y n m) (X k) = if k < m then Y k else 0 := by
  intro m
  induction m with
  | zero => intro _; show ev pz _ = _; rw [ev_pz, if_neg (by omega)]
  | succ m ih =>
    intro hm
    show ev (pad (lgs X Y n m) (lgt X Y n m)) (X k) = _
    rw [ev_pad ⟨n, lgs_sup X Y n m (by omega)⟩ ⟨n, lgt_sup X Y hm⟩, ih (by omega)]
    unfold lgt
    rw [ev_psc _ (lgp_fin _ _ _)]
    by_cases e : k = m
    · subst e
      have := lgp_ne X (i := k) (n := n) (x := X k) fun j hj hne => h.ne hk hj hne
      rw [if_neg (by omega), if_pos (by omega)]; grind
    · rw [lgp_root X hk e]
      by_cases l : k < m
      · rw [if_pos l, if_pos (by omega)]; grind
      · rw [if_neg l, if_neg (by omega)]; grind
/-- There is one polynomial through n points. -/
theorem through_uniq {X : Nat → Rat} {n : Nat} (h : Apart X n) {F G : Nat → Rat} (hF : Sup n F) (hG : Sup n G) (e : ∀ k, k < n → ev F (X k) = ev G (X k)) : F = G := by
  have hz : psb F G = pz := by
    refine many_roots (l := (List.range n).map X) (by simpa using hF.psb hG) ?_ ?_
    · rw [List.nodup_iff_pairwise_ne, List.pairwise_map]
      refine List.Pairwise.imp_of_mem (R := fun a b => a < b) ?_ List.pairwise_lt_range
      intro a b ha hb hab
      exact fun e => h b a (List.mem_range.1 hb) hab e.symm
    · intro x hx
      obtain ⟨k, hk, rfl⟩ := List.mem_map.1 hx
      rw [ev_psb ⟨n, hF⟩ ⟨n, hG⟩, e k (List.mem_range.1 hk)]; grind
  funext i
  have := congrFun hz i
  simp only [psb, pz] at this; grind
theorem lgt_cd {X Y : Nat → Rat} {n i : Nat} (hn : n ≤ 12) (hX : ∀ k, k < n → qsz (X k) ≤ 2) (hY : ∀ k, k < n → qsz (Y k) ≤ 2) (hi : i < n) : CD 1260 (lgt X Y n i) ∧ qsz (ev (lgp X i n) (X i)) ≤ 1171 ∧ CD 87 (lgp X i n) := by
  have h1 := lgp_cd i n hX (by omega)
  have h2 := ev_qsz (lgp_sup X i n).1 (fun j => h1.elem j) (hX i hi)
  have h3 : (n + 1) * (3 + 7 * n + 2 + 1) ≤ 13 * 90 := Nat.mul_le_mul (by omega) (by omega)
  have h4 := qsz_div (Y i) (ev (lgp X i n) (X i))
  have h5 := hY i hi
  exact ⟨(h1.psc _).mono (by omega), by omega, h1.mono (by omega)⟩
theorem lgs_cd {X Y : Nat → Rat} {n : Nat} (hn : n ≤ 12) (hX : ∀ k, k < n → qsz (X k) ≤ 2) (hY : ∀ k, k < n → qsz (Y k) ≤ 2) : ∀ m, m ≤ n → CD (1 + m * 1261) (lgs X Y n m) := by
  intro m
  induction m with
  | zero => intro _; exact CD.pz
  | succ m ih =>
    intro h
    exact ((ih (by omega)).pad (lgt_cd hn hX hY h).1).mono (by omega)
/-- The product of the first n factors. -/
def nbs (X : Nat → Rat) (n : Nat) : Nat → Rat := lgp X n n
theorem lgp_past (X : Nat → Rat) {i j n : Nat} (hi : n ≤ i) (hj : n ≤ j) : lgp X i n = lgp X j n := by
  induction n with
  | zero => rfl
  | succ n ih => rw [lgp_succ, lgp_succ, if_neg (by omega), if_neg (by omega), ih (by omega) (by omega)]
theorem nbs_succ (X : Nat → Rat) (n : Nat) : nbs X (n + 1) = cv (nbs X n) (lin (X n)) := by
  unfold nbs
  rw [lgp_succ, if_neg (by omega), lgp_past X (i := n + 1) (j := n) (by omega) (by omega)]
theorem nbs_sup (X : Nat → Rat) (n : Nat) : Sup (n + 1) (nbs X n) := (lgp_sup X n n).1
theorem nbs_cd {X : Nat → Rat} {n : Nat} (hn : n ≤ 12) (hX : ∀ k, k < n → qsz (X k) ≤ 2) : CD 87 (nbs X n) := (lgp_cd n n hX (by omega)).mono (by omega)
/-- Newton's number for the next point. -/
noncomputable def nwc (X Y : Nat → Rat) (k : Nat) : Rat := (Y k - ev (lgs X Y k k) (X k)) / ev (nbs X k) (X k)
theorem nw_step {X Y : Nat → Rat} {k : Nat} (h : Apart X (k + 1)) : pad (lgs X Y k k) (psc (nwc X Y k) (nbs X k)) = lgs X Y (k + 1) (k + 1) ∧ ev (nbs X k) (X k) ≠ 0 := by
  have hk : Apart X k := fun i j hi hj => h i j (by omega) hj
  have s1 := lgs_sup X Y k k (Nat.le_refl _)
  have s2 := nbs_sup X k
  have hne : ev (nbs X k) (X k) ≠ 0 := lgp_ne X fun j hj _ => h k j (by omega) hj
  refine ⟨through_uniq h ((s1.mono (by omega)).pad (s2.psc _)) (lgs_sup X Y (k + 1) (k + 1) (Nat.le_refl _)) fun j hj => ?_, hne⟩
  rw [ev_lgs h hj (k + 1) (Nat.le_refl _), if_pos hj, ev_pad ⟨_, s1⟩ ⟨_, s2.psc _⟩, ev_psc _ ⟨_, s2⟩]
  by_cases e : j = k
  · subst e; unfold nwc; grind
  · have hjk : j < k := by omega
    rw [ev_lgs hk hjk k (Nat.le_refl _), if_pos hjk]
    have := lgp_root X hjk e
    unfold nbs; rw [this]; grind
/-- How long the numbers are. -/
theorem nw_room {X Y : Nat → Rat} {k : Nat} (hk : k < 12) (hX : ∀ i, i < k + 1 → qsz (X i) ≤ 2) (hY : ∀ i, i < k + 1 → qsz (Y i) ≤ 2) :
    CD 15133 (lgs X Y k k) ∧ CD 87 (nbs X k) ∧ qsz (ev (lgs X Y k k) (X k)) ≤ 181633 ∧ qsz (ev (nbs X k) (X k)) ≤ 1081 ∧ qsz (nwc X Y k) ≤ 182718 := by
  have h1 := (lgs_cd (X := X) (Y := Y) (n := k) (by omega) (fun i hi => hX i (by omega)) (fun i hi => hY i (by omega)) k (Nat.le_refl _)).mono (t := 15133) (by omega)
  have h2 := nbs_cd (X := X) (n := k) (by omega) (fun i hi => hX i (by omega))
  have h3 := ev_qsz (lgs_sup X Y k k (Nat.le_refl _)) (fun j => h1.elem j) (hX k (by omega))
  have h4 := ev_qsz (nbs_sup X k) (fun j => h2.elem j) (hX k (by omega))
  have h5 : k * (15133 + 2 + 1) ≤ 12 * (15133 + 2 + 1) := Nat.mul_le_mul_right _ (by omega)
  have h6 : (k + 1) * (87 + 2 + 1) ≤ 12 * (87 + 2 + 1) := Nat.mul_le_mul_right _ (by omega)
  have h7 := qsz_div (Y k - ev (lgs X Y k k) (X k)) (ev (nbs X k) (X k))
  have h8 := qsz_sub (Y k) (ev (lgs X Y k k) (X k))
  have h9 := hY k (by omega)
  refine ⟨h1, h2, by omega, by omega, ?_⟩
  unfold nwc; omega
end Go.Hp
namespace Go.Hp
def xgb : Nat → Nat
  | 0 => 22
  | 1 => 22
  | j + 2 => xgb j + 8 * (xgb (j + 1) + 1)
def xgq (j : Nat) : Nat := 1 + 8 * (xgb j + 8 * (xgb (j + 1) + 1) + xgb (j + 1) + 1)
def xga : Nat → Nat
  | 0 => 3
  | 1 => 3
  | j + 2 => xga j + (xgq j + xga (j + 1) + 1) + 1
theorem xgb_le : ∀ j, xgb j ≤ xgb (j + 1)
  | 0 => Nat.le_refl _
  | j + 1 => by show _ ≤ xgb j + 8 * (xgb (j + 1) + 1); omega
theorem xga_le : ∀ j, xga j ≤ xga (j + 1)
  | 0 => Nat.le_refl _
  | j + 1 => by show _ ≤ xga j + (xgq j + xga (j + 1) + 1) + 1; omega
theorem mono_of {f : Nat → Nat} (h : ∀ j, f j ≤ f (j + 1)) {i j : Nat} (k : i ≤ j) : f i ≤ f j := by
  induction j with
  | zero => obtain rfl : i = 0 := by omega
            exact Nat.le_refl _
  | succ j ih =>
    rcases Nat.eq_or_lt_of_le k with e | e
    · rw [e]; exact Nat.le_refl _
    · exact Nat.le_trans (ih (by omega)) (h j)
theorem xgb7 : xgb 7 = 7310526 := rfl
theorem xga7 : xga 7 = 76218651 := rfl
def XgSt (F0 G0 : Nat → Rat) (j : Nat) (R S U N : Nat → Rat) : Prop :=
  (Fin_ R ∧ Fin_ S ∧ Fin_ U ∧ Fin_ N) ∧ (∀ E, Fin_ E → (Dv E R ∧ Dv E S ↔ Dv E F0 ∧ Dv E G0)) ∧
  (∃ V W, Fin_ V ∧ Fin_ W ∧ pad (cv U F0) (cv V G0) = R ∧ pad (cv N F0) (cv W G0) = S) ∧
  (CD (xgb j) R ∧ CD (xgb (j + 1)) S ∧ CD (xga j) U ∧ CD (xga (j + 1)) N) ∧ pl R ≤ 7 ∧ pl S + j ≤ 7 ∧ pl G0 ≤ 7 ∧
  ((j = 0 ∧ U = pone ∧ N = pz ∧ S = G0) ∨ (1 ≤ j ∧ pl N + pl R ≤ pl G0 + 1 ∧ pl U + pl R ≤ pl G0 + 1 ∧ pl S ≤ pl R ∧ R ≠ pz))
theorem XgSt.start {F G : Nat → Rat} (hF : Fin_ F) (hG : Fin_ G) (cF : CD 22 F) (cG : CD 22 G) (lF : pl F ≤ 7) (lG : pl G ≤ 7) : XgSt F G 0 F G pone pz :=
  ⟨⟨hF, hG, pone_fin, Fin_.pz⟩, fun _ _ => Iff.rfl, ⟨pz, pone, Fin_.pz, pone_fin, by rw [pone_cv, pz_cv]; funext n; simp only [pad, pz]; grind, by rw [pone_cv, pz_cv]; funext n; simp only [pad, pz]; grind⟩,
    ⟨cF, cG, CD.pone, CD.pz.mono (by show 1 ≤ 3; omega)⟩, lF, lG, lG, .inl ⟨rfl, rfl, rfl, rfl⟩⟩
theorem XgSt.step {F0 G0 R S U N : Nat → Rat} {j : Nat} (h : XgSt F0 G0 j R S U N) (h0 : S ≠ pz) : XgSt F0 G0 (j + 1) S (pr R S) N (psb U (cv (pq R S) N)) := by
  obtain ⟨⟨hR, hS, hU, hN⟩, hd, ⟨V, W, hV, hW, e1, e2⟩, ⟨cR, cS, cU, cN⟩, lR, lS, lG, hj⟩ := h
  have hp := pl_pos hS h0
  have hs := pl_le (pr_sup hR hS h0)
  have hR8 : Sup (8 + pl S - 1) R := (pl_sup hR).mono (by omega)
  have q8 := pq_sup hR8 hS h0
  have hq := pq_fin R S
  have c1 := CD.pr hR8 hS h0 cR cS
  have c2 := CD.pq hR8 hS h0 cR cS
  refine ⟨⟨hS, pr_fin hR hS, hN, hU.psb (hq.cv hN)⟩, fun E hE => by rw [dv_step]; exact hd E hE, ⟨W, psb V (cv (pq R S) W), hW, hV.psb (hq.cv hW), e2, ?_⟩,
    ⟨cS, c1, cN, cU.psb (CD.cv q8 (by omega) c2 cN)⟩, by omega, by omega, lG, .inr ?_⟩
  · show _ = psb R (cv (pq R S) S)
    rw [psb_cv, psb_cv, cv_assoc, cv_assoc, ← e2, cv_pad]
    conv => rhs; rw [← e1]
    funext n; simp only [pad, psb]; grind
  · rcases hj with ⟨rfl, rfl, rfl, rfl⟩ | ⟨hj, d1, d2, d3, d4⟩
    · have e : psb pone (cv (pq R S) pz) = pone := by rw [cv_pz]; funext n; simp only [psb, pz]; grind
      have l1 := pl_le pone_sup
      rw [e, pl_pz]
      exact ⟨by omega, by omega, by omega, by omega, h0⟩
    · have q1 := pq_sup (n := pl R - pl S + 1) ((pl_sup hR).mono (by omega)) hS h0
      have l1 : pl (psb U (cv (pq R S) N)) ≤ pl G0 + 1 - pl S := pl_le (((pl_sup hU).mono (by omega)).psb ((q1.cv (pl_sup hN)).mono (by omega)))
      exact ⟨by omega, by omega, by omega, by omega, h0⟩
/-- What comes out. -/
theorem XgSt.end_ {F0 G0 R S U N : Nat → Rat} {j : Nat} (h : XgSt F0 G0 j R S U N) (h0 : S = pz) (hF : Fin_ F0) (hG : Fin_ G0) (hg : G0 ≠ pz) (cF : CD 22 F0) (cG : CD 22 G0) (lF : pl F0 ≤ 7) :
    R ≠ pz ∧ CD 7310526 R ∧ CD 14621052 (mn R) ∧ CD 76218651 U ∧ CD 83529177 (psc (1 / ld R) U) ∧ pl U ≤ 7 ∧ 1 ≤ pl R ∧ pl R ≤ 7 ∧
    pq G0 (mn R) ≠ pz ∧ CD 1052715993 (pq G0 (mn R)) ∧ pl (pq G0 (mn R)) ≤ 7 ∧
    CD 8505257129 (pr (psc (1 / ld R) U) (pq G0 (mn R))) ∧ pl (pr (psc (1 / ld R) U) (pq G0 (mn R))) ≤ 7 ∧
    CD 8519878205 (psb (mn R) (cv (pr (psc (1 / ld R) U) (pq G0 (mn R))) F0)) ∧ pl (psb (mn R) (cv (pr (psc (1 / ld R) U) (pq G0 (mn R))) F0)) ≤ 14 ∧
    (∀ i, qsz (pq (psb (mn R) (cv (pr (psc (1 / ld R) U) (pq G0 (mn R))) F0)) G0 i) ≤ 8519878572) ∧
    IsX F0 G0 (mn R) (pr (psc (1 / ld R) U) (pq G0 (mn R))) (pq (psb (mn R) (cv (pr (psc (1 / ld R) U) (pq G0 (mn R))) F0)) G0) := by
  subst h0
  obtain ⟨⟨hR, hS, hU, hN⟩, hd, ⟨V, W, hV, hW, e1, e2⟩, ⟨cR, cS, cU, cN⟩, lR, lS, lG, hj⟩ := h
  rcases hj with ⟨rfl, rfl, rfl, e⟩ | ⟨hj, d1, d2, d3, d4⟩
  · exact absurd e.symm hg
  have pR := pl_pos hR d4
  have cR' : CD 7310526 R := cR.mono (by rw [← xgb7]; exact mono_of xgb_le (by omega))
  have cU' : CD 76218651 U := cU.mono (by rw [← xga7]; exact mono_of xga_le (by omega))
  have hD := mn_fin hR
  have cD : CD 14621052 (mn R) := cR'.mn.mono (by omega)
  have hI : IsG F0 G0 (mn R) := (IsG.zero hR).of hd
  have hD0 := mn_ne hR d4
  have lD := mn_pl hR
  obtain ⟨A, hA, eA⟩ := hI.2.2.1
  obtain ⟨Q, hQ, eQ⟩ := hI.2.2.2.1
  have hper : pq G0 (mn R) = Q := by
    have := (pq_mul hQ hD hD0).1
    rw [← eQ] at this; exact this
  have hQ0 : Q ≠ pz := fun e => hg (by rw [eQ, e, pz_cv])
  have lQ : pl G0 = pl Q + pl (mn R) - 1 := by rw [eQ]; exact pl_cv hQ hD hQ0 hD0
  have pQ := pl_pos hQ hQ0
  have cQ : CD 1052715993 Q := by
    rw [← hper]
    exact (CD.pq (n := 8) ((pl_sup hG).mono (by omega)) hD hD0 cG cD).mono (by omega)
  have c1 : qsz (1 / ld R) ≤ 7310526 := by
    have e : 1 / ld R = (ld R)⁻¹ := by rw [Rat.div_def, Rat.one_mul]
    rw [e]; exact Nat.le_trans (qsz_inv _) (cR'.elem _)
  have cU1 : CD 83529177 (psc (1 / ld R) U) := (cU'.psc _).mono (by omega)
  have hU1 : Fin_ (psc (1 / ld R) U) := hU.psc _
  have lU1 : pl (psc (1 / ld R) U) ≤ 7 := Nat.le_trans (pl_le ((pl_sup hU).psc _)) (by omega)
  rw [hper]
  obtain ⟨U1, hU1e⟩ : ∃ U1, U1 = psc (1 / ld R) U := ⟨_, rfl⟩
  rw [← hU1e] at cU1 hU1 lU1 ⊢
  have hU2 := pr_fin hU1 hQ
  have cU2 : CD 8505257129 (pr U1 Q) := (CD.pr (n := 8) ((pl_sup hU1).mono (by omega)) hQ hQ0 cU1 cQ).mono (by omega)
  have sU2 := pr_sup hU1 hQ hQ0
  have lU2 := pl_le sU2
  have cX : CD 8519878205 (psb (mn R) (cv (pr U1 Q) F0)) := (cD.psb (CD.cv sU2 (by omega) cU2 cF)).mono (by omega)
  have hX : Fin_ (psb (mn R) (cv (pr U1 Q) F0)) := hD.psb (hU2.cv hF)
  have lX : pl (psb (mn R) (cv (pr U1 Q) F0)) ≤ 14 := pl_le (((pl_sup hD).mono (by omega)).psb (((pl_sup hU2).cv (pl_sup hF)).mono (by omega)))
  have key : psb (mn R) (cv (pr U1 Q) F0) = cv (pad (psc (1 / ld R) V) (cv (pq U1 Q) A)) G0 := by
    have k1 : cv (pr U1 Q) F0 = psb (cv U1 F0) (cv (cv (pq U1 Q) Q) F0) := by
      unfold pr; rw [psb_cv]
    have k2 : cv (cv (pq U1 Q) Q) F0 = cv (cv (pq U1 Q) A) G0 := by
      rw [cv_assoc, cv_assoc]
      congr 1
      conv => lhs; rw [eA]
      conv => rhs; rw [eQ]
      rw [← cv_assoc, ← cv_assoc, cv_comm Q A]
    have k3 : mn R = pad (cv U1 F0) (cv (psc (1 / ld R) V) G0) := by
      rw [hU1e, psc_cv, psc_cv]
      show psc (1 / ld R) R = _
      conv => lhs; rw [← e1]
      funext n; simp only [pad, psc]; grind
    rw [k1, k2, pad_cv]
    conv => lhs; rw [k3]
    funext n; simp only [pad, psb]; grind
  have hB : Fin_ (pad (psc (1 / ld R) V) (cv (pq U1 Q) A)) := (hV.psc _).pad ((pq_fin _ _).cv hA)
  have hV2 : pq (psb (mn R) (cv (pr U1 Q) F0)) G0 = pad (psc (1 / ld R) V) (cv (pq U1 Q) A) := by
    rw [key]; exact (pq_mul hB hG hg).1
  refine ⟨d4, cR', cD, cU', cU1, by omega, pR, lR, hQ0, cQ, by omega, cU2, by omega, cX, lX, fun i => ?_, hI, hU2, pq_fin _ _, ?_, sU2.mono (by omega)⟩
  · have := pq_qsz (n := 15) ((pl_sup hX).mono (by omega)) hG hg cX cG i
    omega
  · rw [hV2, ← key]
    funext n; simp only [pad, psb]; grind
end Go.Hp
namespace Go.Hp
open Go.RowKit
end Go.Hp
namespace Go.Proofs.YtedoifjbgokmcaaGreat
open Go.RowKit Go.Hp
set_option maxRecDepth 20000 in
set_option maxHeartbeats 2000000 in
theorem eval_rp (v u : Value) (l : List Rat) (x : Rat) (s t : Nat) (w : World) (hv : HsV 0 w v l) (hu : HasQ w u x) (hs : ∀ i, qsz (co l i) ≤ s) (ht : qsz x ≤ t) (hK : 1 + l.length * (s + t + 1) + s + t + 1 ≤ 274877906944) (hn : l.length ≤ 549755813888) :
    Calls Tryz.prog 75 #[v, u] w (Gives w fun r w' => IsQ w' r (evn l.length (co l) x)) := by
  have HU := Lib.hid hu
  obtain ⟨b1, A1, n1, c1, b1', A1', n1', c1', x0, y0, rfl, -⟩ := hu.form
  obtain ⟨A, c, rfl, hl, hc, hA⟩ := hv
  clear hu
  have HA : Hid (HsAt 0 w A l) := Lib.hid hA; clear hA
  have HS := Lib.hid (And.intro hs ht)
  have HH := Lib.hid (fun i => hor_qsz (x := x) hs ht l.length i)
  clear hs ht
  go_enter Tryz.func75, Tryz.ntmps75
  go_wp2_with fail
  refine Calls.mono (of_rq 0 _ (by omega) (by omega)) ?_
  rintro e w1 ⟨r1, rfl, hr1, hx1⟩
  obtain ⟨b5, A5, n5, c5, b6, A6, n6, c6, rfl⟩ := hr1.cells
  go_upto_region 2 with (fail)
  obtain ⟨W9, eW9, e9, x9⟩ := Box.made w1 40 #[.bool b5, .slice A5 n5 c5, .bool b6, .slice A6 n6 c6] (by simp [isDig])
  rw [← eW9]
  clear eW9
  have hgb : w.heap.size + 1 + 1 ≤ w1.heap.size := by have := hx1.size; simpa using this
  have eb := BoxQ.mk e9 (hr1.ext x9)
  replace hx1 := hx1.trans x9
  clear x9 hr1 e9
  generalize w1.heap.size = gb at *
  go_wp2
  go_loopw [6] (fun iv wx => ∃ (i : Nat), i ≤ l.length ∧ (∃ z : Int, z + 1 = i ∧ iv = .int .i64 z) ∧ BoxQ wx gb 40 (hor (co l) x l.length i) ∧ Ext ((w.alloc (.cells #[.bool b1, .slice A1 n1 c1, .bool b1', .slice A1' n1' c1'] 40)).alloc (.cells #[.bool false, .slice none 0 0, .bool false, .slice none 0 0] 40)) wx) (fun iv _ => (intOf iv + 1).toNat)
  case atStart => exact ⟨l.length, Nat.le_refl _, ⟨_, by omega, rfl⟩, by rw [hor_top]; exact eb, hx1⟩
  case round =>
    clear eb hx1
    obtain ⟨i, hi, ⟨z, hz, rfl⟩, eb, hx⟩ := hrel
    obtain ⟨z1, Z1, zn, zc, z2, Z2, zn', zc', ez, hzz⟩ := eb
    have Hz := Lib.hid hzz; clear hzz
    by_cases hi0 : 0 < i
    · obtain ⟨k, rfl⟩ : ∃ k, i = k + 1 := ⟨i - 1, by omega⟩
      obtain rfl : z = (k : Int) := by omega
      clear hz hi0
      have hkl : k < l.length := by omega
      obtain ⟨g, o, b, A2, n, c2, b', A2', n', c2', rfl, _, q0, q1, q2, q3, hq⟩ := HA.out.at_ (j := k) hkl
      rw [← co_lt] at hq
      replace q0 := hx.a2.cell q0
      replace q1 := hx.a2.cell q1
      replace q2 := hx.a2.cell q2
      replace q3 := hx.a2.cell q3
      have ca0 := hx.a1.box (g := w.heap.size) (i := 0) rfl rfl
      have ca1 := hx.a1.box (g := w.heap.size) (i := 1) rfl rfl
      have ca2 := hx.a1.box (g := w.heap.size) (i := 2) rfl rfl
      have ca3 := hx.a1.box (g := w.heap.size) (i := 3) rfl rfl
      have Hq := Lib.hid hq; clear hq
      have HR := Lib.hid (show qsz (hor (co l) x l.length (k + 1)) ≤ 274877906944 ∧ qsz (hor (co l) x l.length (k + 1) * x) ≤ 274877906944 ∧ qsz (co l k) < 274877906944 by
        have h1 := HH.out (k + 1)
        have h2 := qsz_mul (hor (co l) x l.length (k + 1)) x
        have h3 := HS.out.2
        have h4 := HS.out.1 k
        omega)
      obtain ⟨cez0, cez1, cez2, cez3⟩ := ez.cells4
      have fez := ez.frozen
      go_wp2_with fail
      refine wp_region_par (k := 8) (D := [15, 16, 17, 18, 19, 20, 21, 22]) (T := [[], [], [0, 1], [], [], [3, 4], [3, 4, 5], [0, 1, 2, 3, 4, 5, 6], [0, 1, 2, 3, 4, 5, 6, 7]]) (EK := [5, 3, 0, 6]) (EV := [?e1x0, ?e1x1, ?e1x2, ?e1x3]) (VL := [(kv ?v1x0), (kv ?v1x1), (fun γ => γ 2), (kv ?v1x3), (kv ?v1x4), (kv ?v1x5), (kv ?v1x6), (fun γ => γ 7)]) (FL := fun γ w' => [True, True, IsQ w' (γ 2) (hor (co l) x l.length (k + 1) * x), True, True, True, True, IsQ w' (γ 7) (hor (co l) x l.length (k + 1) * x + co l k)]) ?hE1 (by kernel_rfl) (by kernel_rfl) (by rfl) (by kernel_rfl) ?hloc1 ?hmono1 ?hstep1 ?htail1
      case hE1 => refine ⟨?_, ?_, ?_, ?_, trivial⟩ <;> (simp only [List.getElem?_toArray, List.getElem?_cons_succ, List.getElem?_cons_zero]; rfl)
      case hstep1 =>
        refine ⟨⟨⟨⟨⟨⟨⟨⟨trivial, ?_⟩, ?_⟩, ?_⟩, ?_⟩, ?_⟩, ?_⟩, ?_⟩, ?_⟩
        · intro γ w' he hf; clear hf; refine ⟨trivial, ?_⟩; intro R hR
          have hc := he.cells
          have cq0 := he.cell q0
          have cq1 := he.cell q1
          have cq2 := he.cell q2
          have cq3 := he.cell q3
          have cq4 := he.cell ca0
          have cq5 := he.cell ca1
          have cq6 := he.cell ca2
          have cq7 := he.cell ca3
          have cq8 := he.cell cez0
          have cq9 := he.cell cez1
          have cq10 := he.cell cez2
          have cq11 := he.cell cez3
          go_simp
          (try go_ints); (try (rw [if_neg (by omega)])); (try (rw [if_pos (by omega)])); (try go_simp); (try go_ints)
          refine hR _ _ (Ext.refl _) ?_ trivial
          rfl
        · intro γ w' he hf; clear hf; refine ⟨trivial, ?_⟩; intro R hR
          have hc := he.cells
          have cq0 := he.cell q0
          have cq1 := he.cell q1
          have cq2 := he.cell q2
          have cq3 := he.cell q3
          have cq4 := he.cell ca0
          have cq5 := he.cell ca1
          have cq6 := he.cell ca2
          have cq7 := he.cell ca3
          have cq8 := he.cell cez0
          have cq9 := he.cell cez1
          have cq10 := he.cell cez2
          have cq11 := he.cell cez3
          go_simp
          (try go_ints); (try (rw [if_neg (by omega)])); (try (rw [if_pos (by omega)])); (try go_simp); (try go_ints)
          refine hR _ _ (Ext.refl _) ?_ trivial
          rfl
        · intro γ w' he hf; clear hf; refine ⟨trivial, ?_⟩; intro R hR
          go_simp
          refine Calls.mono (show Calls _ _ _ w' (Gives w' fun r w'' => IsQ w'' (r) (hor (co l) x l.length (k + 1) * x)) from mul_rq _ _ _ _ w' ((Hz.out.ext he).has HR.out.1) (HU.out.ext (hx.a2.trans he))) ?_
          rintro e w2 ⟨v, rfl, hv, hx⟩
          exact ⟨v, rfl, hR v w2 hx rfl hv⟩
        · intro γ w' he hf; clear hf; refine ⟨trivial, ?_⟩; intro R hR
          have hc := he.cells
          go_simp
          (try go_ints); (try (rw [if_neg (by omega)])); (try (rw [if_pos (by omega)])); (try go_simp); (try go_ints)
          refine hR _ _ (Ext.refl _) ?_ trivial
          rfl
        · intro γ w' he hf; clear hf; refine ⟨trivial, ?_⟩; intro R hR
          have hc := he.cells
          go_simp
          (try go_ints); (try (rw [if_neg (by omega)])); (try (rw [if_pos (by omega)])); (try go_simp); (try go_ints)
          refine hR _ _ (Ext.refl _) ?_ trivial
          rfl
        · intro γ w' he hf; clear hf; refine ⟨trivial, ?_⟩; intro R hR
          have hc := he.cells
          go_simp
          (try go_ints); (try (rw [if_neg (by omega)])); (try (rw [if_pos (by omega)])); (try go_simp); (try go_ints)
          refine hR _ _ (Ext.refl _) ?_ trivial
          rfl
        · intro γ w' he hf; clear hf; refine ⟨trivial, ?_⟩; intro R hR
          have hc := he.cells
          have cq0 := he.cell q0
          have cq1 := he.cell q1
          have cq2 := he.cell q2
          have cq3 := he.cell q3
          have cq4 := he.cell ca0
          have cq5 := he.cell ca1
          have cq6 := he.cell ca2
          have cq7 := he.cell ca3
          have cq8 := he.cell cez0
          have cq9 := he.cell cez1
          have cq10 := he.cell cez2
          have cq11 := he.cell cez3
          go_simp
          (try go_ints); (try (rw [if_neg (by omega)])); (try (rw [if_pos (by omega)])); (try go_simp); (try go_ints)
          refine hR _ _ (Ext.refl _) ?_ trivial
          rfl
        · intro γ w' he hf; have f2 : IsQ w' (γ 2) (hor (co l) x l.length (k + 1) * x) := hf 2 (by decide); clear hf; refine ⟨trivial, ?_⟩; intro R hR
          go_simp
          refine Calls.mono (show Calls _ _ _ w' (Gives w' fun r w'' => IsQ w'' (r) (hor (co l) x l.length (k + 1) * x + co l k)) from add_rq _ _ _ _ w' (f2.has HR.out.2.1) (Hq.out.ext (hx.a2.trans he)) (by have := HR.out; omega)) ?_
          rintro e w2 ⟨v, rfl, hv, hx⟩
          exact ⟨v, rfl, hR v w2 hx rfl hv⟩
      case hloc1 =>
        exact ⟨⟨⟨⟨⟨⟨⟨⟨trivial, (fun γ γ' h => ⟨rfl, fun _ => rfl⟩)⟩, (fun γ γ' h => ⟨rfl, fun _ => rfl⟩)⟩, (fun γ γ' h => ⟨h 2 rfl, fun w' => (congrArg (fun a => IsQ w' (a) (hor (co l) x l.length (k + 1) * x)) (h 2 rfl))⟩)⟩, (fun γ γ' h => ⟨rfl, fun _ => rfl⟩)⟩, (fun γ γ' h => ⟨rfl, fun _ => rfl⟩)⟩, (fun γ γ' h => ⟨rfl, fun _ => rfl⟩)⟩, (fun γ γ' h => ⟨rfl, fun _ => rfl⟩)⟩, (fun γ γ' h => ⟨h 7 rfl, fun w' => (congrArg (fun a => IsQ w' (a) (hor (co l) x l.length (k + 1) * x + co l k)) (h 7 rfl))⟩)⟩
      case hmono1 =>
        exact ⟨⟨⟨⟨⟨⟨⟨⟨trivial, (fun γ wA w' e h => h)⟩, (fun γ wA w' e h => h)⟩, (fun γ wA w' e h => (show IsQ wA (γ 2) (hor (co l) x l.length (k + 1) * x) from h).ext e)⟩, (fun γ wA w' e h => h)⟩, (fun γ wA w' e h => h)⟩, (fun γ wA w' e h => h)⟩, (fun γ wA w' e h => h)⟩, (fun γ wA w' e h => (show IsQ wA (γ 7) (hor (co l) x l.length (k + 1) * x + co l k) from h).ext e)⟩
      intro γ w6 hx6 hF
      have p2 : IsQ w6 (γ 2) (hor (co l) x l.length (k + 1) * x) := Each.get hF 2 (by decide)
      have p7 : IsQ w6 (γ 7) (hor (co l) x l.length (k + 1) * x + co l k) := Each.get hF 7 (by decide)
      clear hF
      simp only [fillAll, gV, kv, List.getD_cons_zero, List.getD_cons_succ, Act.put, List.setIfInBounds_toArray, List.set_cons_zero, List.set_cons_succ, List.toList_toArray, List.drop_succ_cons, List.drop_zero, List.drop_nil, Nat.zero_add, Nat.reduceAdd]
      generalize γ 2 = g2 at *
      generalize γ 7 = g7 at *
      clear γ
      clear cez0 cez1 cez2 cez3 fez ca0 ca1 ca2 ca3 q0 q1 q2 q3 p2 Hz Hq HR
      replace ez := ez.ext hx6
      replace hx := hx.trans hx6
      obtain ⟨b5, A5, n5, c5, b6, A6, n6, c6, rfl⟩ := p7.cells
      obtain ⟨cez0, cez1, cez2, cez3⟩ := ez.cells4
      have fez := ez.frozen
      go_wp2
      obtain ⟨W7, eW, ez', U⟩ := ez.put4 (.bool b5) (.slice A5 n5 c5) (.bool b6) (.slice A6 n6 c6) rfl rfl rfl rfl
      rw [← eW]
      clear eW ez
      replace p7 := p7.kd U.kd
      replace hx := U.from_ hx (by simp <;> omega)
      have ez := ez'
      clear U ez'
      clear cez0 cez1 cez2 cez3 fez hx6
      have eq := BoxQ.mk ez p7
      clear ez p7
      go_roundw
      case rel => exact ⟨k, by omega, ⟨(k : Int) - 1, by omega, by go_num⟩, by rw [hor_step _ _ hkl]; exact eq, hx⟩
      case measure => simp [intOf] <;> omega
    · obtain rfl : i = 0 := by omega
      have hz1 : z < 0 := by omega
      rw [hor_zero] at Hz
      have Hz2 := Lib.hid hz; clear hz
      obtain ⟨cez0, cez1, cez2, cez3⟩ := ez.cells4
      have fez := ez.frozen
      have hr := Hz.out
      have hx1 := hx
      clear hx
      have hc1 := hx1.cells
      have hf1 := hx1.frozens
      have Hfin := Lib.hid (fin_q hr hx1.a2 (NoDig.at_ hx1 (g := w.heap.size + 1) (by simp) (by simp [isDig])) (by omega))
      clear hr
      go_wp2
      refine bodyPost_ret (v := .agg #[.bool z1, .slice Z1 zn zc, .bool z2, .slice Z2 zn' zc']) (by simp [results, Tryz.results75, go_sem, hc1]) rfl ?_
      exact Hfin.out
/-! ### over polynomials -/
theorem add_rP (v u : Value) (F G : Nat → Rat) (s t : Nat) (w : World) (hv : IsP 0 w v F) (hu : IsP 0 w u G) (hs : ∀ i, qsz (F i) ≤ s) (ht : ∀ i, qsz (G i) ≤ t) (hst : s + t + 1 ≤ 274877906944) (hn : pl F ≤ 274877906944) (hm : pl G ≤ 274877906944) :
    Calls Tryz.prog 22 #[v, u] w (Gives w fun r w' => IsP w.heap.size w' r (pad F G)) := by
  obtain ⟨l, h1, h2, h3, rfl⟩ := hv.hs (fun i => by have := hs i; omega)
  obtain ⟨m, k1, k2, k3, rfl⟩ := hu.hs (fun i => by have := ht i; omega)
  exact add_rp v u l m s t w h1 k1 hs ht hst (by omega) (by omega)
theorem mul_rP (v u : Value) (F G : Nat → Rat) (s t : Nat) (w : World) (hv : IsP 0 w v F) (hu : IsP 0 w u G) (hs : ∀ i, qsz (F i) ≤ s) (ht : ∀ i, qsz (G i) ≤ t) (hn : pl F ≤ 274877906944) (hm : pl G ≤ 274877906944) (h0 : s ≤ 274877906944) (h00 : t ≤ 274877906944) (hst : 1 + (pl F + pl G) * (s + t + 1) ≤ 274877906944) :
    Calls Tryz.prog 26 #[v, u] w (Gives w fun r w' => IsP w.heap.size w' r (cv F G)) := by
  obtain ⟨l, h1, h2, h3, rfl⟩ := hv.hs (fun i => by have := hs i; omega)
  obtain ⟨m, k1, k2, k3, rfl⟩ := hu.hs (fun i => by have := ht i; omega)
  rw [← h2, ← k2] at hst
  exact mul_rp v u l m s t w h1 k1 hs ht hst (by omega) (by omega)
theorem scale_rP (v u : Value) (F : Nat → Rat) (ra : Rat) (s : Nat) (w : World) (hv : IsP 0 w v F) (hu : HasQ w u ra) (hs : ∀ i, qsz (F i) ≤ s) (hst : s + qsz ra ≤ 274877906944) (hn : pl F ≤ 274877906944) :
    Calls Tryz.prog 28 #[v, u] w (Gives w fun r w' => IsP w.heap.size w' r (psc ra F)) := by
  obtain ⟨l, h1, h2, h3, rfl⟩ := hv.hs (fun i => by have := hs i; omega)
  exact scale_rp v u l ra s w h1 hu hs hst (by omega)
end Go.Proofs.YtedoifjbgokmcaaGreat
namespace Go.Proofs.YtedoifjbgokmcaaGreat
open Go.RowKit Go.Hp
theorem normal_p (v : Value) (l : List Rat) (w : World) (hv : HsV 0 w v l) (hn : l.length ≤ 1099511627776) : Calls Tryz.prog 18 #[v] w (Gives w fun r w' => IsP w.heap.size w' r (co l)) :=
  Gives.imp (normal_qs v l w hv hn) fun _ _ h => IsP.of_trim h rfl
set_option maxRecDepth 20000 in
set_option maxHeartbeats 1000000 in
theorem monic_p (v : Value) (F : Nat → Rat) (s : Nat) (w : World) (hv : IsP 0 w v F) (hF : CD s F) (hs : 2 * s ≤ 274877906944) (hl : pl F ≤ 274877906944) : Calls Tryz.prog 47 #[v] w (Gives w fun r w' => IsP w.heap.size w' r (mn F)) := by
  have hf := hv.fin
  by_cases h0 : F = pz
  · obtain ⟨A, c, l, rfl, k1, k2, -⟩ := hv.form
    clear hv hf hF
    rw [h0, pl_pz] at k1 ⊢
    have H0 := Lib.hid h0; clear h0
    have b0 : (((0 : Nat) : Int) == 0) = true := rfl
    go_enter Tryz.func47, Tryz.ntmps47
    go_wp2
    go_ret
    rw [mn_pz]
    exact Gives.mk (IsP.nil _ _) (Ext.refl _)
  have hp := pl_pos hf h0
  have hld := ld_ne hf h0
  obtain ⟨l0, h1, h2, h3, h4⟩ := hv.hs (fun i => by have := hF.elem i; omega)
  have H1 := Lib.hid (And.intro h1 (And.intro h2 h4)); clear h1 h2 h3 h4
  obtain ⟨A, c, l, rfl, k1, k2, hA, k3, k4, k5⟩ := hv.form
  have HA := Lib.hid hA; clear hv hA
  obtain ⟨g, o, b, A1, n, c1, b', A1', n', c1', rfl, _, q0, q1, q2, q3, hq⟩ := HA.out.at_ (j := pl F - 1) (by omega)
  rw [← co_lt, k5] at hq
  have Hq := Lib.hid (hq.has (by have := hF.elem (pl F - 1); omega)); clear hq
  have HX := Lib.hid (And.intro hF (And.intro hf hld)); clear hF hf hld k3 k4 k5
  have b0 : ((pl F : Int) == 0) = false := by simp; omega
  have H0 := Lib.hid h0; clear h0
  obtain ⟨c0, hc0⟩ : ∃ c0, c0 = 1 / ld F := ⟨_, rfl⟩
  have Hc0 := Lib.hid hc0; clear hc0
  go_enter Tryz.func47, Tryz.ntmps47
  go_wp2_with fail
  go_cut [3] (fun pv wx => ∃ gc, pv = .pointer (some ⟨gc, 0, none⟩) ∧ BoxQ wx gc 40 c0 ∧ Ext w wx)
  case first =>
    refine wp_region_late (k := 12) (ℓ := 10) (nl := 1) (D := [9, 10, 11, 12, 13, 14, 15, 16, 8, 17, 18, 3]) (T := [[], [], [], [2], [2, 3], [1, 2, 3, 4], [1, 2, 3, 4, 5], [0, 1, 2, 3, 4, 5, 6], [0, 1, 2, 3, 4, 5, 6, 7], [0, 1, 2, 3, 4, 5, 6, 7, 8], [0, 1, 2, 3, 4, 5, 6, 7, 8], [], [0, 1, 2, 3, 4, 5, 6, 7, 8, 9, 11], [0, 1, 2, 3, 4, 5, 6, 7, 8, 9, 10, 11, 12]]) (EK := [0]) (EV := [?e1x0]) (VL := [(fun γ => γ 0), (kv ?v1x1), (kv ?v1x2), (kv ?v1x3), (kv ?v1x4), (kv ?v1x5), (kv ?v1x6), (fun γ => γ 7), (fun γ => γ 7), (fun γ => γ 9), (kv ?v1x10), (fun γ => γ 11)]) (FL := fun γ w' => [IsQ w' (γ 0) ((1 : Int) : Rat), True, True, True, True, True, True, TupQ w' (γ 7) c0, True, IsQ w' (γ 9) c0, True, NewAt w' (γ 11) w.heap.size #[.bool false, .slice none 0 0, .bool false, .slice none 0 0] 40]) _ rfl ?hE1 (by kernel_rfl) (by kernel_rfl) (by kernel_rfl) (by kernel_rfl) (by kernel_rfl) (by rfl) (by kernel_rfl) ?hloc1 ?hmono1 ?hstep1 ?htail1 ?hlate1
    case hE1 => refine ⟨?_, trivial⟩ <;> (simp only [List.getElem?_toArray, List.getElem?_cons_succ, List.getElem?_cons_zero]; rfl)
    case hstep1 =>
      refine ⟨⟨⟨⟨⟨⟨⟨⟨⟨⟨⟨⟨trivial, ?_⟩, ?_⟩, ?_⟩, ?_⟩, ?_⟩, ?_⟩, ?_⟩, ?_⟩, ?_⟩, ?_⟩, ?_⟩, ?_⟩
      · intro γ w' he hf; clear hf; refine ⟨trivial, ?_⟩; intro R hR
        go_simp
        refine Calls.mono (show Calls _ _ _ w' (Gives w' fun r w'' => IsQ w'' (r) ((1 : Int) : Rat)) from of_q 1 w' (by omega) (by omega)) ?_
        rintro e w2 ⟨v, rfl, hv, hx⟩
        exact ⟨v, rfl, hR v w2 hx rfl hv⟩
      · intro γ w' he hf; clear hf; refine ⟨trivial, ?_⟩; intro R hR
        have hc := he.cells
        go_simp
        (try go_ints); (try (rw [if_neg (by omega)])); (try (rw [if_pos (by omega)])); (try go_simp); (try go_ints)
        refine hR _ _ (Ext.refl _) ?_ trivial
        rfl
      · intro γ w' he hf; clear hf; refine ⟨trivial, ?_⟩; intro R hR
        have hc := he.cells
        go_simp
        (try go_ints); (try (rw [if_neg (by omega)])); (try (rw [if_pos (by omega)])); (try go_simp); (try go_ints)
        refine hR _ _ (Ext.refl _) ?_ trivial
        rfl
      · intro γ w' he hf; clear hf; refine ⟨trivial, ?_⟩; intro R hR
        have hc := he.cells
        go_simp
        (try go_ints); (try (rw [if_neg (by omega)])); (try (rw [if_pos (by omega)])); (try go_simp); (try go_ints)
        refine hR _ _ (Ext.refl _) ?_ trivial
        rfl
      · intro γ w' he hf; clear hf; refine ⟨trivial, ?_⟩; intro R hR
        have hc := he.cells
        go_simp
        (try go_ints); (try (rw [if_neg (by omega)])); (try (rw [if_pos (by omega)])); (try go_simp); (try go_ints)
        refine hR _ _ (Ext.refl _) ?_ trivial
        rfl
      · intro γ w' he hf; clear hf; refine ⟨trivial, ?_⟩; intro R hR
        have hc := he.cells
        go_simp
        (try go_ints); (try (rw [if_neg (by omega)])); (try (rw [if_pos (by omega)])); (try go_simp); (try go_ints)
        refine hR _ _ (Ext.refl _) ?_ trivial
        rfl
      · intro γ w' he hf; clear hf; refine ⟨trivial, ?_⟩; intro R hR
        have hc := he.cells
        have cq0 := he.cell q0
        have cq1 := he.cell q1
        have cq2 := he.cell q2
        have cq3 := he.cell q3
        go_simp
        (try go_ints); (try (rw [if_neg (by omega)])); (try (rw [if_pos (by omega)])); (try go_simp); (try go_ints)
        refine hR _ _ (Ext.refl _) ?_ trivial
        rfl
      · intro γ w' he hf; have f0 : IsQ w' (γ 0) ((1 : Int) : Rat) := hf 0 (by decide); clear hf; refine ⟨trivial, ?_⟩; intro R hR
        go_simp
        refine Calls.mono (show Calls _ _ _ w' (Gives w' fun r w'' => TupQ w'' (r) c0) from Hc0.out ▸ quo_q _ _ _ _ w' (f0.has (by decide)) (Hq.out.ext he) HX.out.2.2) ?_
        rintro e w2 ⟨v, rfl, hv, hx⟩
        exact ⟨v, rfl, hR v w2 hx rfl hv⟩
      · intro γ w' he hf; have f0 : IsQ w' (γ 0) ((1 : Int) : Rat) := hf 0 (by decide); have f7 : TupQ w' (γ 7) c0 := hf 7 (by decide); clear hf; refine ⟨trivial, ?_⟩; intro R hR
        have hc := he.cells
        go_simp
        (try go_ints); (try (rw [if_neg (by omega)])); (try (rw [if_pos (by omega)])); (try go_simp); (try go_ints)
        refine hR _ _ (Ext.refl _) ?_ trivial
        rfl
      · intro γ w' he hf; have f0 : IsQ w' (γ 0) ((1 : Int) : Rat) := hf 0 (by decide); have f7 : TupQ w' (γ 7) c0 := hf 7 (by decide); clear hf; refine ⟨trivial, ?_⟩; intro R hR
        obtain ⟨a, e, ha⟩ := f7
        go_simp
        exact hR _ _ (Ext.refl _) rfl ha
      · intro γ w' he hf; have f0 : IsQ w' (γ 0) ((1 : Int) : Rat) := hf 0 (by decide); have f7 : TupQ w' (γ 7) c0 := hf 7 (by decide); clear hf; refine ⟨trivial, ?_⟩; intro R hR
        obtain ⟨a, e, ha⟩ := f7
        have hc := he.cells
        go_simp
        (try go_ints); (try (rw [if_neg (by omega)])); (try (rw [if_pos (by omega)])); (try go_simp); (try go_ints)
        refine hR _ _ (Ext.refl _) ?_ trivial
        rfl
      · intro γ w' he hf; clear hf; refine ⟨trivial, ?_⟩; intro R hR
        go_simp
        exact hR _ _ ((Ext.refl _).alloc _) rfl (NewAt.mk (Nat.le_trans (by simp) he.size) (by simp [isDig]))
    case hloc1 =>
      exact ⟨⟨⟨⟨⟨⟨⟨⟨⟨⟨⟨⟨trivial, (fun γ γ' h => ⟨h 0 rfl, fun w' => (congrArg (fun a => IsQ w' (a) ((1 : Int) : Rat)) (h 0 rfl))⟩)⟩, (fun γ γ' h => ⟨rfl, fun _ => rfl⟩)⟩, (fun γ γ' h => ⟨rfl, fun _ => rfl⟩)⟩, (fun γ γ' h => ⟨rfl, fun _ => rfl⟩)⟩, (fun γ γ' h => ⟨rfl, fun _ => rfl⟩)⟩, (fun γ γ' h => ⟨rfl, fun _ => rfl⟩)⟩, (fun γ γ' h => ⟨rfl, fun _ => rfl⟩)⟩, (fun γ γ' h => ⟨h 7 rfl, fun w' => (congrArg (fun a => TupQ w' (a) c0) (h 7 rfl))⟩)⟩, (fun γ γ' h => ⟨(congrArg (fun a => a) (h 7 rfl)), fun _ => rfl⟩)⟩, (fun γ γ' h => ⟨h 9 rfl, fun w' => (congrArg (fun a => IsQ w' (a) c0) (h 9 rfl))⟩)⟩, (fun γ γ' h => ⟨rfl, fun _ => rfl⟩)⟩, (fun γ γ' h => ⟨h 11 rfl, fun w' => (congrArg (fun a => NewAt w' (a) w.heap.size #[.bool false, .slice none 0 0, .bool false, .slice none 0 0] 40) (h 11 rfl))⟩)⟩
    case hmono1 =>
      exact ⟨⟨⟨⟨⟨⟨⟨⟨⟨⟨⟨⟨trivial, (fun γ wA w' e h => (show IsQ wA (γ 0) ((1 : Int) : Rat) from h).ext e)⟩, (fun γ wA w' e h => h)⟩, (fun γ wA w' e h => h)⟩, (fun γ wA w' e h => h)⟩, (fun γ wA w' e h => h)⟩, (fun γ wA w' e h => h)⟩, (fun γ wA w' e h => h)⟩, (fun γ wA w' e h => (show TupQ wA (γ 7) c0 from h).ext e)⟩, (fun γ wA w' e h => h)⟩, (fun γ w w' e h => IsQ.ext h e)⟩, (fun γ wA w' e h => h)⟩, (fun γ wA w' e h => (show NewAt wA (γ 11) w.heap.size #[.bool false, .slice none 0 0, .bool false, .slice none 0 0] 40 from h).ext e)⟩
    case hlate1 =>
      intro γ w2 hx2 hF
      have p0 : IsQ w2 (γ 0) ((1 : Int) : Rat) := (Each.get hF 0 (by decide)).resolve_left (by decide)
      have p7 : TupQ w2 (γ 7) c0 := (Each.get hF 7 (by decide)).resolve_left (by decide)
      have p9 : IsQ w2 (γ 9) c0 := (Each.get hF 9 (by decide)).resolve_left (by decide)
      have p11 : NewAt w2 (γ 11) w.heap.size #[.bool false, .slice none 0 0, .bool false, .slice none 0 0] 40 := (Each.get hF 11 (by decide)).resolve_left (by decide)
      clear hF
      simp only [fillAll, gV, kv, List.getD_cons_zero, List.getD_cons_succ, Act.put, List.setIfInBounds_toArray, List.set_cons_zero, List.set_cons_succ, List.toList_toArray, List.drop_succ_cons, List.drop_zero, List.drop_nil, Nat.zero_add, Nat.reduceAdd, lateP, Array.getD_eq_getD_getElem?, List.getElem?_toArray, List.getElem?_cons_succ, List.getElem?_cons_zero, Option.getD_some]
      generalize γ 0 = g0 at *
      generalize γ 7 = g7 at *
      generalize γ 9 = g9 at *
      generalize γ 11 = g11 at *
      clear γ
      obtain ⟨a7, rfl, -⟩ := p7
      obtain ⟨gc, rfl, hgc, ec⟩ := p11
      obtain ⟨b5, A5, n5, c5, b6, A6, n6, c6, rfl⟩ := p9.cells
      clear q0 q1 q2 q3 p0
      obtain ⟨cec0, cec1, cec2, cec3⟩ := ec.cells4
      have fec := ec.frozen
      go_wp2
      refine ⟨?_, trivial⟩
      go_wp2
      skip
      obtain ⟨W4, eW, ec', U⟩ := ec.put4 (.bool b5) (.slice A5 n5 c5) (.bool b6) (.slice A6 n6 c6) rfl rfl rfl rfl
      rw [← eW]
      clear eW ec
      replace p9 := p9.kd U.kd
      replace hx2 := U.from_ hx2 (by simp <;> omega)
      have ec := ec'
      clear U ec'
      go_meet
      case rel => exact ⟨gc, rfl, BoxQ.mk ec p9, hx2⟩
    intro γ w2 hx2 hF
    have p0 : IsQ w2 (γ 0) ((1 : Int) : Rat) := Each.get hF 0 (by decide)
    have p7 : TupQ w2 (γ 7) c0 := Each.get hF 7 (by decide)
    have p9 : IsQ w2 (γ 9) c0 := Each.get hF 9 (by decide)
    have p11 : NewAt w2 (γ 11) w.heap.size #[.bool false, .slice none 0 0, .bool false, .slice none 0 0] 40 := Each.get hF 11 (by decide)
    clear hF
    simp only [fillAll, gV, kv, List.getD_cons_zero, List.getD_cons_succ, Act.put, List.setIfInBounds_toArray, List.set_cons_zero, List.set_cons_succ, List.toList_toArray, List.drop_succ_cons, List.drop_zero, List.drop_nil, Nat.zero_add, Nat.reduceAdd]
    generalize γ 0 = g0 at *
    generalize γ 7 = g7 at *
    generalize γ 9 = g9 at *
    generalize γ 11 = g11 at *
    clear γ
    obtain ⟨a7, rfl, -⟩ := p7
    obtain ⟨gc, rfl, hgc, ec⟩ := p11
    obtain ⟨b5, A5, n5, c5, b6, A6, n6, c6, rfl⟩ := p9.cells
    clear q0 q1 q2 q3 p0
    obtain ⟨cec0, cec1, cec2, cec3⟩ := ec.cells4
    have fec := ec.frozen
    go_wp2
    skip
    obtain ⟨W4, eW, ec', U⟩ := ec.put4 (.bool b5) (.slice A5 n5 c5) (.bool b6) (.slice A6 n6 c6) rfl rfl rfl rfl
    rw [← eW]
    clear eW ec
    replace p9 := p9.kd U.kd
    replace hx2 := U.from_ hx2 (by simp <;> omega)
    have ec := ec'
    clear U ec'
    go_meet
    case rel => exact ⟨gc, rfl, BoxQ.mk ec p9, hx2⟩
  case rest =>
    clear q0 q1 q2 q3
    obtain ⟨gc, rfl, ⟨b5, A5, n5, c5, b6, A6, n6, c6, ec, hq⟩, hx⟩ := hcut
    have Hqq := Lib.hid (hq.has (show qsz c0 ≤ 274877906944 by
      have e : c0 = (ld F)⁻¹ := by rw [Hc0.out, Rat.div_def, Rat.one_mul]
      have h1 : qsz (ld F) ≤ s := HX.out.1.elem _
      have h2 := qsz_inv (ld F)
      rw [e]; omega)); clear hq
    obtain ⟨cec0, cec1, cec2, cec3⟩ := ec.cells4
    have fec := ec.frozen
    have hl0 : l0.length ≤ 1099511627776 := by rw [H1.out.2.1]; omega
    go_wp2_with fail
    refine Calls.mono (scale_p _ _ l0 c0 _ (H1.out.1.ext hx) Hqq.out hl0) ?_
    rintro e w3 ⟨r3, rfl, hr3, hx3⟩
    have hsz := hx.size
    have Hr := Lib.hid hr3; clear hr3
    go_wp2
    go_ret
    refine Gives.mk ?_ (hx.trans hx3)
    have := Hr.out.base_le (b := w.heap.size) (by omega)
    rw [H1.out.2.2, Hc0.out] at this
    exact this
set_option maxHeartbeats 1000000 in
theorem divmod_p (v u : Value) (l m : List Rat) (s t : Nat) (w : World) (hv : HsV 0 w v l) (hu : HsV 0 w u m) (h0 : co m ≠ pz) (hF : CD s (co l)) (hG : CD t (co m)) (hn : l.length ≤ 274877906944) (hm : m.length ≤ 274877906944) (hK : s + (pl (co l) + 2) * (t + 1) + 2 * t + 2 ≤ 274877906944) :
    Calls Tryz.prog 45 #[v, u] w (Gives w fun r w' => ∃ a b, r = .tuple #[a, b, .int .i64 0] ∧ IsP w.heap.size w' a (pq (co l) (co m)) ∧ IsP w.heap.size w' b (pr (co l) (co m))) := by
  have HV := Lib.hid hv; have HU := Lib.hid hu
  obtain ⟨A, c, rfl⟩ := hv.len
  obtain ⟨E, d, rfl⟩ := hu.len
  clear hv hu
  have hp0 := pl_le (co_sup l)
  have HX := Lib.hid (And.intro h0 (And.intro hF (And.intro hG (And.intro hK (pl_pos (Fin_.co m) h0))))); clear h0 hF hG hK
  go_enter Tryz.func45, Tryz.ntmps45
  go_wp2_with fail
  refine Calls.mono (normal_p _ m _ HU.out (by omega)) ?_
  rintro e w1 ⟨r1, rfl, hr1, hx1⟩
  have Hr1 := Lib.hid hr1
  obtain ⟨A1, c1, l1, rfl, k1, k2, -⟩ := hr1.form
  have b0 : ((pl (co m) : Int) == 0) = false := by have := HX.out.2.2.2.2; simp; omega
  clear hr1
  go_wp2_with fail
  refine Calls.mono (normal_p _ l _ (HV.out.ext hx1) (by omega)) ?_
  rintro e w2 ⟨r2, rfl, hr2, hx2⟩
  have Hr2 := Lib.hid hr2; clear hr2
  go_wp2_with fail
  refine Calls.mono (divide_p _ _ (co l) (co m) s t _ (Hr2.out.base_le (Nat.zero_le _)) ((Hr1.out.ext hx2).base_le (Nat.zero_le _)) HX.out.1 HX.out.2.1 HX.out.2.2.1 (by omega) HX.out.2.2.2.1) ?_
  rintro e w3 ⟨r3, rfl, ⟨a, b, rfl, ha, hb⟩, hx3⟩
  have Hab := Lib.hid (And.intro ha hb); clear ha hb
  have s1 := hx1.size
  have s2 := hx2.size
  go_wp2
  go_ret3
  exact Gives.mk ⟨_, _, rfl, Hab.out.1.base_le (by omega), Hab.out.2.base_le (by omega)⟩ ((hx1.trans hx2).trans hx3)
end Go.Proofs.YtedoifjbgokmcaaGreat
namespace Go.Hp
open Go.RowKit
theorem OwnQ.at_ {base n c : Nat} {e : TypeId} {w : World} {A : Option Addr} {l : List Rat} (h : OwnQ base e w (.slice A n c) l) {j : Nat} (hj : j < l.length) :
    ∃ g o b A1 n c b' A1' n' c', A = some ⟨g, o, none⟩ ∧ base ≤ g ∧ w.cell? ⟨g, o + j * 4, none⟩ = some (.bool b) ∧ w.cell? ⟨g, o + j * 4 + 1, none⟩ = some (.slice A1 n c) ∧ w.cell? ⟨g, o + j * 4 + 2, none⟩ = some (.bool b') ∧ w.cell? ⟨g, o + j * 4 + 3, none⟩ = some (.slice A1' n' c') ∧ IsQ w (.agg #[.bool b, .slice A1 n c, .bool b', .slice A1' n' c']) l[j] := by
  obtain ⟨A', c', e1, h2, h3, h4⟩ := OwnQ.row h
  cases e1
  exact QsAt.at_ h4 hj
theorem OwnQ.shape {base : Nat} {e : TypeId} {w : World} {v : Value} {l : List Rat} (h : OwnQ base e w v l) : ∃ A c, v = .slice A l.length c ∧ l.length ≤ c ∧ c ≤ 9223372036854775807 := by
  obtain ⟨A', c', e1, h2, h3, h4⟩ := OwnQ.row h
  exact ⟨A', c', e1, h2, h3⟩
theorem map_get {F : Nat → Rat} {n j : Nat} (h : j < ((List.range n).map F).length) : ((List.range n).map F)[j] = F j := by simp
end Go.Hp
namespace Go.Proofs.YtedoifjbgokmcaaGreat
open Go.RowKit Go.Hp
set_option maxRecDepth 20000 in
set_option maxHeartbeats 8000000 in
theorem powersums_p (v : Value) (l : List Rat) (n s : Nat) (w : World) (hv : HsV 0 w v l) (h0 : co l ≠ pz) (hl : l.length ≤ 274877906944) (hn : n ≤ 64) (hC : CD s (co l)) (hs : 64 * (2 * s + 1) + 2 * s + 10 ≤ 274877906944) :
    Calls Tryz.prog 10 #[v, .int .i64 n] w (Gives w fun r w' => ∃ a, r = .tuple #[a, .int .i64 0] ∧ QsV w.heap.size w' a ((List.range n).map fun k => pws (pl (co l) - 1) (co l) (k + 1))) := by
  have HV := Lib.hid hv
  obtain ⟨A, c, rfl⟩ := hv.len
  clear hv
  have hp := pl_pos (Fin_.co l) h0
  have hple := pl_le (co_sup l)
  have b0 : ((pl (co l) : Int) == 0) = false := by simp; omega
  have hf := Fin_.co l
  have hM1 : mn (co l) (pl (co l) - 1) = 1 := by have := mn_ld hf h0; unfold ld at this; rw [mn_pl hf] at this; exact this
  have hi : 1 / ld (co l) ≠ 0 := inv_ne (ld_ne hf h0)
  have hS : ∀ k, pws (pl (co l) - 1) (co l) k = pws (pl (co l) - 1) (mn (co l)) k := fun k => (pws_psc (ld_ne hf h0) hi k).symm
  rw [show (fun k => pws (pl (co l) - 1) (co l) (k + 1)) = fun k => pws (pl (co l) - 1) (mn (co l)) (k + 1) from funext fun k => hS (k + 1)]
  have hcM := hC.mn
  have hpM := mn_pl hf
  have hsM : Sup (pl (co l)) (mn (co l)) := by rw [← mn_pl hf]; exact pl_sup (mn_fin hf)
  obtain ⟨M, hMe⟩ : ∃ M, M = mn (co l) := ⟨_, rfl⟩
  have hmon := fun (w1 : World) (r1 : Value) (h : IsP 0 w1 r1 (co l)) => monic_p r1 (co l) s w1 h hC (by omega) (by omega)
  rw [← hMe] at hM1 hcM hpM hsM hmon ⊢
  have Hmon := Lib.hid hmon
  clear hmon hMe hS hi hf h0 hC
  obtain ⟨d, hd⟩ : ∃ d, pl (co l) = d + 1 := ⟨pl (co l) - 1, by omega⟩
  rw [hd, Nat.add_sub_cancel] at hM1 ⊢
  rw [hd] at b0 hpM hsM hple
  have hcR : CD (2 * s) (rv d M) := hcM.rv d
  have hM0 : M d ≠ 0 := by rw [hM1]; decide
  have hQ : ∀ k, k ≤ 64 → qsz (pws d M k) ≤ 64 * (2 * s + 1) + 1 ∧ ∀ j, j ≤ k → qsz (nwt (rv d M) (pws d M) k j) ≤ 64 * (2 * s + 1) + 1 := newton_qsz hcR (pws_zero hM0) (fun k => newton hM1 k)
  have HQ := Lib.hid hQ; clear hQ hcR
  have HX := Lib.hid (And.intro hM1 (And.intro hcM (And.intro hpM hsM))); clear hM1 hcM hpM hsM hM0
  have Hd := Lib.hid hd; clear hd hp
  have hd40 : d ≤ 274877906944 := by omega
  have hs' : 64 * (2 * s + 1) + 2 * s + 10 ≤ 274877906944 := hs
  clear hs
  go_enter Tryz.func10, Tryz.ntmps10
  go_wp2_with fail
  refine Calls.mono (normal_p _ l _ HV.out (by omega)) ?_
  rintro e w1 ⟨r1, rfl, hr1, hx1⟩
  have Hr1 := Lib.hid hr1
  obtain ⟨A1, c1, l1, rfl, k1, k2, -⟩ := hr1.form
  clear hr1
  rw [Hd.out] at Hr1 k1 ⊢
  go_wp2_with fail
  refine Calls.mono (Hmon.out _ _ (Hr1.out.base_le (Nat.zero_le _))) ?_
  rintro e w2 ⟨r2, rfl, hr2, hx2⟩
  replace hx1 := hx1.trans hx2
  obtain ⟨A3, c3, lM, rfl, k3, k4, hA, k5, k6, k7⟩ := hr2.form
  rw [HX.out.2.2.1] at k3 k5 ⊢
  have HA := Lib.hid (And.intro hA (And.intro k5 k7))
  have HW := Lib.hid hx1
  clear hx1 hx2 hr2 hA k5 k6 k7 Hr1 Hmon HV
  obtain ⟨wb, hwb⟩ : ∃ wb : World, wb = w2 := ⟨_, rfl⟩
  subst hwb
  go_wp2
  go_loopw [7, 8] (fun ov iv wr => ∃ (k : Nat), 1 ≤ k ∧ k ≤ n + 1 ∧ iv = .int .i64 k ∧ OwnQ wb.heap.size 40 wr ov ((List.range (k - 1)).map fun j => pws d M (j + 1)) ∧ Ext wb wr) (fun _ iv _ => n + 1 - (intOf iv).toNat)
  case atStart => exact ⟨1, by omega, by omega, rfl, OwnR.nil _ _ _ _ _, Ext.refl _⟩
  case round =>
    obtain ⟨k, hk1, hk, rfl, hown, hx⟩ := hrel
    by_cases hkn : k ≤ n
    · obtain ⟨A2, c2, e2, k8, k9⟩ := hown.shape
      rw [range_len] at e2 k8
      subst e2
      have Hown0 := Lib.hid hown; clear hown
      go_wp2_with fail
      refine Calls.mono (of_q 0 _ (by omega) (by omega)) ?_
      rintro e w3 ⟨r3, rfl, hr3, hx3⟩
      obtain ⟨b5, A5, n5, c5, b6, A6, n6, c6, rfl⟩ := hr3.cells
      have hown := Hown0.out.ext hx3
      have Hbk := Lib.hid (fun g hg => (OwnR.blk_ge hown g hg).2)
      replace hx := hx.trans hx3
      clear hx3 Hown0
      go_upto_region 13 with (fail)
      obtain ⟨W9, eW9, e9, x9⟩ := Box.made w3 40 #[.bool b5, .slice A5 n5 c5, .bool b6, .slice A6 n6 c6] (by simp [isDig])
      rw [← eW9]
      clear eW9
      have eb := BoxQ.mk e9 (hr3.ext x9)
      replace hown := OwnQ.ext hown x9
      have Hsz9 := Lib.hid hx.size
      replace hx := hx.trans x9
      have Hown := Lib.hid hown
      clear x9 hr3 e9 hown
      generalize w3.heap.size = gb at *
      go_wp2
      go_loopw [10] (fun iv wx => ∃ (i : Nat), 1 ≤ i ∧ i ≤ k ∧ i ≤ d + 1 ∧ iv = .int .i64 i ∧ BoxQ wx gb 40 (nwt (rv d M) (pws d M) k i) ∧ OwnQ wb.heap.size 40 wx (.slice A2 (k - 1) c2) ((List.range (k - 1)).map fun j => pws d M (j + 1)) ∧ Ext wb wx) (fun iv _ => k - (intOf iv).toNat)
      case atStart => exact ⟨1, by omega, by omega, by omega, rfl, by rw [nwt_one]; exact eb, Hown.out, hx⟩
      case round =>
        clear eb hx Hown
        obtain ⟨i, hi1, hik, hid, rfl, e9, hown, hx⟩ := hrel
        have Hown := Lib.hid hown; clear hown
        by_cases hin : i < k ∧ i ≤ d
        · obtain ⟨hin1, hin2⟩ := hin
          obtain ⟨g, o, b, B1, n1, d1, b', B1', n1', d1', rfl, _, q0, q1, q2, q3, hqa⟩ := HA.out.1.at_ (j := d - i) (by rw [HA.out.2.1]; omega)
          obtain ⟨g', o', bb, B2, n2, d2, bb', B2', n2', d2', rfl, _, r0, r1, r2, r3, hqb'⟩ := Hown.out.at_ (j := k - i - 1) (by rw [range_len]; omega)
          rw [← co_lt, HA.out.2.2] at hqa
          rw [map_get] at hqb'
          have e1 : ((d : Int) - i) = ((d - i : Nat) : Int) := by omega
          have e2 : k - i - 1 + 1 = k - i := by omega
          rw [e2] at hqb'
          clear e2 e1
          replace q0 := hx.cell q0
          replace q1 := hx.cell q1
          replace q2 := hx.cell q2
          replace q3 := hx.cell q3
          have Hqa := Lib.hid (hqa.ext hx); have Hqb := Lib.hid hqb'; clear hqa hqb'
          obtain ⟨z1, Z1, zn, zc, z2, Z2, zn', zc', ez, hz⟩ := e9
          have Hz := Lib.hid hz; clear hz
          have HR := Lib.hid (show qsz (M (d - i)) ≤ 2 * s ∧ qsz (pws d M (k - i)) ≤ 64 * (2 * s + 1) + 1 ∧ qsz (nwt (rv d M) (pws d M) k i) ≤ 64 * (2 * s + 1) + 1 ∧ qsz (M (d - i) * pws d M (k - i)) ≤ 274877906944 by
            have h1 := HX.out.2.1.elem (d - i)
            have h2 := (HQ.out (k - i) (by omega)).1
            have h3 := (HQ.out k (by omega)).2 i hik
            have h4 := qsz_mul (M (d - i)) (pws d M (k - i))
            exact ⟨h1, h2, h3, by omega⟩)
          obtain ⟨cez0, cez1, cez2, cez3⟩ := ez.cells4
          have fez := ez.frozen
          go_wp2_with fail
          refine wp_region_par (k := 16) (D := [43, 44, 45, 46, 47, 48, 49, 50, 51, 52, 53, 54, 55, 56, 57, 58]) (T := [[], [], [], [], [2, 3], [1, 2, 3, 4], [1, 2, 3, 4, 5], [], [], [], [8, 9], [8, 9, 10], [7, 8, 9, 10, 11], [7, 8, 9, 10, 11, 12], [1, 2, 3, 4, 5, 6, 7, 8, 9, 10, 11, 12, 13], [0, 1, 2, 3, 4, 5, 6, 7, 8, 9, 10, 11, 12, 13, 14], [0, 1, 2, 3, 4, 5, 6, 7, 8, 9, 10, 11, 12, 13, 14, 15]]) (EK := [9, 0, 6, 10, 7, 8]) (EV := [?e1x0, ?e1x1, ?e1x2, ?e1x3, ?e1x4, ?e1x5]) (VL := [(kv ?v1x0), (kv ?v1x1), (kv ?v1x2), (kv ?v1x3), (kv ?v1x4), (kv ?v1x5), (kv ?v1x6), (kv ?v1x7), (kv ?v1x8), (kv ?v1x9), (kv ?v1x10), (kv ?v1x11), (kv ?v1x12), (kv ?v1x13), (fun γ => γ 14), (fun γ => γ 15)]) (FL := fun γ w' => [True, True, True, True, True, True, True, True, True, True, True, True, True, True, IsQ w' (γ 14) (M (d - i) * pws d M (k - i)), IsQ w' (γ 15) (nwt (rv d M) (pws d M) k i - M (d - i) * pws d M (k - i))]) ?hE1 (by kernel_rfl) (by kernel_rfl) (by rfl) (by kernel_rfl) ?hloc1 ?hmono1 ?hstep1 ?htail1
          case hE1 => refine ⟨?_, ?_, ?_, ?_, ?_, ?_, trivial⟩ <;> (simp only [List.getElem?_toArray, List.getElem?_cons_succ, List.getElem?_cons_zero]; rfl)
          case hstep1 =>
            refine ⟨⟨⟨⟨⟨⟨⟨⟨⟨⟨⟨⟨⟨⟨⟨⟨trivial, ?_⟩, ?_⟩, ?_⟩, ?_⟩, ?_⟩, ?_⟩, ?_⟩, ?_⟩, ?_⟩, ?_⟩, ?_⟩, ?_⟩, ?_⟩, ?_⟩, ?_⟩, ?_⟩
            · intro γ w' he hf; clear hf; refine ⟨trivial, ?_⟩; intro R hR
              have hc := he.cells
              have cq0 := he.cell cez0
              have cq1 := he.cell cez1
              have cq2 := he.cell cez2
              have cq3 := he.cell cez3
              have cq4 := he.cell q0
              have cq5 := he.cell q1
              have cq6 := he.cell q2
              have cq7 := he.cell q3
              have cq8 := he.cell r0
              have cq9 := he.cell r1
              have cq10 := he.cell r2
              have cq11 := he.cell r3
              go_simp
              (try go_ints); (try (rw [if_neg (by omega)])); (try (rw [if_pos (by omega)])); (try go_simp); (try go_ints)
              refine hR _ _ (Ext.refl _) ?_ trivial
              rfl
            · intro γ w' he hf; clear hf; refine ⟨trivial, ?_⟩; intro R hR
              have hc := he.cells
              go_simp
              (try go_ints); (try (rw [if_neg (by omega)])); (try (rw [if_pos (by omega)])); (try go_simp); (try go_ints)
              refine hR _ _ (Ext.refl _) ?_ trivial
              rfl
            · intro γ w' he hf; clear hf; refine ⟨trivial, ?_⟩; intro R hR
              have hc := he.cells
              go_simp
              (try go_ints); (try (rw [if_neg (by omega)])); (try (rw [if_pos (by omega)])); (try go_simp); (try go_ints)
              refine hR _ _ (Ext.refl _) ?_ trivial
              rfl
            · intro γ w' he hf; clear hf; refine ⟨trivial, ?_⟩; intro R hR
              have hc := he.cells
              go_simp
              (try go_ints); (try (rw [if_neg (by omega)])); (try (rw [if_pos (by omega)])); (try go_simp); (try go_ints)
              refine hR _ _ (Ext.refl _) ?_ trivial
              rfl
            · intro γ w' he hf; clear hf; refine ⟨trivial, ?_⟩; intro R hR
              have hc := he.cells
              go_simp
              (try go_ints); (try (rw [if_neg (by omega)])); (try (rw [if_pos (by omega)])); (try go_simp); (try go_ints)
              refine hR _ _ (Ext.refl _) ?_ trivial
              rfl
            · intro γ w' he hf; clear hf; refine ⟨trivial, ?_⟩; intro R hR
              have hc := he.cells
              go_simp
              (try go_ints); (try (rw [if_neg (by omega)])); (try (rw [if_pos (by omega)])); (try go_simp); (try go_ints)
              refine hR _ _ (Ext.refl _) ?_ trivial
              rfl
            · intro γ w' he hf; clear hf; refine ⟨trivial, ?_⟩; intro R hR
              have hc := he.cells
              have cq0 := he.cell cez0
              have cq1 := he.cell cez1
              have cq2 := he.cell cez2
              have cq3 := he.cell cez3
              have cq4 := he.cell q0
              have cq5 := he.cell q1
              have cq6 := he.cell q2
              have cq7 := he.cell q3
              have cq8 := he.cell r0
              have cq9 := he.cell r1
              have cq10 := he.cell r2
              have cq11 := he.cell r3
              go_simp
              (try go_ints); (try (rw [if_neg (by omega)])); (try (rw [if_pos (by omega)])); (try go_simp); (try go_ints)
              refine hR _ _ (Ext.refl _) ?_ trivial
              rfl
            · intro γ w' he hf; clear hf; refine ⟨trivial, ?_⟩; intro R hR
              have hc := he.cells
              go_simp
              (try go_ints); (try (rw [if_neg (by omega)])); (try (rw [if_pos (by omega)])); (try go_simp); (try go_ints)
              refine hR _ _ (Ext.refl _) ?_ trivial
              rfl
            · intro γ w' he hf; clear hf; refine ⟨trivial, ?_⟩; intro R hR
              have hc := he.cells
              go_simp
              (try go_ints); (try (rw [if_neg (by omega)])); (try (rw [if_pos (by omega)])); (try go_simp); (try go_ints)
              refine hR _ _ (Ext.refl _) ?_ trivial
              rfl
            · intro γ w' he hf; clear hf; refine ⟨trivial, ?_⟩; intro R hR
              have hc := he.cells
              go_simp
              (try go_ints); (try (rw [if_neg (by omega)])); (try (rw [if_pos (by omega)])); (try go_simp); (try go_ints)
              refine hR _ _ (Ext.refl _) ?_ trivial
              rfl
            · intro γ w' he hf; clear hf; refine ⟨trivial, ?_⟩; intro R hR
              have hc := he.cells
              go_simp
              (try go_ints); (try (rw [if_neg (by omega)])); (try (rw [if_pos (by omega)])); (try go_simp); (try go_ints)
              refine hR _ _ (Ext.refl _) ?_ trivial
              rfl
            · intro γ w' he hf; clear hf; refine ⟨trivial, ?_⟩; intro R hR
              have hc := he.cells
              go_simp
              (try go_ints); (try (rw [if_neg (by omega)])); (try (rw [if_pos (by omega)])); (try go_simp); (try go_ints)
              refine hR _ _ (Ext.refl _) ?_ trivial
              rfl
            · intro γ w' he hf; clear hf; refine ⟨trivial, ?_⟩; intro R hR
              have hc := he.cells
              go_simp
              (try go_ints); (try (rw [if_neg (by omega)])); (try (rw [if_pos (by omega)])); (try go_simp); (try go_ints)
              refine hR _ _ (Ext.refl _) ?_ trivial
              rfl
            · intro γ w' he hf; clear hf; refine ⟨trivial, ?_⟩; intro R hR
              have hc := he.cells
              have cq0 := he.cell cez0
              have cq1 := he.cell cez1
              have cq2 := he.cell cez2
              have cq3 := he.cell cez3
              have cq4 := he.cell q0
              have cq5 := he.cell q1
              have cq6 := he.cell q2
              have cq7 := he.cell q3
              have cq8 := he.cell r0
              have cq9 := he.cell r1
              have cq10 := he.cell r2
              have cq11 := he.cell r3
              go_simp
              (try go_ints); (try (rw [if_neg (by omega)])); (try (rw [if_pos (by omega)])); (try go_simp); (try go_ints)
              refine hR _ _ (Ext.refl _) ?_ trivial
              rfl
            · intro γ w' he hf; clear hf; refine ⟨trivial, ?_⟩; intro R hR
              go_simp
              refine Calls.mono (show Calls _ _ _ w' (Gives w' fun r w'' => IsQ w'' (r) (M (d - i) * pws d M (k - i))) from mul_q _ _ _ _ w' ((Hqa.out.ext he).has (by have := HR.out.1; omega)) ((Hqb.out.ext he).has (by have := HR.out.2.1; omega))) ?_
              rintro e w2 ⟨v, rfl, hv, hx⟩
              exact ⟨v, rfl, hR v w2 hx rfl hv⟩
            · intro γ w' he hf; have f14 : IsQ w' (γ 14) (M (d - i) * pws d M (k - i)) := hf 14 (by decide); clear hf; refine ⟨trivial, ?_⟩; intro R hR
              go_simp
              refine Calls.mono (show Calls _ _ _ w' (Gives w' fun r w'' => IsQ w'' (r) (nwt (rv d M) (pws d M) k i - M (d - i) * pws d M (k - i))) from sub_q _ _ _ _ w' ((Hz.out.ext he).has (by have := HR.out.2.2.1; omega)) (f14.has HR.out.2.2.2)) ?_
              rintro e w2 ⟨v, rfl, hv, hx⟩
              exact ⟨v, rfl, hR v w2 hx rfl hv⟩
          case hloc1 =>
            exact ⟨⟨⟨⟨⟨⟨⟨⟨⟨⟨⟨⟨⟨⟨⟨⟨trivial, (fun γ γ' h => ⟨rfl, fun _ => rfl⟩)⟩, (fun γ γ' h => ⟨rfl, fun _ => rfl⟩)⟩, (fun γ γ' h => ⟨rfl, fun _ => rfl⟩)⟩, (fun γ γ' h => ⟨rfl, fun _ => rfl⟩)⟩, (fun γ γ' h => ⟨rfl, fun _ => rfl⟩)⟩, (fun γ γ' h => ⟨rfl, fun _ => rfl⟩)⟩, (fun γ γ' h => ⟨rfl, fun _ => rfl⟩)⟩, (fun γ γ' h => ⟨rfl, fun _ => rfl⟩)⟩, (fun γ γ' h => ⟨rfl, fun _ => rfl⟩)⟩, (fun γ γ' h => ⟨rfl, fun _ => rfl⟩)⟩, (fun γ γ' h => ⟨rfl, fun _ => rfl⟩)⟩, (fun γ γ' h => ⟨rfl, fun _ => rfl⟩)⟩, (fun γ γ' h => ⟨rfl, fun _ => rfl⟩)⟩, (fun γ γ' h => ⟨rfl, fun _ => rfl⟩)⟩, (fun γ γ' h => ⟨h 14 rfl, fun w' => (congrArg (fun a => IsQ w' (a) (M (d - i) * pws d M (k - i))) (h 14 rfl))⟩)⟩, (fun γ γ' h => ⟨h 15 rfl, fun w' => (congrArg (fun a => IsQ w' (a) (nwt (rv d M) (pws d M) k i - M (d - i) * pws d M (k - i))) (h 15 rfl))⟩)⟩
          case hmono1 =>
            exact ⟨⟨⟨⟨⟨⟨⟨⟨⟨⟨⟨⟨⟨⟨⟨⟨trivial, (fun γ wA w' e h => h)⟩, (fun γ wA w' e h => h)⟩, (fun γ wA w' e h => h)⟩, (fun γ wA w' e h => h)⟩, (fun γ wA w' e h => h)⟩, (fun γ wA w' e h => h)⟩, (fun γ wA w' e h => h)⟩, (fun γ wA w' e h => h)⟩, (fun γ wA w' e h => h)⟩, (fun γ wA w' e h => h)⟩, (fun γ wA w' e h => h)⟩, (fun γ wA w' e h => h)⟩, (fun γ wA w' e h => h)⟩, (fun γ wA w' e h => h)⟩, (fun γ wA w' e h => (show IsQ wA (γ 14) (M (d - i) * pws d M (k - i)) from h).ext e)⟩, (fun γ wA w' e h => (show IsQ wA (γ 15) (nwt (rv d M) (pws d M) k i - M (d - i) * pws d M (k - i)) from h).ext e)⟩
          intro γ w6 hx6 hF
          have p14 : IsQ w6 (γ 14) (M (d - i) * pws d M (k - i)) := Each.get hF 14 (by decide)
          have p15 : IsQ w6 (γ 15) (nwt (rv d M) (pws d M) k i - M (d - i) * pws d M (k - i)) := Each.get hF 15 (by decide)
          clear hF
          simp only [fillAll, gV, kv, List.getD_cons_zero, List.getD_cons_succ, Act.put, List.setIfInBounds_toArray, List.set_cons_zero, List.set_cons_succ, List.toList_toArray, List.drop_succ_cons, List.drop_zero, List.drop_nil, Nat.zero_add, Nat.reduceAdd]
          generalize γ 14 = g14 at *
          generalize γ 15 = g15 at *
          clear γ
          clear cez0 cez1 cez2 cez3 fez q0 q1 q2 q3 r0 r1 r2 r3 p14 Hz Hqa Hqb HR
          replace ez := ez.ext hx6
          replace hx := hx.trans hx6
          have hown := Hown.out.ext hx6
          clear hx6 Hown
          obtain ⟨b5, A5, n5, c5, b6, A6, n6, c6, rfl⟩ := p15.cells
          obtain ⟨cez0, cez1, cez2, cez3⟩ := ez.cells4
          have fez := ez.frozen
          go_wp2
          obtain ⟨W7, eW, ez', U⟩ := ez.put4 (.bool b5) (.slice A5 n5 c5) (.bool b6) (.slice A6 n6 c6) rfl rfl rfl rfl
          rw [← eW]
          clear eW ez cez0 cez1 cez2 cez3 fez
          replace hown := hown.off U Hbk.out
          replace hx := U.from_ hx (by have := Hsz9.out; simp; omega)
          have eq := BoxQ.mk ez' (p15.kd U.kd)
          clear U ez' p15
          have Hown := Lib.hid hown; clear hown
          go_roundw
          case rel => exact ⟨i + 1, by omega, by omega, by omega, by go_num, by rw [nwt_succ _ _ _ _ hi1, rv_at M hin2]; exact eq, Hown.out, hx⟩
          case measure => simp [intOf] <;> omega
        · have hix : i = min k (d + 1) := by omega
          have hval := newton_loop (F := M) HX.out.1 hk1 hix
          have ebx := e9
          clear e9
          have Hval := Lib.hid hval; clear hval hix
          by_cases hkd : k ≤ d
          · obtain rfl : i = k := by omega
            rw [if_pos hkd] at Hval
            obtain ⟨g, o, b, B1, n1, d1, b', B1', n1', d1', rfl, _, q0, q1, q2, q3, hqa⟩ := HA.out.1.at_ (j := d - i) (by rw [HA.out.2.1]; omega)
            rw [← co_lt, HA.out.2.2] at hqa
            replace q0 := hx.cell q0
            replace q1 := hx.cell q1
            replace q2 := hx.cell q2
            replace q3 := hx.cell q3
            have Hqa := Lib.hid (hqa.ext hx); clear hqa
            obtain ⟨z1, Z1, zn, zc, z2, Z2, zn', zc', ez, hz⟩ := ebx
            have Hz := Lib.hid hz; clear hz
            have HR := Lib.hid (show qsz (M (d - i)) ≤ 2 * s ∧ qsz ((i : Int) : Rat) ≤ 2 ∧ qsz (nwt (rv d M) (pws d M) i i) ≤ 64 * (2 * s + 1) + 1 ∧ qsz (((i : Int) : Rat) * M (d - i)) ≤ 274877906944 by
              have h1 := HX.out.2.1.elem (d - i)
              have h2 : qsz ((i : Int) : Rat) ≤ 2 := qsz_int (by omega) (by omega)
              have h3 := (HQ.out i (by omega)).2 i (Nat.le_refl _)
              have h4 := qsz_mul ((i : Int) : Rat) (M (d - i))
              exact ⟨h1, h2, h3, by omega⟩)
            obtain ⟨cez0, cez1, cez2, cez3⟩ := ez.cells4
            have fez := ez.frozen
            go_wp2_with fail
            refine wp_region_par (k := 11) (D := [62, 63, 64, 65, 66, 67, 68, 69, 70, 71, 72]) (T := [[], [], [1], [], [], [], [4, 5], [3, 4, 5, 6], [3, 4, 5, 6, 7], [1, 2, 3, 4, 5, 6, 7, 8], [0, 1, 2, 3, 4, 5, 6, 7, 8, 9], [0, 1, 2, 3, 4, 5, 6, 7, 8, 9, 10]]) (EK := [9, 8, 0, 6]) (EV := [?e2x0, ?e2x1, ?e2x2, ?e2x3]) (VL := [(kv ?v2x0), (kv ?v2x1), (fun γ => γ 2), (kv ?v2x3), (kv ?v2x4), (kv ?v2x5), (kv ?v2x6), (kv ?v2x7), (kv ?v2x8), (fun γ => γ 9), (fun γ => γ 10)]) (FL := fun γ w' => [True, True, IsQ w' (γ 2) ((i : Int) : Rat), True, True, True, True, True, True, IsQ w' (γ 9) (((i : Int) : Rat) * M (d - i)), IsQ w' (γ 10) (nwt (rv d M) (pws d M) i i - ((i : Int) : Rat) * M (d - i))]) ?hE2 (by kernel_rfl) (by kernel_rfl) (by rfl) (by kernel_rfl) ?hloc2 ?hmono2 ?hstep2 ?htail2
            case hE2 => refine ⟨?_, ?_, ?_, ?_, trivial⟩ <;> (simp only [List.getElem?_toArray, List.getElem?_cons_succ, List.getElem?_cons_zero]; rfl)
            case hstep2 =>
              refine ⟨⟨⟨⟨⟨⟨⟨⟨⟨⟨⟨trivial, ?_⟩, ?_⟩, ?_⟩, ?_⟩, ?_⟩, ?_⟩, ?_⟩, ?_⟩, ?_⟩, ?_⟩, ?_⟩
              · intro γ w' he hf; clear hf; refine ⟨trivial, ?_⟩; intro R hR
                have hc := he.cells
                have cq0 := he.cell cez0
                have cq1 := he.cell cez1
                have cq2 := he.cell cez2
                have cq3 := he.cell cez3
                have cq4 := he.cell q0
                have cq5 := he.cell q1
                have cq6 := he.cell q2
                have cq7 := he.cell q3
                go_simp
                (try go_ints); (try (rw [if_neg (by omega)])); (try (rw [if_pos (by omega)])); (try go_simp); (try go_ints)
                refine hR _ _ (Ext.refl _) ?_ trivial
                rfl
              · intro γ w' he hf; clear hf; refine ⟨trivial, ?_⟩; intro R hR
                have hc := he.cells
                go_simp
                (try go_ints); (try (rw [if_neg (by omega)])); (try (rw [if_pos (by omega)])); (try go_simp); (try go_ints)
                refine hR _ _ (Ext.refl _) ?_ trivial
                rfl
              · intro γ w' he hf; clear hf; refine ⟨trivial, ?_⟩; intro R hR
                go_simp
                refine Calls.mono (show Calls _ _ _ w' (Gives w' fun r w'' => IsQ w'' (r) ((i : Int) : Rat)) from of_q (i : Int) w' (by omega) (by omega)) ?_
                rintro e w2 ⟨v, rfl, hv, hx⟩
                exact ⟨v, rfl, hR v w2 hx rfl hv⟩
              · intro γ w' he hf; clear hf; refine ⟨trivial, ?_⟩; intro R hR
                have hc := he.cells
                go_simp
                (try go_ints); (try (rw [if_neg (by omega)])); (try (rw [if_pos (by omega)])); (try go_simp); (try go_ints)
                refine hR _ _ (Ext.refl _) ?_ trivial
                rfl
              · intro γ w' he hf; clear hf; refine ⟨trivial, ?_⟩; intro R hR
                have hc := he.cells
                go_simp
                (try go_ints); (try (rw [if_neg (by omega)])); (try (rw [if_pos (by omega)])); (try go_simp); (try go_ints)
                refine hR _ _ (Ext.refl _) ?_ trivial
                rfl
              · intro γ w' he hf; clear hf; refine ⟨trivial, ?_⟩; intro R hR
                have hc := he.cells
                go_simp
                (try go_ints); (try (rw [if_neg (by omega)])); (try (rw [if_pos (by omega)])); (try go_simp); (try go_ints)
                refine hR _ _ (Ext.refl _) ?_ trivial
                rfl
              · intro γ w' he hf; clear hf; refine ⟨trivial, ?_⟩; intro R hR
                have hc := he.cells
                go_simp
                (try go_ints); (try (rw [if_neg (by omega)])); (try (rw [if_pos (by omega)])); (try go_simp); (try go_ints)
                refine hR _ _ (Ext.refl _) ?_ trivial
                rfl
              · intro γ w' he hf; clear hf; refine ⟨trivial, ?_⟩; intro R hR
                have hc := he.cells
                go_simp
                (try go_ints); (try (rw [if_neg (by omega)])); (try (rw [if_pos (by omega)])); (try go_simp); (try go_ints)
                refine hR _ _ (Ext.refl _) ?_ trivial
                rfl
              · intro γ w' he hf; clear hf; refine ⟨trivial, ?_⟩; intro R hR
                have hc := he.cells
                have cq0 := he.cell cez0
                have cq1 := he.cell cez1
                have cq2 := he.cell cez2
                have cq3 := he.cell cez3
                have cq4 := he.cell q0
                have cq5 := he.cell q1
                have cq6 := he.cell q2
                have cq7 := he.cell q3
                go_simp
                (try go_ints); (try (rw [if_neg (by omega)])); (try (rw [if_pos (by omega)])); (try go_simp); (try go_ints)
                refine hR _ _ (Ext.refl _) ?_ trivial
                rfl
              · intro γ w' he hf; have f2 : IsQ w' (γ 2) ((i : Int) : Rat) := hf 2 (by decide); clear hf; refine ⟨trivial, ?_⟩; intro R hR
                go_simp
                refine Calls.mono (show Calls _ _ _ w' (Gives w' fun r w'' => IsQ w'' (r) (((i : Int) : Rat) * M (d - i))) from mul_q _ _ _ _ w' (f2.has (by have := HR.out.2.1; omega)) ((Hqa.out.ext he).has (by have := HR.out.1; omega))) ?_
                rintro e w2 ⟨v, rfl, hv, hx⟩
                exact ⟨v, rfl, hR v w2 hx rfl hv⟩
              · intro γ w' he hf; have f2 : IsQ w' (γ 2) ((i : Int) : Rat) := hf 2 (by decide); have f9 : IsQ w' (γ 9) (((i : Int) : Rat) * M (d - i)) := hf 9 (by decide); clear hf; refine ⟨trivial, ?_⟩; intro R hR
                go_simp
                refine Calls.mono (show Calls _ _ _ w' (Gives w' fun r w'' => IsQ w'' (r) (nwt (rv d M) (pws d M) i i - ((i : Int) : Rat) * M (d - i))) from sub_q _ _ _ _ w' ((Hz.out.ext he).has (by have := HR.out.2.2.1; omega)) (f9.has HR.out.2.2.2)) ?_
                rintro e w2 ⟨v, rfl, hv, hx⟩
                exact ⟨v, rfl, hR v w2 hx rfl hv⟩
            case hloc2 =>
              exact ⟨⟨⟨⟨⟨⟨⟨⟨⟨⟨⟨trivial, (fun γ γ' h => ⟨rfl, fun _ => rfl⟩)⟩, (fun γ γ' h => ⟨rfl, fun _ => rfl⟩)⟩, (fun γ γ' h => ⟨h 2 rfl, fun w' => (congrArg (fun a => IsQ w' (a) ((i : Int) : Rat)) (h 2 rfl))⟩)⟩, (fun γ γ' h => ⟨rfl, fun _ => rfl⟩)⟩, (fun γ γ' h => ⟨rfl, fun _ => rfl⟩)⟩, (fun γ γ' h => ⟨rfl, fun _ => rfl⟩)⟩, (fun γ γ' h => ⟨rfl, fun _ => rfl⟩)⟩, (fun γ γ' h => ⟨rfl, fun _ => rfl⟩)⟩, (fun γ γ' h => ⟨rfl, fun _ => rfl⟩)⟩, (fun γ γ' h => ⟨h 9 rfl, fun w' => (congrArg (fun a => IsQ w' (a) (((i : Int) : Rat) * M (d - i))) (h 9 rfl))⟩)⟩, (fun γ γ' h => ⟨h 10 rfl, fun w' => (congrArg (fun a => IsQ w' (a) (nwt (rv d M) (pws d M) i i - ((i : Int) : Rat) * M (d - i))) (h 10 rfl))⟩)⟩
            case hmono2 =>
              exact ⟨⟨⟨⟨⟨⟨⟨⟨⟨⟨⟨trivial, (fun γ wA w' e h => h)⟩, (fun γ wA w' e h => h)⟩, (fun γ wA w' e h => (show IsQ wA (γ 2) ((i : Int) : Rat) from h).ext e)⟩, (fun γ wA w' e h => h)⟩, (fun γ wA w' e h => h)⟩, (fun γ wA w' e h => h)⟩, (fun γ wA w' e h => h)⟩, (fun γ wA w' e h => h)⟩, (fun γ wA w' e h => h)⟩, (fun γ wA w' e h => (show IsQ wA (γ 9) (((i : Int) : Rat) * M (d - i)) from h).ext e)⟩, (fun γ wA w' e h => (show IsQ wA (γ 10) (nwt (rv d M) (pws d M) i i - ((i : Int) : Rat) * M (d - i)) from h).ext e)⟩
            intro γ w6 hx6 hF
            have p2 : IsQ w6 (γ 2) ((i : Int) : Rat) := Each.get hF 2 (by decide)
            have p9 : IsQ w6 (γ 9) (((i : Int) : Rat) * M (d - i)) := Each.get hF 9 (by decide)
            have p10 : IsQ w6 (γ 10) (nwt (rv d M) (pws d M) i i - ((i : Int) : Rat) * M (d - i)) := Each.get hF 10 (by decide)
            clear hF
            simp only [fillAll, gV, kv, List.getD_cons_zero, List.getD_cons_succ, Act.put, List.setIfInBounds_toArray, List.set_cons_zero, List.set_cons_succ, List.toList_toArray, List.drop_succ_cons, List.drop_zero, List.drop_nil, Nat.zero_add, Nat.reduceAdd]
            generalize γ 2 = g2 at *
            generalize γ 9 = g9 at *
            generalize γ 10 = g10 at *
            clear γ
            clear cez0 cez1 cez2 cez3 fez q0 q1 q2 q3 p2 p9 Hz Hqa HR
            replace ez := ez.ext hx6
            replace hx := hx.trans hx6
            have hown := Hown.out.ext hx6
            clear hx6 Hown
            obtain ⟨b5, A5, n5, c5, b6, A6, n6, c6, rfl⟩ := p10.cells
            obtain ⟨cez0, cez1, cez2, cez3⟩ := ez.cells4
            have fez := ez.frozen
            go_upto_region 19 with (fail)
            obtain ⟨W7, eW, ez', U⟩ := ez.put4 (.bool b5) (.slice A5 n5 c5) (.bool b6) (.slice A6 n6 c6) rfl rfl rfl rfl
            rw [← eW]
            clear eW ez cez0 cez1 cez2 cez3 fez
            replace hown := hown.off U Hbk.out
            replace hx := U.from_ hx (by have := Hsz9.out; simp; omega)
            have ebx := BoxQ.mk ez' (p10.kd U.kd)
            clear U ez' p10
            have Hown := Lib.hid hown; clear hown
            obtain ⟨k, rfl⟩ : ∃ k, k = i := ⟨_, rfl⟩
            have hv1 : nwt (rv d M) (pws d M) k k - ((k : Int) : Rat) * M (d - k) = pws d M (k - 1 + 1) := by rw [show k - 1 + 1 = k from by omega, Hval.out]; rfl
            have Hv1 := Lib.hid hv1; clear hv1
            obtain ⟨z1, Z1, zn, zc, z2, Z2, zn', zc', ez, hz⟩ := ebx
            have Hr := Lib.hid hz; clear hz
            obtain ⟨cez0, cez1, cez2, cez3⟩ := ez.cells4
            have fez := ez.frozen
            have hsz := hx.size
            go_wp2_with (at_builtin; refine wpList_append_run rfl _ _ 22 rfl (.slice A2 (k - 1) c2) (.slice (some ⟨W7.heap.size, 0, none⟩) 1 1) rfl rfl (append_rq W7 wb.heap.size _ _ _ _ _ Hown.out Hr.out (by first | (rw [List.length_map, List.length_range]; omega) | omega) hsz rfl) ?_)
            first | intro v' w5 hown U | rintro v' w5 ⟨hown, U⟩
            replace hx := (Hown.out.ext ((Ext.refl W7).alloc _)).from_ U (hx.alloc _) (Nat.le_refl _)
            have Hown' := Lib.hid hown; clear hown U
            go_wp2
            go_roundw
            case rel => exact ⟨k + 1, by omega, by omega, by go_num, by
              have := Hown'.out
              rw [Hv1.out, ← range_succ_map (fun j => pws d M (j + 1)), show k - 1 + 1 = k + 1 - 1 from by omega] at this
              exact this, hx⟩
            case measure => simp [intOf] <;> omega
          · rw [if_neg hkd] at Hval
            have hkd' : ¬ (k : Int) ≤ d := by omega
            have hin' : ¬ (i < k ∧ i ≤ d) := hin
            obtain rfl : i = d + 1 := by omega
            have hv1 : nwt (rv d M) (pws d M) k (d + 1) = pws d M (k - 1 + 1) := by rw [show k - 1 + 1 = k from by omega, Hval.out]
            have Hv1 := Lib.hid hv1; clear hv1 hin hin'
            by_cases hlt : d + 1 < k
            · skip
              obtain ⟨z1, Z1, zn, zc, z2, Z2, zn', zc', ez, hz⟩ := ebx
              have Hr := Lib.hid hz; clear hz
              obtain ⟨cez0, cez1, cez2, cez3⟩ := ez.cells4
              have fez := ez.frozen
              have hsz := hx.size
              go_wp2_with (at_builtin; refine wpList_append_run rfl _ _ 22 rfl (.slice A2 (k - 1) c2) (.slice (some ⟨wr.heap.size, 0, none⟩) 1 1) rfl rfl (append_rq wr wb.heap.size _ _ _ _ _ Hown.out Hr.out (by first | (rw [List.length_map, List.length_range]; omega) | omega) hsz rfl) ?_)
              first | intro v' w5 hown U | rintro v' w5 ⟨hown, U⟩
              replace hx := (Hown.out.ext ((Ext.refl wr).alloc _)).from_ U (hx.alloc _) (Nat.le_refl _)
              have Hown' := Lib.hid hown; clear hown U
              go_wp2
              go_roundw
              case rel => exact ⟨k + 1, by omega, by omega, by go_num, by
                have := Hown'.out
                rw [Hv1.out, ← range_succ_map (fun j => pws d M (j + 1)), show k - 1 + 1 = k + 1 - 1 from by omega] at this
                exact this, hx⟩
              case measure => simp [intOf] <;> omega
            · have hlt' : ¬ ((d : Int) + 1 < k) := by omega
              obtain ⟨z1, Z1, zn, zc, z2, Z2, zn', zc', ez, hz⟩ := ebx
              have Hr := Lib.hid hz; clear hz
              obtain ⟨cez0, cez1, cez2, cez3⟩ := ez.cells4
              have fez := ez.frozen
              have hsz := hx.size
              go_wp2_with (at_builtin; refine wpList_append_run rfl _ _ 22 rfl (.slice A2 (k - 1) c2) (.slice (some ⟨wr.heap.size, 0, none⟩) 1 1) rfl rfl (append_rq wr wb.heap.size _ _ _ _ _ Hown.out Hr.out (by first | (rw [List.length_map, List.length_range]; omega) | omega) hsz rfl) ?_)
              first | intro v' w5 hown U | rintro v' w5 ⟨hown, U⟩
              replace hx := (Hown.out.ext ((Ext.refl wr).alloc _)).from_ U (hx.alloc _) (Nat.le_refl _)
              have Hown' := Lib.hid hown; clear hown U
              go_wp2
              go_roundw
              case rel => exact ⟨k + 1, by omega, by omega, by go_num, by
                have := Hown'.out
                rw [Hv1.out, ← range_succ_map (fun j => pws d M (j + 1)), show k - 1 + 1 = k + 1 - 1 from by omega] at this
                exact this, hx⟩
              case measure => simp [intOf] <;> omega
    · obtain rfl : k = n + 1 := by omega
      have Hq := Lib.hid (OwnQ.row hown)
      have hsz := HW.out.size
      clear hown
      go_wp2
      go_ret2
      exact Gives.mk ⟨_, rfl, RowV.base_le Hq.out hsz⟩ (HW.out.trans hx)
end Go.Proofs.YtedoifjbgokmcaaGreat
namespace Go.Hp
open Go.RowKit
theorem IsP.upd {base : Nat} {G : List Nat} {w w' : World} {v : Value} {F : Nat → Rat} (h : IsP base w v F) (U : Upd G w w') (hG : ∀ g ∈ G, g < base) : IsP base w' v F := by
  obtain ⟨l, h1, h2, h3⟩ := h; exact ⟨l, RowV.upd h1 U hG fun _ _ q => q.kd U.kd, h2, h3⟩
end Go.Hp
namespace Go.Proofs.YtedoifjbgokmcaaGreat
open Go.RowKit Go.Hp
end Go.Proofs.YtedoifjbgokmcaaGreat
namespace Go.Hp
open Go.RowKit
end Go.Hp
namespace Go.Proofs.YtedoifjbgokmcaaGreat
open Go.RowKit Go.Hp
end Go.Proofs.YtedoifjbgokmcaaGreat
namespace Go.Hp
open Go.RowKit
/-- A new slice of one element is a row of the call's own. -/
theorem NewQ.own {w : World} {v : Value} {base : Nat} {q : Rat} {t : TypeId} (h : NewQ w v base q t) : OwnQ base t w v [q] := by
  obtain ⟨g, cs, rfl, h1, h2, h3, h4⟩ := h
  refine ⟨[cs], rfl, fun c hc => by simp at hc; subst hc; exact h3, ⟨by simp [h3], .inr ⟨g, 1, cs, rfl, h1, h2, by simp, by simp [maxLen], by simp [h3], ?_⟩⟩, fun j h h' => ?_⟩
  · simp only [List.flatMap_cons, List.flatMap_nil, List.append_nil]
    exact List.take_of_length_le (by simp [h3])
  · have : j = 0 := by simp at h; omega
    subst this; exact h4
end Go.Hp
namespace Go.Proofs.YtedoifjbgokmcaaGreat
open Go.RowKit Go.Hp
end Go.Proofs.YtedoifjbgokmcaaGreat
namespace Go.Hp
open Go.RowKit
theorem IsZ.of_one {w : World} {A : Option Addr} {c N : Nat} {b : Bool} {n : Int} (h : DigV w (.slice A 1 c) [N]) (h0 : N ≠ 0) (hn : n = if b then -(N : Int) else N) : IsZ w (.agg #[.bool b, .slice A 1 c]) n := by
  refine ⟨b, [N], ⟨_, rfl, h⟩, ?_, fun _ => by simpa using h0, fun _ => by simp⟩
  rw [hn]; unfold iv; simp [nv]
theorem IsZ.of_nil {w : World} : IsZ w (.agg #[.bool false, .slice none 0 0]) 0 := IsZ.zero w
end Go.Hp
namespace Go.Proofs.YtedoifjbgokmcaaGreat
open Go.RowKit Go.Hp
set_option maxHeartbeats 2000000 in
theorem z_b (n : Int) (w : World) (h1 : -4294967296 < n) (h2 : n < 4294967296) : Calls Tryz.prog 96 #[.int .i64 n] w (Gives w fun r w' => IsZ w' r n) := by
  go_enter Tryz.func96, Tryz.ntmps96
  by_cases hneg : n < 0
  · have hb : decide (n < 0) = true := by simpa using hneg
    have Hw := Lib.hid (wrap_neg (x := n) (by omega) hneg)
    obtain ⟨N, hN⟩ : ∃ N, N = n.natAbs := ⟨_, rfl⟩
    have HN := Lib.hid hN
    have hNb : N < 4294967296 := by omega
    clear hN
    go_wp2
    obtain ⟨W9, eW9, e9, x9⟩ := Box.made (w.alloc (.cells #[.bool false, .slice none 0 0] 38)) 38 #[.bool true, .slice none 0 0] (by simp [isDig])
    rw [← eW9]
    clear eW9
    rw [World.size_alloc] at e9
    go_loopw [3] (fun uv wx => ∃ m : Nat, uv = .int .u64 m ∧ m < 4294967296 ∧ ((m = N ∧ Box wx (w.heap.size + 1) 38 #[.bool true, .slice none 0 0]) ∨ (m = 0 ∧ N ≠ 0 ∧ ∃ A c, Box wx (w.heap.size + 1) 38 #[.bool true, .slice A 1 c] ∧ DigV wx (.slice A 1 c) [N])) ∧ Ext (w.alloc (.cells #[.bool false, .slice none 0 0] 38)) wx) (fun uv _ => (intOf uv).toNat)
    case atStart => exact ⟨N, by rw [Hw.out, HN.out], hNb, .inl ⟨rfl, e9⟩, x9⟩
    case round =>
      clear e9 x9
      obtain ⟨m, rfl, hm, hst, hx⟩ := hrel
      by_cases h0 : m = 0
      · have hr : ∃ A k c, Box wr (w.heap.size + 1) 38 #[.bool true, .slice A k c] ∧ IsZ wr (.agg #[.bool true, .slice A k c]) n := by
          rcases hst with ⟨e, hb⟩ | ⟨_, hne, A, c, hb, hd⟩
          · exact ⟨_, _, _, hb, by have h3 := HN.out; omega⟩
          · exact ⟨_, _, _, hb, IsZ.of_one hd hne (by have h3 := HN.out; (simp; omega))⟩
        obtain ⟨A5, n5, c5, ez, hr⟩ := hr
        have H0 := Lib.hid h0; clear h0
        have Hr := Lib.hid hr; clear hr hst
        have hm0 : ¬ (0 < (m : Int)) := by have := H0.out; omega
        obtain ⟨cez0, cez1⟩ := ez.cells2
        have fez := ez.frozen
        have hx1 := hx
        clear hx
        have hc1 := hx1.cells
        have hf1 := hx1.frozens
        have Hfin := Lib.hid (fin_z Hr.out hx1.a1 (NoDig.at_ hx1 (g := w.heap.size + 0) (by simp) (by simp [isDig])) (by omega))
        go_wp2
        refine bodyPost_ret (v := .agg #[.bool true, .slice A5 n5 c5]) (by simp [results, Tryz.results96, go_sem, hc1]) rfl ?_
        exact Hfin.out
      · obtain ⟨rfl, ez⟩ : m = N ∧ Box wr (w.heap.size + 1) 38 #[.bool true, .slice none 0 0] := by
          rcases hst with ⟨e, hb⟩ | ⟨e, _⟩
          · exact ⟨e, hb⟩
          · exact absurd e h0
        have hm0 : 0 < m := by omega
        have hsz : w.heap.size ≤ wr.heap.size := hx.a1.size
        clear hst
        obtain ⟨cez0, cez1⟩ := ez.cells2
        have fez := ez.frozen
        go_wp2_with (at_builtin; refine wpList_append_run rfl _ _ 36 rfl (.slice none 0 0) (.slice (some ⟨wr.heap.size, 0, none⟩) 1 1) rfl rfl (append_d wr w.heap.size _ _ [] m _ _ (OwnD.nil _ _) (by first | rfl | omega) (by simp) hsz rfl) ?_)
        rintro v' w5 hown hg
        have xa : Ext wr w5 := ((Ext.refl wr).alloc _).grown hg (fun k hk => by simp [Value.ownBlock] at hk)
        have hd := hown.digv (Digs.cons hm Digs.nil)
        have hd2 := hd
        obtain ⟨A5, c5, rfl, -, -, -⟩ := hd2
        clear hown hg
        have ez5 := ez.ext xa
        replace hx := hx.trans xa
        clear ez xa cez0 cez1 fez
        obtain ⟨cez50, cez51⟩ := ez5.cells2
        have fez5 := ez5.frozen
        have Hd := Lib.hid hd; clear hd
        have H0 := Lib.hid h0; clear h0
        go_wp2
        have eb := ez5.set_ 1 (u := .slice A5 1 c5) rfl
        have U := Upd.set_ ez5.nodig 1 (.slice A5 1 c5)
        replace hx := U.from_ hx (by simp)
        have Hdd := Lib.hid (show DigV _ _ _ from DigV.kd Hd.out U.kd)
        go_roundw
        case rel => exact ⟨0, by go_num, by omega, .inr ⟨rfl, H0.out, A5, c5, eb, Hdd.out⟩, hx⟩
        case measure => simp [intOf] <;> omega
  · have hb : decide (n < 0) = false := by simpa using hneg
    have Hw := Lib.hid (wrap_pos (x := n) (by omega) (by omega))
    obtain ⟨N, hN⟩ : ∃ N, N = n.natAbs := ⟨_, rfl⟩
    have HN := Lib.hid hN
    have hNb : N < 4294967296 := by omega
    clear hN
    go_wp2
    obtain ⟨W9, eW9, e9, x9⟩ := Box.made (w.alloc (.cells #[.bool false, .slice none 0 0] 38)) 38 #[.bool false, .slice none 0 0] (by simp [isDig])
    rw [← eW9]
    clear eW9
    rw [World.size_alloc] at e9
    go_loopw [3] (fun uv wx => ∃ m : Nat, uv = .int .u64 m ∧ m < 4294967296 ∧ ((m = N ∧ Box wx (w.heap.size + 1) 38 #[.bool false, .slice none 0 0]) ∨ (m = 0 ∧ N ≠ 0 ∧ ∃ A c, Box wx (w.heap.size + 1) 38 #[.bool false, .slice A 1 c] ∧ DigV wx (.slice A 1 c) [N])) ∧ Ext (w.alloc (.cells #[.bool false, .slice none 0 0] 38)) wx) (fun uv _ => (intOf uv).toNat)
    case atStart => exact ⟨N, by (congr 1; have h3 := HN.out; omega), hNb, .inl ⟨rfl, e9⟩, x9⟩
    case round =>
      clear e9 x9
      obtain ⟨m, rfl, hm, hst, hx⟩ := hrel
      by_cases h0 : m = 0
      · have hr : ∃ A k c, Box wr (w.heap.size + 1) 38 #[.bool false, .slice A k c] ∧ IsZ wr (.agg #[.bool false, .slice A k c]) n := by
          rcases hst with ⟨e, hb⟩ | ⟨_, hne, A, c, hb, hd⟩
          · exact ⟨_, _, _, hb, by have h3 := HN.out; (have e5 : n = 0 := by omega) ; rw [e5]; exact IsZ.of_nil⟩
          · exact ⟨_, _, _, hb, IsZ.of_one hd hne (by have h3 := HN.out; (simp; omega))⟩
        obtain ⟨A5, n5, c5, ez, hr⟩ := hr
        have H0 := Lib.hid h0; clear h0
        have Hr := Lib.hid hr; clear hr hst
        have hm0 : ¬ (0 < (m : Int)) := by have := H0.out; omega
        obtain ⟨cez0, cez1⟩ := ez.cells2
        have fez := ez.frozen
        have hx1 := hx
        clear hx
        have hc1 := hx1.cells
        have hf1 := hx1.frozens
        have Hfin := Lib.hid (fin_z Hr.out hx1.a1 (NoDig.at_ hx1 (g := w.heap.size + 0) (by simp) (by simp [isDig])) (by omega))
        go_wp2
        refine bodyPost_ret (v := .agg #[.bool false, .slice A5 n5 c5]) (by simp [results, Tryz.results96, go_sem, hc1]) rfl ?_
        exact Hfin.out
      · obtain ⟨rfl, ez⟩ : m = N ∧ Box wr (w.heap.size + 1) 38 #[.bool false, .slice none 0 0] := by
          rcases hst with ⟨e, hb⟩ | ⟨e, _⟩
          · exact ⟨e, hb⟩
          · exact absurd e h0
        have hm0 : 0 < m := by omega
        have hsz : w.heap.size ≤ wr.heap.size := hx.a1.size
        clear hst
        obtain ⟨cez0, cez1⟩ := ez.cells2
        have fez := ez.frozen
        go_wp2_with (at_builtin; refine wpList_append_run rfl _ _ 36 rfl (.slice none 0 0) (.slice (some ⟨wr.heap.size, 0, none⟩) 1 1) rfl rfl (append_d wr w.heap.size _ _ [] m _ _ (OwnD.nil _ _) (by first | rfl | omega) (by simp) hsz rfl) ?_)
        rintro v' w5 hown hg
        have xa : Ext wr w5 := ((Ext.refl wr).alloc _).grown hg (fun k hk => by simp [Value.ownBlock] at hk)
        have hd := hown.digv (Digs.cons hm Digs.nil)
        have hd2 := hd
        obtain ⟨A5, c5, rfl, -, -, -⟩ := hd2
        clear hown hg
        have ez5 := ez.ext xa
        replace hx := hx.trans xa
        clear ez xa cez0 cez1 fez
        obtain ⟨cez50, cez51⟩ := ez5.cells2
        have fez5 := ez5.frozen
        have Hd := Lib.hid hd; clear hd
        have H0 := Lib.hid h0; clear h0
        go_wp2
        have eb := ez5.set_ 1 (u := .slice A5 1 c5) rfl
        have U := Upd.set_ ez5.nodig 1 (.slice A5 1 c5)
        replace hx := U.from_ hx (by simp)
        have Hdd := Lib.hid (show DigV _ _ _ from DigV.kd Hd.out U.kd)
        go_roundw
        case rel => exact ⟨0, by go_num, by omega, .inr ⟨rfl, H0.out, A5, c5, eb, Hdd.out⟩, hx⟩
        case measure => simp [intOf] <;> omega
theorem q_b (n : Int) (w : World) (h1 : -4294967296 < n) (h2 : n < 4294967296) : Calls Tryz.prog 95 #[.int .i64 n] w (Gives w fun r w' => IsQ w' r (n : Rat)) := by
  go_enter Tryz.func95, Tryz.ntmps95
  go_wp2_with fail
  refine Calls.mono (z_b n _ h1 h2) ?_
  rintro e w1 ⟨r, rfl, hn, hx1⟩
  go_wp2_with fail
  refine Calls.mono (z_b 1 _ (by omega) (by omega)) ?_
  rintro e w2 ⟨r, rfl, h1', hx2⟩
  replace hn := hn.ext hx2
  replace hx1 := hx1.trans hx2
  clear hx2
  obtain ⟨b5, A5, n5, c5, rfl⟩ := hn.cells
  obtain ⟨b6, A6, n6, c6, rfl⟩ := h1'.cells
  have hr := IsQ.mk_ hn h1' (q := (n : Rat)) rfl rfl
  clear hn h1'
  have hc1 := hx1.cells
  have hf1 := hx1.frozens
  have Hfin := Lib.hid (fin_q hr hx1.a1 (NoDig.at_ hx1 (g := w.heap.size + 0) (by simp) (by simp [isDig])) (by omega))
  clear hr
  go_wp2
  refine bodyPost_ret (v := .agg #[.bool b5, .slice A5 n5 c5, .bool b6, .slice A6 n6 c6]) (by simp [results, Tryz.results95, go_sem, hc1]) rfl ?_
  exact Hfin.out
end Go.Proofs.YtedoifjbgokmcaaGreat
namespace Go.Hp
open Go.RowKit
/-- A slice of ints. -/
def IntsV (w : World) (v : Value) (ns : List Int) : Prop := ∃ g c, v = .slice (some ⟨g, 0, none⟩) ns.length c ∧ ns.length ≤ c ∧ c ≤ 9223372036854775807 ∧ ∀ j (h : j < ns.length), w.cell? ⟨g, j, none⟩ = some (.int .i64 ns[j])
theorem IntsV.new (w : World) (t : TypeId) (ns : List Int) (h : ns.length ≤ 1000) : IntsV (w.alloc (.cells (ns.map fun n => Value.int .i64 n).toArray t)) (.slice (some ⟨w.heap.size, 0, none⟩) ns.length ns.length) ns :=
  ⟨_, _, rfl, Nat.le_refl _, by omega, fun j hj => by
    rw [cell_of_row _ w.heap.size j _ t (0, 0) (heap_alloc_new w _)]
    simp [hj]⟩
/-- The fractions of a list of ints. -/
def qs_ (ns : List Int) : List Rat := ns.map fun (n : Int) => (n : Rat)
theorem two_qs {w : World} {t : TypeId} {b b' : Bool} {A A' : Option Addr} {n c n' c' : Nat} {d d' : Bool} {E E' : Option Addr} {m e m' e' : Nat} {p q : Rat} (h1 : IsQ w (.agg #[.bool b, .slice A n c, .bool b', .slice A' n' c']) p) (h2 : IsQ w (.agg #[.bool d, .slice E m e, .bool d', .slice E' m' e']) q) :
    QsV 0 (w.alloc (.cells #[.bool b, .slice A n c, .bool b', .slice A' n' c', .bool d, .slice E m e, .bool d', .slice E' m' e'] t)) (.slice (some ⟨w.heap.size, 0, none⟩) 2 2) [p, q] := by
  have k1 := h1.ext ((Ext.refl w).alloc (.cells #[.bool b, .slice A n c, .bool b', .slice A' n' c', .bool d, .slice E m e, .bool d', .slice E' m' e'] t))
  have k2 := h2.ext ((Ext.refl w).alloc (.cells #[.bool b, .slice A n c, .bool b', .slice A' n' c', .bool d, .slice E m e, .bool d', .slice E' m' e'] t))
  refine ⟨_, 2, rfl, by simp, by omega, fun _ => ⟨w.heap.size, 0, rfl, Nat.zero_le _, fun j hj => ?_⟩⟩
  have hj2 : j < 2 := by simpa using hj
  match j, hj2 with
  | 0, _ => exact ⟨_, rfl, fun i hi => by
      rw [cell_of_row _ w.heap.size _ _ t (0, 0) (heap_alloc_new w _)]
      match i, hi with
      | 0, _ => rfl
      | 1, _ => rfl
      | 2, _ => rfl
      | 3, _ => rfl, k1⟩
  | 1, _ => exact ⟨_, rfl, fun i hi => by
      rw [cell_of_row _ w.heap.size _ _ t (0, 0) (heap_alloc_new w _)]
      match i, hi with
      | 0, _ => rfl
      | 1, _ => rfl
      | 2, _ => rfl
      | 3, _ => rfl, k2⟩
theorem QsV.at_ {base n c : Nat} {w : World} {A : Option Addr} {l : List Rat} (h : QsV base w (.slice A n c) l) {j : Nat} (hj : j < l.length) :
    ∃ g o b A1 n c b' A1' n' c', A = some ⟨g, o, none⟩ ∧ base ≤ g ∧ w.cell? ⟨g, o + j * 4, none⟩ = some (.bool b) ∧ w.cell? ⟨g, o + j * 4 + 1, none⟩ = some (.slice A1 n c) ∧ w.cell? ⟨g, o + j * 4 + 2, none⟩ = some (.bool b') ∧ w.cell? ⟨g, o + j * 4 + 3, none⟩ = some (.slice A1' n' c') ∧ IsQ w (.agg #[.bool b, .slice A1 n c, .bool b', .slice A1' n' c']) l[j] := by
  obtain ⟨A', c', e1, h2, h3, h4⟩ := h
  have e5 : A' = A := by injection e1 with h1; exact h1.symm
  subst e5
  exact QsAt.at_ h4 hj
end Go.Hp
namespace Go.Proofs.YtedoifjbgokmcaaGreat
open Go.RowKit Go.Hp
set_option maxRecDepth 20000 in
set_option maxHeartbeats 1000000 in
theorem qs_b (v : Value) (ns : List Int) (w : World) (hv : IntsV w v ns) (hn : ns.length ≤ 1000) (hs : ∀ n ∈ ns, -4294967296 < n ∧ n < 4294967296) : Calls Tryz.prog 44 #[v] w (Gives w fun r w' => QsV w.heap.size w' r (qs_ ns)) := by
  obtain ⟨g, c, rfl, h1, h2, h3⟩ := hv
  have H3 := Lib.hid (And.intro h3 hs); clear h3 hs
  go_enter Tryz.func44, Tryz.ntmps44
  go_wp2
  go_loopw [3, 4] (fun ov iv wr => ∃ (k : Nat), k ≤ ns.length ∧ iv = .int .i64 k ∧ OwnQ w.heap.size 40 wr ov ((qs_ ns).take k) ∧ Ext w wr) (fun _ iv _ => ns.length - (intOf iv).toNat)
  case atStart => exact ⟨0, Nat.zero_le _, rfl, OwnR.nil _ _ _ _ _, Ext.refl _⟩
  case round =>
    obtain ⟨k, hk, rfl, hown, hx⟩ := hrel
    have Hown0 := Lib.hid hown; clear hown
    by_cases hkl : k < ns.length
    · have q0 := hx.cell (H3.out.1 k hkl)
      obtain ⟨m, hm⟩ : ∃ m, m = ns[k] := ⟨_, rfl⟩
      rw [← hm] at q0
      have hb := H3.out.2 ns[k] (List.getElem_mem hkl)
      rw [← hm] at hb
      have Hm := Lib.hid hm; clear hm
      go_wp2_with fail
      refine Calls.mono (q_b m _ hb.1 hb.2) ?_
      rintro e w2 ⟨r, rfl, hr, hx2⟩
      obtain ⟨b5, A5, n5, c5, b6, A6, n6, c6, rfl⟩ := hr.cells
      have Hr := Lib.hid hr; clear hr
      have hown := Hown0.out.ext hx2
      have Hown := Lib.hid hown; clear hown
      replace hx := hx.trans hx2
      have hsz := hx.size
      have hlk : ((qs_ ns).take k).length ≤ 1000 := Nat.le_trans (List.length_take_le _ _) (by omega)
      clear hx2 q0 Hown0
      go_wp2_with (at_builtin; refine wpList_append_run rfl _ _ 22 rfl u3 (.slice (some ⟨w2.heap.size, 0, none⟩) 1 1) rfl rfl (append_rq w2 w.heap.size _ _ _ _ _ Hown.out Hr.out (by first | (rw [List.length_map, List.length_range]; omega) | omega) hsz rfl) ?_)
      first | intro v' w5 hown U | rintro v' w5 ⟨hown, U⟩
      replace hx := (Hown.out.ext ((Ext.refl w2).alloc _)).from_ U (hx.alloc _) (Nat.le_refl _)
      have Hown' := Lib.hid hown; clear hown U
      go_wp2
      go_roundw
      case rel => exact ⟨k + 1, by omega, by go_num, by
        have hl : k < (qs_ ns).length := by simpa [qs_] using hkl
        rw [List.take_succ_eq_append_getElem hl]
        have e : (qs_ ns)[k] = (m : Rat) := by simp [qs_, Hm.out]
        rw [e]; exact Hown'.out, hx⟩
      case measure => simp [intOf] <;> omega
    · obtain rfl : k = ns.length := by omega
      have hq := OwnQ.row Hown0.out
      rw [List.take_of_length_le (by simp [qs_])] at hq
      have Hq := Lib.hid hq; clear hq Hown0
      go_wp2
      go_ret
      exact Gives.mk Hq.out hx
set_option maxHeartbeats 1000000 in
theorem samerats_b (v u : Value) (l : List Rat) (b1 b2 : Nat) (w : World) (hv : QsV b1 w v l) (hu : QsV b2 w u l) (hn : l.length ≤ 1099511627776) : Calls Tryz.prog 12 #[v, u] w (Gives w fun r _ => r = .bool true) := by
  have HV := Lib.hid hv; have HU := Lib.hid hu
  obtain ⟨A, c, rfl⟩ := hv.len
  obtain ⟨E, d, rfl⟩ := hu.len
  clear hv hu
  go_enter Tryz.func12, Tryz.ntmps12
  go_wp2
  go_loopw [5] (fun iv wr => ∃ (k : Nat), k ≤ l.length ∧ iv = .int .i64 k ∧ Ext w wr) (fun iv _ => l.length - (intOf iv).toNat)
  case atStart => exact ⟨0, Nat.zero_le _, rfl, Ext.refl _⟩
  case round =>
    obtain ⟨k, hk, rfl, hx⟩ := hrel
    by_cases hkl : k < l.length
    · obtain ⟨g, o, b, A1, n, c1, b', A1', n', c1', rfl, _, q0, q1, q2, q3, hq⟩ := HV.out.at_ (j := k) hkl
      obtain ⟨g', o', bb, B1, m, d1, bb', B1', m', d1', rfl, _, r0, r1, r2, r3, hq'⟩ := HU.out.at_ (j := k) hkl
      replace q0 := hx.cell q0
      replace q1 := hx.cell q1
      replace q2 := hx.cell q2
      replace q3 := hx.cell q3
      replace r0 := hx.cell r0
      replace r1 := hx.cell r1
      replace r2 := hx.cell r2
      replace r3 := hx.cell r3
      have Hq := Lib.hid (And.intro hq hq'); clear hq hq'
      go_wp2_with fail
      refine wp_region_par (k := 8) (D := [17, 18, 19, 20, 21, 22, 23, 24]) (T := [[], [], [0, 1], [0, 1, 2], [], [], [4, 5], [4, 5, 6], [0, 1, 2, 3, 4, 5, 6, 7], [0, 1, 2, 3, 4, 5, 6, 7, 8]]) (EK := [0, 5, 1]) (EV := [?e1x0, ?e1x1, ?e1x2]) (VL := [(kv ?v1x0), (kv ?v1x1), (kv ?v1x2), (kv ?v1x3), (kv ?v1x4), (kv ?v1x5), (kv ?v1x6), (kv ?v1x7)]) (FL := fun γ w' => [True, True, True, True, True, True, True, True]) ?hE1 (by kernel_rfl) (by kernel_rfl) (by rfl) (by kernel_rfl) ?hloc1 ?hmono1 ?hstep1 ?htail1
      case hE1 => refine ⟨?_, ?_, ?_, trivial⟩ <;> (simp only [List.getElem?_toArray, List.getElem?_cons_succ, List.getElem?_cons_zero]; rfl)
      case hstep1 =>
        refine ⟨⟨⟨⟨⟨⟨⟨⟨trivial, ?_⟩, ?_⟩, ?_⟩, ?_⟩, ?_⟩, ?_⟩, ?_⟩, ?_⟩
        · intro γ w' he hf; clear hf; refine ⟨trivial, ?_⟩; intro R hR
          have hc := he.cells
          go_simp
          (try go_ints); (try (rw [if_neg (by omega)])); (try (rw [if_pos (by omega)])); (try go_simp); (try go_ints)
          refine hR _ _ (Ext.refl _) ?_ trivial
          rfl
        · intro γ w' he hf; clear hf; refine ⟨trivial, ?_⟩; intro R hR
          have hc := he.cells
          go_simp
          (try go_ints); (try (rw [if_neg (by omega)])); (try (rw [if_pos (by omega)])); (try go_simp); (try go_ints)
          refine hR _ _ (Ext.refl _) ?_ trivial
          rfl
        · intro γ w' he hf; clear hf; refine ⟨trivial, ?_⟩; intro R hR
          have hc := he.cells
          go_simp
          (try go_ints); (try (rw [if_neg (by omega)])); (try (rw [if_pos (by omega)])); (try go_simp); (try go_ints)
          refine hR _ _ (Ext.refl _) ?_ trivial
          rfl
        · intro γ w' he hf; clear hf; refine ⟨trivial, ?_⟩; intro R hR
          have hc := he.cells
          have cq0 := he.cell q0
          have cq1 := he.cell q1
          have cq2 := he.cell q2
          have cq3 := he.cell q3
          have cq4 := he.cell r0
          have cq5 := he.cell r1
          have cq6 := he.cell r2
          have cq7 := he.cell r3
          go_simp
          (try go_ints); (try (rw [if_neg (by omega)])); (try (rw [if_pos (by omega)])); (try go_simp); (try go_ints)
          refine hR _ _ (Ext.refl _) ?_ trivial
          rfl
        · intro γ w' he hf; clear hf; refine ⟨trivial, ?_⟩; intro R hR
          have hc := he.cells
          go_simp
          (try go_ints); (try (rw [if_neg (by omega)])); (try (rw [if_pos (by omega)])); (try go_simp); (try go_ints)
          refine hR _ _ (Ext.refl _) ?_ trivial
          rfl
        · intro γ w' he hf; clear hf; refine ⟨trivial, ?_⟩; intro R hR
          have hc := he.cells
          go_simp
          (try go_ints); (try (rw [if_neg (by omega)])); (try (rw [if_pos (by omega)])); (try go_simp); (try go_ints)
          refine hR _ _ (Ext.refl _) ?_ trivial
          rfl
        · intro γ w' he hf; clear hf; refine ⟨trivial, ?_⟩; intro R hR
          have hc := he.cells
          go_simp
          (try go_ints); (try (rw [if_neg (by omega)])); (try (rw [if_pos (by omega)])); (try go_simp); (try go_ints)
          refine hR _ _ (Ext.refl _) ?_ trivial
          rfl
        · intro γ w' he hf; clear hf; refine ⟨trivial, ?_⟩; intro R hR
          have hc := he.cells
          have cq0 := he.cell q0
          have cq1 := he.cell q1
          have cq2 := he.cell q2
          have cq3 := he.cell q3
          have cq4 := he.cell r0
          have cq5 := he.cell r1
          have cq6 := he.cell r2
          have cq7 := he.cell r3
          go_simp
          (try go_ints); (try (rw [if_neg (by omega)])); (try (rw [if_pos (by omega)])); (try go_simp); (try go_ints)
          refine hR _ _ (Ext.refl _) ?_ trivial
          rfl
      case hloc1 =>
        exact ⟨⟨⟨⟨⟨⟨⟨⟨trivial, (fun γ γ' h => ⟨rfl, fun _ => rfl⟩)⟩, (fun γ γ' h => ⟨rfl, fun _ => rfl⟩)⟩, (fun γ γ' h => ⟨rfl, fun _ => rfl⟩)⟩, (fun γ γ' h => ⟨rfl, fun _ => rfl⟩)⟩, (fun γ γ' h => ⟨rfl, fun _ => rfl⟩)⟩, (fun γ γ' h => ⟨rfl, fun _ => rfl⟩)⟩, (fun γ γ' h => ⟨rfl, fun _ => rfl⟩)⟩, (fun γ γ' h => ⟨rfl, fun _ => rfl⟩)⟩
      case hmono1 =>
        exact ⟨⟨⟨⟨⟨⟨⟨⟨trivial, (fun γ wA w' e h => h)⟩, (fun γ wA w' e h => h)⟩, (fun γ wA w' e h => h)⟩, (fun γ wA w' e h => h)⟩, (fun γ wA w' e h => h)⟩, (fun γ wA w' e h => h)⟩, (fun γ wA w' e h => h)⟩, (fun γ wA w' e h => h)⟩
      intro γ w1 hx1 hF
      clear hF
      simp only [fillAll, gV, kv, List.getD_cons_zero, List.getD_cons_succ, Act.put, List.setIfInBounds_toArray, List.set_cons_zero, List.set_cons_succ, List.toList_toArray, List.drop_succ_cons, List.drop_zero, List.drop_nil, Nat.zero_add, Nat.reduceAdd]
      clear γ
      go_wp2_with fail
      refine Calls.mono (samerat_b _ _ l[k] l[k] _ (Hq.out.1.ext (hx.trans hx1)) (Hq.out.2.ext (hx.trans hx1))) ?_
      rintro e w2 ⟨r, rfl, rfl, hx2⟩
      replace hx := (hx.trans hx1).trans hx2
      clear q0 q1 q2 q3 r0 r1 r2 r3 hx1 hx2
      go_wp2
      go_roundw
      case rel => exact ⟨k + 1, by omega, by go_num, hx⟩
      case measure => simp [intOf] <;> omega
    · obtain rfl : k = l.length := by omega
      clear HV HU
      go_wp2
      go_ret
      exact Gives.mk rfl hx
theorem samerats_p (v u : Value) (F : Nat → Rat) (b1 b2 : Nat) (w : World) (hv : IsP b1 w v F) (hu : IsP b2 w u F) (hn : pl F ≤ 1099511627776) : Calls Tryz.prog 12 #[v, u] w (Gives w fun r _ => r = .bool true) := by
  obtain ⟨l, h1, h2, h3⟩ := hv
  obtain ⟨m, k1, k2, k3⟩ := hu
  have : l = m := h2.uniq k2 (h3.trans k3.symm)
  subst this
  exact samerats_b v u l b1 b2 w h1 k1 (by rw [← h2.pl, h3]; exact hn)
end Go.Proofs.YtedoifjbgokmcaaGreat
namespace Go.Hp
theorem max_neg (n : Int) : max n (-n) = (n.natAbs : Int) := by omega
theorem tdiv_gcd (n d : Int) : n.tdiv ((Nat.gcd n.natAbs d.natAbs : Nat) : Int) = n / ((Int.gcd n d : Nat) : Int) := by
  rw [show Nat.gcd n.natAbs d.natAbs = Int.gcd n d from rfl]
  exact Int.tdiv_eq_ediv_of_dvd (Int.gcd_dvd_left ..)
end Go.Hp
namespace Go.Proofs.YtedoifjbgokmcaaGreat
open Go.RowKit Go.Hp
set_option maxHeartbeats 1000000 in
theorem frac_b (n d : Int) (w : World) (h1 : -2147483648 < n) (h2 : n < 2147483648) (h3 : 0 < d) (h4 : d < 2147483648) : Calls Tryz.prog 46 #[.int .i64 n, .int .i64 d] w (Gives w fun r w' => IsQ w' r (Rat.divInt n d)) := by
  have hb : decide (d < 0) = false := by simp; omega
  have Hm := Lib.hid (max_neg n)
  go_enter Tryz.func46, Tryz.ntmps46
  go_wp2
  go_loopw [5, 6] (fun av bv wr => ∃ (a b : Nat), av = .int .i64 a ∧ bv = .int .i64 b ∧ Nat.gcd a b = Nat.gcd n.natAbs d.natAbs ∧ a ≤ 2147483648 ∧ b ≤ 2147483648 ∧ Ext (w.alloc (.cells #[.bool false, .slice none 0 0, .bool false, .slice none 0 0] 40)) wr) (fun _ bv _ => (intOf bv).toNat)
  case atStart => exact ⟨n.natAbs, d.natAbs, by congr 1, by congr 1; omega, rfl, by omega, by omega, Ext.refl _⟩
  case round =>
    obtain ⟨a, b, rfl, rfl, hg, ha, hb', hx⟩ := hrel
    have Hg := Lib.hid hg; clear hg
    by_cases h0 : b = 0
    · have hb0 : ¬ (0 < (b : Int)) := by omega
      have hga : a = Nat.gcd n.natAbs d.natAbs := by rw [← Hg.out, h0, Nat.gcd_zero_right]
      have Hga := Lib.hid hga; clear hga h0
      have ha0 : 0 < a := by rw [Hga.out]; exact Nat.gcd_pos_of_pos_right _ (by omega)
      go_wp2_with fail
      have hq1 : n.tdiv (a : Int) = n / (Int.gcd n d : Nat) := by rw [Hga.out]; exact tdiv_gcd n d
      have hq2 : d / (a : Int) = d / (Int.gcd n d : Nat) := by rw [Hga.out]; rfl
      have hb1 : -4294967296 < n / ((Int.gcd n d : Nat) : Int) ∧ n / ((Int.gcd n d : Nat) : Int) < 4294967296 := by
        have h5 := Int.gcd_pos_of_ne_zero_right n (show d ≠ 0 by omega)
        have h6 := Int.natAbs_ediv_le_natAbs n ((Int.gcd n d : Nat) : Int)
        omega
      have hb2 : -4294967296 < d / ((Int.gcd n d : Nat) : Int) ∧ d / ((Int.gcd n d : Nat) : Int) < 4294967296 := by
        have h6 := Int.natAbs_ediv_le_natAbs d ((Int.gcd n d : Nat) : Int)
        omega
      have HQ := Lib.hid (And.intro (And.intro hq1 hq2) (And.intro hb1 hb2)); clear hq1 hq2 hb1 hb2
      refine wp_region_par (k := 7) (D := [24, 25, 26, 27, 28, 29, 30]) (T := [[], [], [0, 1], [0, 1, 2], [], [], [4, 5], [0, 1, 2, 3, 4, 5, 6], [0, 1, 2, 3, 4, 5, 6, 7], [0, 1, 2, 3, 4, 5, 6, 7, 8]]) (EK := [0, 5, 1]) (EV := [?e1x0, ?e1x1, ?e1x2]) (VL := [(kv ?v1x0), (kv ?v1x1), (kv ?v1x2), (fun γ => γ 3), (kv ?v1x4), (kv ?v1x5), (kv ?v1x6)]) (FL := fun γ w' => [True, True, True, IsZ w' (γ 3) (n / (Int.gcd n d : Nat)), True, True, True]) ?hE1 (by kernel_rfl) (by kernel_rfl) (by rfl) (by kernel_rfl) ?hloc1 ?hmono1 ?hstep1 ?htail1
      case hE1 => refine ⟨?_, ?_, ?_, trivial⟩ <;> (simp only [List.getElem?_toArray, List.getElem?_cons_succ, List.getElem?_cons_zero]; rfl)
      case hstep1 =>
        refine ⟨⟨⟨⟨⟨⟨⟨trivial, ?_⟩, ?_⟩, ?_⟩, ?_⟩, ?_⟩, ?_⟩, ?_⟩
        · intro γ w' he hf; clear hf; refine ⟨trivial, ?_⟩; intro R hR
          have hc := he.cells
          go_simp
          (try go_ints); (try (rw [if_neg (by omega)])); (try (rw [if_pos (by omega)])); (try go_simp); (try go_ints)
          refine hR _ _ (Ext.refl _) ?_ trivial
          rfl
        · intro γ w' he hf; clear hf; refine ⟨trivial, ?_⟩; intro R hR
          have hc := he.cells
          go_simp
          (try go_ints); (try (rw [if_neg (by omega)])); (try (rw [if_pos (by omega)])); (try go_simp); (try go_ints)
          refine hR _ _ (Ext.refl _) ?_ trivial
          rfl
        · intro γ w' he hf; clear hf; refine ⟨trivial, ?_⟩; intro R hR
          have hc := he.cells
          go_simp
          (try go_ints); (try (rw [if_neg (by omega)])); (try (rw [if_pos (by omega)])); (try go_simp); (try go_ints)
          refine hR _ _ (Ext.refl _) ?_ trivial
          rfl
        · intro γ w' he hf; clear hf; refine ⟨trivial, ?_⟩; intro R hR
          go_simp
          refine Calls.mono (show Calls _ _ _ w' (Gives w' fun r w'' => IsZ w'' (r) (n / (Int.gcd n d : Nat))) from (show Calls Tryz.prog 96 #[.int .i64 (n.tdiv (a : Int))] w' (Gives w' fun r w'' => IsZ w'' r (n / (Int.gcd n d : Nat))) by rw [HQ.out.1.1]; exact z_b _ w' HQ.out.2.1.1 HQ.out.2.1.2)) ?_
          rintro e w2 ⟨v, rfl, hv, hx⟩
          exact ⟨v, rfl, hR v w2 hx rfl hv⟩
        · intro γ w' he hf; clear hf; refine ⟨trivial, ?_⟩; intro R hR
          have hc := he.cells
          go_simp
          (try go_ints); (try (rw [if_neg (by omega)])); (try (rw [if_pos (by omega)])); (try go_simp); (try go_ints)
          refine hR _ _ (Ext.refl _) ?_ trivial
          rfl
        · intro γ w' he hf; clear hf; refine ⟨trivial, ?_⟩; intro R hR
          have hc := he.cells
          go_simp
          (try go_ints); (try (rw [if_neg (by omega)])); (try (rw [if_pos (by omega)])); (try go_simp); (try go_ints)
          refine hR _ _ (Ext.refl _) ?_ trivial
          rfl
        · intro γ w' he hf; clear hf; refine ⟨trivial, ?_⟩; intro R hR
          have hc := he.cells
          go_simp
          (try go_ints); (try (rw [if_neg (by omega)])); (try (rw [if_pos (by omega)])); (try go_simp); (try go_ints)
          refine hR _ _ (Ext.refl _) ?_ trivial
          rfl
      case hloc1 =>
        exact ⟨⟨⟨⟨⟨⟨⟨trivial, (fun γ γ' h => ⟨rfl, fun _ => rfl⟩)⟩, (fun γ γ' h => ⟨rfl, fun _ => rfl⟩)⟩, (fun γ γ' h => ⟨rfl, fun _ => rfl⟩)⟩, (fun γ γ' h => ⟨h 3 rfl, fun w' => (congrArg (fun a => IsZ w' (a) (n / (Int.gcd n d : Nat))) (h 3 rfl))⟩)⟩, (fun γ γ' h => ⟨rfl, fun _ => rfl⟩)⟩, (fun γ γ' h => ⟨rfl, fun _ => rfl⟩)⟩, (fun γ γ' h => ⟨rfl, fun _ => rfl⟩)⟩
      case hmono1 =>
        exact ⟨⟨⟨⟨⟨⟨⟨trivial, (fun γ wA w' e h => h)⟩, (fun γ wA w' e h => h)⟩, (fun γ wA w' e h => h)⟩, (fun γ wA w' e h => (show IsZ wA (γ 3) (n / (Int.gcd n d : Nat)) from h).ext e)⟩, (fun γ wA w' e h => h)⟩, (fun γ wA w' e h => h)⟩, (fun γ wA w' e h => h)⟩
      intro γ w1 hx1 hF
      have p3 : IsZ w1 (γ 3) (n / (Int.gcd n d : Nat)) := Each.get hF 3 (by decide)
      clear hF
      simp only [fillAll, gV, kv, List.getD_cons_zero, List.getD_cons_succ, Act.put, List.setIfInBounds_toArray, List.set_cons_zero, List.set_cons_succ, List.toList_toArray, List.drop_succ_cons, List.drop_zero, List.drop_nil, Nat.zero_add, Nat.reduceAdd]
      generalize γ 3 = g3 at *
      clear γ
      go_wp2_with fail
      refine Calls.mono (z_b _ _ (by rw [HQ.out.1.2]; exact HQ.out.2.2.1) (by rw [HQ.out.1.2]; exact HQ.out.2.2.2)) ?_
      rintro e w2 ⟨r, rfl, h1', hx2⟩
      rw [HQ.out.1.2] at h1'
      have hn := p3.ext hx2
      replace hx1 := (hx.trans hx1).trans hx2
      clear hx2 p3
      obtain ⟨b5, A5, n5, c5, rfl⟩ := hn.cells
      obtain ⟨b6, A6, n6, c6, rfl⟩ := h1'.cells
      have hp := divInt_parts (p := n) (q := d) h3
      have hr := IsQ.mk_ hn h1' (q := Rat.divInt n d) hp.1.symm hp.2.symm
      clear hn h1' hp
      have hc1 := hx1.cells
      have hf1 := hx1.frozens
      have Hfin := Lib.hid (fin_q hr hx1.a1 (NoDig.at_ hx1 (g := w.heap.size + 0) (by simp) (by simp [isDig])) (by omega))
      clear hr
      go_wp2
      refine bodyPost_ret (v := .agg #[.bool b5, .slice A5 n5 c5, .bool b6, .slice A6 n6 c6]) (by simp [results, Tryz.results46, go_sem, hc1]) rfl ?_
      exact Hfin.out
    · have hb0 : 0 < b := by omega
      have hp : (1 : Int) ≤ b := by omega
      go_wp2
      go_quiet (fail)
      go_wp2
      go_roundw
      case rel => exact ⟨b, a % b, by simp, by simp, by rw [gcd_step, Hg.out], by omega, by have := Nat.mod_lt a (show 0 < b by omega); omega, hx.drewN _⟩
      case measure =>
        have := Nat.mod_lt a (show 0 < b by omega)
        simp only [intOf, Array.getD, Int.toNat_natCast] <;> simp <;> omega
end Go.Proofs.YtedoifjbgokmcaaGreat
namespace Go.Hp
open Go.RowKit
theorem qs_pl {ns : List Int} (h : TopR (qs_ ns)) : pl (co (qs_ ns)) = ns.length := by rw [h.pl]; simp [qs_]
theorem TopR.of {l : List Rat} (h : co l (l.length - 1) ≠ 0) : TopR l := fun h0 => by rw [← co_lt]; exact h
theorem aw_top : TopR (qs_ [-2, -2, 2]) := TopR.of (by decide +kernel)
theorem aw_sums : ((List.range 3).map fun k => pws (pl (co (qs_ [-2, -2, 2])) - 1) (co (qs_ [-2, -2, 2])) (k + 1)) = qs_ [1, 3, 4] := by
  rw [qs_pl aw_top]
  decide +kernel
theorem aw_cd {ns : List Int} (h : ∀ q ∈ qs_ ns, qsz q ≤ 2) (hn : ns.length ≤ 3) : CD 10 (co (qs_ ns)) := by
  have hl : (qs_ ns).length = ns.length := by simp [qs_]
  refine (CD.of (n := 3) (k := 2) ((co_sup _).mono (by omega)) fun i _ => ?_).mono (by omega)
  rcases Nat.lt_or_ge i (qs_ ns).length with hi | hi
  · rw [co_lt hi]; exact h _ (List.getElem_mem hi)
  · rw [co_ge hi]; decide
theorem fun3 {F G : Nat → Rat} (hF : Sup 3 F) (hG : Sup 3 G) (h0 : F 0 = G 0) (h1 : F 1 = G 1) (h2 : F 2 = G 2) : F = G := by
  funext n
  match n with
  | 0 => exact h0
  | 1 => exact h1
  | 2 => exact h2
  | n + 3 => rw [hF _ (by omega), hG _ (by omega)]
theorem aw_div : pq (co (qs_ [0, 0, 1])) (co (qs_ [1, 2])) = co [Rat.divInt (-1) 4, Rat.divInt 1 2] ∧ pr (co (qs_ [0, 0, 1])) (co (qs_ [1, 2])) = co [Rat.divInt 1 4] := by
  have hG : TopR (qs_ [1, 2]) := TopR.of (by decide +kernel)
  have hpl : pl (co (qs_ [1, 2])) = 2 := qs_pl hG
  have h0 : co (qs_ [1, 2]) ≠ pz := fun e => by rw [e, pl_pz] at hpl; omega
  have := div_eq (F := co (qs_ [0, 0, 1])) (G := co (qs_ [1, 2])) (Q := co [Rat.divInt (-1) 4, Rat.divInt 1 2]) (R := co [Rat.divInt 1 4]) (Fin_.co _) (Fin_.co _) h0 (Fin_.co _) ?_ (by rw [hpl]; exact co_sup [Rat.divInt 1 4])
  · exact ⟨this.1.symm, this.2.symm⟩
  · have s1 : Sup 3 (cv (co [Rat.divInt (-1) 4, Rat.divInt 1 2]) (co (qs_ [1, 2]))) := (co_sup [Rat.divInt (-1) 4, Rat.divInt 1 2]).cv (co_sup (qs_ [1, 2]))
    refine fun3 (co_sup (qs_ [0, 0, 1])) (s1.pad ((co_sup [Rat.divInt 1 4]).mono (by decide))) ?_ ?_ ?_ <;> decide +kernel
theorem QsV.hasq {base : Nat} {w : World} {v : Value} {ns : List Int} (h : QsV base w v (qs_ ns)) (k : ∀ q ∈ qs_ ns, qsz q ≤ 2) : HsV 0 w v (qs_ ns) := QsV.has h fun q hq => by have := k q hq; omega
theorem IsP.of_list {base : Nat} {w : World} {v : Value} {l : List Rat} (h : QsV base w v l) (k : TopR l) : IsP base w v (co l) := ⟨l, h, k, rfl⟩
end Go.Hp
namespace Go.Proofs.YtedoifjbgokmcaaGreat
open Go.RowKit Go.Hp
set_option maxRecDepth 20000 in
set_option maxHeartbeats 4000000 in
theorem awake_b (w : World) : Calls Tryz.prog 8 #[] w (Gives w fun r _ => r = .bool true) := by
  have K1 := Lib.hid (show ∀ q ∈ qs_ [-2, -2, 2], qsz q ≤ 2 by decide +kernel)
  have K2 := Lib.hid (show ∀ q ∈ qs_ [0, 0, 1], qsz q ≤ 2 by decide +kernel)
  have K3 := Lib.hid (show ∀ q ∈ qs_ [1, 2], qsz q ≤ 2 by decide +kernel)
  have hp1 : pl (co (qs_ [-2, -2, 2])) = 3 := qs_pl aw_top
  have hp3 : pl (co (qs_ [1, 2])) = 2 := qs_pl (TopR.of (by decide +kernel))
  have hp2 : pl (co (qs_ [0, 0, 1])) = 3 := qs_pl (TopR.of (by decide +kernel))
  have n1 : co (qs_ [-2, -2, 2]) ≠ pz := fun e => by rw [e, pl_pz] at hp1; omega
  have n3 : co (qs_ [1, 2]) ≠ pz := fun e => by rw [e, pl_pz] at hp3; omega
  have HN := Lib.hid (And.intro n1 (And.intro n3 hp2)); clear n1 n3 hp1 hp2 hp3
  go_enter Tryz.func8, Tryz.ntmps8
  go_wp2_with fail
  refine Calls.mono (qs_b _ [-2, -2, 2] _ (IntsV.new w _ [-2, -2, 2] (by decide)) (by decide) (by decide)) ?_
  rintro e w1 ⟨r1, rfl, h1, hx⟩
  have H1 := Lib.hid (h1.hasq K1.out); clear h1
  replace hx := hx.a1
  go_wp2_with fail
  refine Calls.mono (powersums_p _ (qs_ [-2, -2, 2]) 3 10 _ H1.out HN.out.1 (by decide) (by decide) (aw_cd K1.out (by decide)) (by decide)) ?_
  rintro e w2 ⟨r2, rfl, ⟨a, rfl, ha⟩, hx2⟩
  rw [aw_sums] at ha
  have Ha := Lib.hid ha; clear ha H1
  replace hx := hx.trans hx2
  clear hx2
  go_wp2_with fail
  refine Calls.mono (qs_b _ [0, 0, 1] _ (IntsV.new w2 _ [0, 0, 1] (by decide)) (by decide) (by decide)) ?_
  rintro e w3 ⟨r3, rfl, h3, hx3⟩
  have H3 := Lib.hid (h3.hasq K2.out); clear h3
  replace hx := hx.trans hx3.a1
  have Ha := Lib.hid (Ha.out.ext hx3.a1)
  clear hx3
  go_wp2_with fail
  refine Calls.mono (qs_b _ [1, 2] _ (IntsV.new w3 _ [1, 2] (by decide)) (by decide) (by decide)) ?_
  rintro e w4 ⟨r4, rfl, h4, hx4⟩
  have H4 := Lib.hid (h4.hasq K3.out); clear h4
  replace hx := hx.trans hx4.a1
  have Ha := Lib.hid (Ha.out.ext hx4.a1)
  have H3 := Lib.hid (H3.out.ext hx4.a1)
  clear hx4
  go_wp2_with fail
  refine Calls.mono (divmod_p _ _ (qs_ [0, 0, 1]) (qs_ [1, 2]) 10 10 _ H3.out H4.out HN.out.2.1 (aw_cd K2.out (by decide)) (aw_cd K3.out (by decide)) (by decide) (by decide) (by rw [HN.out.2.2]; omega)) ?_
  rintro e w5 ⟨r5, rfl, ⟨qv, rv, rfl, hq, hr⟩, hx5⟩
  rw [aw_div.1] at hq
  rw [aw_div.2] at hr
  have Hqr := Lib.hid (And.intro hq hr); clear hq hr
  replace hx := hx.trans hx5
  have Ha := Lib.hid (Ha.out.ext hx5)
  clear hx5
  go_wp2_with fail
  refine Calls.mono (qs_b _ [1, 3, 4] _ (IntsV.new w5 _ [1, 3, 4] (by decide)) (by decide) (by decide)) ?_
  rintro e w6 ⟨r6, rfl, h6, hx6⟩
  have H6 := Lib.hid h6; clear h6
  replace hx := hx.trans hx6.a1
  have Ha := Lib.hid (Ha.out.ext hx6.a1)
  have Hqr := Lib.hid (And.intro (Hqr.out.1.ext hx6.a1) (Hqr.out.2.ext hx6.a1))
  clear hx6
  go_wp2_with fail
  refine Calls.mono (samerats_b _ _ (qs_ [1, 3, 4]) _ _ _ Ha.out H6.out (by decide)) ?_
  rintro e w7 ⟨r7, rfl, rfl, hx7⟩
  replace hx := hx.trans hx7
  have Hqr := Lib.hid (And.intro (Hqr.out.1.ext hx7) (Hqr.out.2.ext hx7))
  clear hx7
  go_wp2_with fail
  refine Calls.mono (frac_b (-1) 4 _ (by decide) (by decide) (by decide) (by decide)) ?_
  rintro e w8 ⟨r8, rfl, h8, hx8⟩
  have H8 := Lib.hid h8; clear h8
  replace hx := hx.trans hx8
  have Hqr := Lib.hid (And.intro (Hqr.out.1.ext hx8) (Hqr.out.2.ext hx8))
  clear hx8
  go_wp2_with fail
  refine Calls.mono (frac_b 1 2 _ (by decide) (by decide) (by decide) (by decide)) ?_
  rintro e w9 ⟨r9, rfl, h9, hx9⟩
  have h8 := H8.out.ext hx9
  replace hx := hx.trans hx9
  have Hqr := Lib.hid (And.intro (Hqr.out.1.ext hx9) (Hqr.out.2.ext hx9))
  obtain ⟨b5, A5, n5, c5, b6, A6, n6, c6, rfl⟩ := h8.cells
  obtain ⟨b7, A7, n7, c7, b8, A8, n8, c8, rfl⟩ := h9.cells
  have H2 := Lib.hid (two_qs (t := 40) h8 h9)
  clear hx9 h8 h9 H8
  have t2 : TopR [Rat.divInt (-1) 4, Rat.divInt 1 2] := TopR.of (by decide +kernel)
  have T2 := Lib.hid t2; clear t2
  go_wp2_with fail
  refine Calls.mono (samerats_p _ _ (co [Rat.divInt (-1) 4, Rat.divInt 1 2]) _ _ _ (Hqr.out.1.ext ((Ext.refl _).alloc _)) (IsP.of_list H2.out T2.out) (by rw [T2.out.pl]; decide)) ?_
  rintro e w10 ⟨r10, rfl, rfl, hx10⟩
  replace hx := hx.trans hx10.a1
  have Hqr := Lib.hid (Hqr.out.2.ext hx10.a1)
  clear hx10 H2 T2
  go_wp2_with fail
  refine Calls.mono (frac_b 1 4 _ (by decide) (by decide) (by decide) (by decide)) ?_
  rintro e w11 ⟨r11, rfl, h11, hx11⟩
  replace hx := hx.trans hx11
  have Hqr := Lib.hid (Hqr.out.ext hx11)
  clear hx11
  obtain ⟨b5, A5, n5, c5, b6, A6, n6, c6, rfl⟩ := h11.cells
  have H2 := Lib.hid (OwnQ.row (NewQ.own (NewQ.mk h11 (base := 0) (Nat.zero_le _) 40)))
  clear h11
  have t2 : TopR [Rat.divInt 1 4] := TopR.of (by decide +kernel)
  have T2 := Lib.hid t2; clear t2
  go_wp2_with fail
  refine Calls.mono (samerats_p _ _ (co [Rat.divInt 1 4]) _ _ _ (Hqr.out.ext ((Ext.refl _).alloc _)) (IsP.of_list H2.out T2.out) (by rw [T2.out.pl]; decide)) ?_
  rintro e w12 ⟨r12, rfl, rfl, hx12⟩
  replace hx := hx.trans hx12.a1
  clear hx12 H2 T2
  go_wp2
  go_ret
  exact Gives.mk rfl hx
end Go.Proofs.YtedoifjbgokmcaaGreat
namespace Go.Hp
open Go.RowKit
theorem addr_add (b o i : Nat) : (⟨b, o, none⟩ : Addr).add i = ⟨b, o + i, none⟩ := by unfold Addr.add; split <;> simp_all
/-- A fraction as it stands: sign and digits of the numerator and of the denominator. -/
abbrev Raw := Bool × List Nat × Bool × List Nat
def RawQ (w : World) (v : Value) (x : Raw) : Prop := ∃ A n c A' n' c', v = .agg #[.bool x.1, .slice A n c, .bool x.2.2.1, .slice A' n' c'] ∧ DigV w (.slice A n c) x.2.1 ∧ DigV w (.slice A' n' c') x.2.2.2
/-- A slice of fractions as they stand. -/
def PolyV (w : World) (v : Value) (l : List Raw) : Prop := RowV 4 RawQ 0 w v l
theorem RawQ.ext {w w' : World} {v : Value} {x : Raw} (h : RawQ w v x) (e : Ext w w') : RawQ w' v x := by
  obtain ⟨A, n, c, A', n', c', h1, h2, h3⟩ := h; exact ⟨A, n, c, A', n', c', h1, h2.ext e, h3.ext e⟩
theorem PolyV.ext {w w' : World} {v : Value} {l : List Raw} (h : PolyV w v l) (e : Ext w w') : PolyV w' v l := RowV.ext h e fun _ _ q => q.ext e
/-- No number of more than two digits. -/
def Small (x : Raw) : Prop := x.2.1.length ≤ 2 ∧ x.2.2.2.length ≤ 2
def ratOf (x : Raw) : Rat := Rat.divInt (iv x.1 x.2.1) (iv x.2.2.1 x.2.2.2)
theorem iv_abs (b : Bool) (ds : List Nat) : (iv b ds).natAbs = nv ds := by unfold iv; cases b <;> simp
theorem sz_dig {w : World} {v : Value} {ds : List Nat} (h : DigV w v ds) : sz (nv ds) ≤ ds.length := by
  obtain ⟨_, _, _, _, _, hA⟩ := h
  exact sz_nv hA.1
theorem RawQ.has {w : World} {v : Value} {x : Raw} (h : RawQ w v x) (hs : Small x) : HasQ w v (ratOf x) ∧ qsz (ratOf x) ≤ 2 := by
  obtain ⟨A, n, c, A', n', c', rfl, h2, h3⟩ := h
  have s1 := sz_dig h2
  have s2 := sz_dig h3
  obtain ⟨k1, k2⟩ := hs
  have e1 := iv_abs x.1 x.2.1
  have e2 := iv_abs x.2.2.1 x.2.2.2
  exact ⟨⟨_, A, n, c, _, A', n', c', _, _, rfl, ⟨_, _, ⟨_, rfl, h2⟩, rfl, by omega⟩, ⟨_, _, ⟨_, rfl, h3⟩, rfl, by omega⟩, by rw [e1]; omega, by rw [e2]; omega, rfl⟩,
    qsz_divInt (by rw [e1]; omega) (by rw [e2]; omega) (by omega)⟩
theorem PolyV.has {w : World} {v : Value} {l : List Raw} (h : PolyV w v l) (hs : ∀ x ∈ l, Small x) : HsV 0 w v (l.map ratOf) := by
  obtain ⟨A, c, h1, h2, h3, h4⟩ := h
  refine ⟨A, c, by simpa using h1, by simpa using h2, h3, fun h0 => ?_⟩
  obtain ⟨g, o, q1, q2, q3⟩ := h4 (by simpa using h0)
  refine ⟨g, o, q1, q2, fun j hj => ?_⟩
  have hj' : j < l.length := by simpa using hj
  obtain ⟨cs, r1, r2, r3⟩ := q3 j hj'
  refine ⟨cs, r1, r2, ?_⟩
  rw [List.getElem_map]
  exact (r3.has (hs _ (List.getElem_mem hj'))).1
theorem PolyV.len {w : World} {v : Value} {l : List Raw} (h : PolyV w v l) : ∃ A c, v = .slice A l.length c ∧ l.length ≤ c ∧ c ≤ 9223372036854775807 := by
  obtain ⟨A, c, h1, h2, h3, h4⟩ := h; exact ⟨A, c, h1, h2, h3⟩
theorem PolyV.at_ {w : World} {A : Option Addr} {n c : Nat} {l : List Raw} (h : PolyV w (.slice A n c) l) {j : Nat} (hj : j < l.length) :
    ∃ g o A1 n c A1' n' c', A = some ⟨g, o, none⟩ ∧ w.cell? ⟨g, o + j * 4, none⟩ = some (.bool l[j].1) ∧ w.cell? ⟨g, o + j * 4 + 1, none⟩ = some (.slice A1 n c) ∧ w.cell? ⟨g, o + j * 4 + 2, none⟩ = some (.bool l[j].2.2.1) ∧ w.cell? ⟨g, o + j * 4 + 3, none⟩ = some (.slice A1' n' c') ∧ n = l[j].2.1.length ∧ n' = l[j].2.2.2.length := by
  obtain ⟨A', c', e1, h2, h3, h4⟩ := h
  have e5 : A' = A := by injection e1 with h1; exact h1.symm
  subst e5
  obtain ⟨g, o, ha, hb, hc⟩ := h4 (by omega)
  obtain ⟨cs, q1, q2, q3⟩ := hc j hj
  obtain ⟨A1, n1, c1, A2, n2, c2, e, d1, d2⟩ := q3
  obtain rfl := agg4 e
  obtain ⟨_, _, f1, _⟩ := d1
  obtain ⟨_, _, f2, _⟩ := d2
  exact ⟨g, o, A1, n1, c1, A2, n2, c2, ha, q2 0 (by omega), q2 1 (by omega), q2 2 (by omega), q2 3 (by omega), by injection f1, by injection f2⟩
end Go.Hp
namespace Go.Proofs.YtedoifjbgokmcaaGreat
open Go.RowKit Go.Hp Go.Deep Go.ChangeShapes Go.ChangeAt
section
variable {H : Type} {enc : TypeId × Value → H} {w : World} {spare : Nat → Bool} {held : Bool}
theorem open_digs {fuel : Nat} {cs : List Value} {x : DataW H × List MemPlace} (h : DataW.trod enc Tryz.prog w 0 spare held fuel 36 cs = some x) : ∃ A n c ds, cs = [.slice A n c] ∧ DigV w (.slice A n c) ds := by
  rcases open_ints Tryz.underlying36 Tryz.underlying112 (by kernel_rfl) h with ⟨rfl, _⟩ | ⟨a, n, c, zs, rfl, _, hl, hm, hz, _, hcell, hwz⟩
  · exact ⟨none, 0, 0, [], rfl, none, 0, rfl, Nat.le_refl _, by omega, fun d hd => by simp at hd, fun h => by simp at h⟩
  · have hzl : n ≤ zs.length := by rw [hz]; split <;> omega
    have hw : ∀ z ∈ zs, 0 ≤ z ∧ z < 4294967296 := fun z hz => by
      have := hwz z hz
      simp [Lit.wf] at this
      have e1 : IntKind.u32.min = 0 := rfl
      have e2 : IntKind.u32.max = 4294967295 := rfl
      omega
    have hlen : ((zs.take n).map Int.toNat).length = n := by simp; omega
    refine ⟨some a, n, c, (zs.take n).map Int.toNat, rfl, some a, c, by rw [hlen], by rw [hlen]; exact hl, maxLen_le hm, ?_, fun _ => ⟨a, rfl, fun j hj => ?_⟩⟩
    · intro d hd
      obtain ⟨z, hz1, rfl⟩ := List.mem_map.1 hd
      have := hw z (List.mem_of_mem_take hz1)
      omega
    · rw [hlen] at hj
      have hjz : j < zs.length := by omega
      rw [hcell j hjz, List.getElem_map, List.getElem_take]
      have := hw zs[j] (List.getElem_mem hjz)
      rw [show zs.getD j 0 = zs[j] from by rw [List.getD_eq_getElem?_getD, List.getElem?_eq_getElem hjz]; rfl]
      congr 2; omega
set_option maxRecDepth 100000 in
theorem open_zraw {fuel : Nat} {cs : List Value} {x : DataW H × List MemPlace} (h : DataW.trod enc Tryz.prog w 0 spare held fuel 38 cs = some x) : ∃ b A n c ds, cs = [.bool b, .slice A n c] ∧ DigV w (.slice A n c) ds := by
  obtain ⟨y0, y1, n, _, hl, h0, h1⟩ := trod_struct2 Tryz.underlying38 h
  rw [show Tryz.prog.cellsOf 38 = 2 from by kernel_rfl] at hl
  match cs, hl with
  | [c0, c1], _ =>
    rw [show Tryz.prog.cellsOf 4 = 1 from by kernel_rfl] at h0
    rw [show Tryz.prog.cellsOf 36 = 1 from by kernel_rfl] at h1
    obtain ⟨b, e0, _⟩ := DataW.trod_bool Tryz.underlying4 h0
    obtain ⟨A, m, c, ds, e1, hd⟩ := open_digs h1
    simp at e0 e1
    subst e0 e1
    exact ⟨b, A, m, c, ds, rfl, hd⟩
set_option maxRecDepth 100000 in
theorem open_raw {fuel : Nat} {cs : List Value} {x : DataW H × List MemPlace} (h : DataW.trod enc Tryz.prog w 0 spare held fuel 40 cs = some x) : ∃ r : Raw, ∃ cs' : Array Value, cs = cs'.toList ∧ cs'.size = 4 ∧ RawQ w (.agg cs') r := by
  obtain ⟨y0, y1, n, _, hl, h0, h1⟩ := trod_struct2 Tryz.underlying40 h
  rw [show Tryz.prog.cellsOf 40 = 4 from by kernel_rfl] at hl
  match cs, hl with
  | [c0, c1, c2, c3], _ =>
    rw [show Tryz.prog.cellsOf 38 = 2 from by kernel_rfl] at h0 h1
    obtain ⟨b, A, m, c, ds, e0, hd⟩ := open_zraw h0
    obtain ⟨b', A', m', c', ds', e1, hd'⟩ := open_zraw h1
    simp at e0 e1
    obtain ⟨rfl, rfl⟩ := e0
    obtain ⟨rfl, rfl⟩ := e1
    exact ⟨(b, ds, b', ds'), #[.bool b, .slice A m c, .bool b', .slice A' m' c'], rfl, rfl, A, m, c, A', m', c', rfl, hd, hd'⟩
end
/-- The slices that long is handed. -/
def ListsV (w : World) (g : Nat) (vs : List (Value × List Raw)) : Prop := ∀ j (h : j < vs.length), w.cell? ⟨g, j, none⟩ = some vs[j].1 ∧ PolyV w vs[j].1 vs[j].2
/-- What long answers. -/
def LongOut (most : Nat) (vs : List (Value × List Raw)) (w : World) (e : Ending) (w' : World) : Prop := w = w' ∧ ∃ b : Bool, e = .returned (.bool b) ∧ (b = false → ∀ p ∈ vs, p.2.length ≤ most ∧ ∀ x ∈ p.2, Small x)
def Fine (most : Nat) (l : List Raw) : Prop := l.length ≤ most ∧ ∀ x ∈ l, Small x
set_option maxHeartbeats 2000000 in
theorem long_b (most : Nat) (g c : Nat) (vs : List (Value × List Raw)) (w : World) (hm : most ≤ 1000) (hn : vs.length ≤ 1000) (hc : vs.length ≤ c) (hv : ListsV w g vs) :
    Calls Tryz.prog 9 #[.int .i64 (most : Nat), .slice (some ⟨g, 0, none⟩) vs.length c] w (LongOut most vs w) := by
  have HV := Lib.hid hv; clear hv
  go_enter Tryz.func9, Tryz.ntmps9
  go_wp2
  go_loop [5] (fun iv => ∃ i : Nat, i ≤ vs.length ∧ iv = .int .i64 i ∧ ∀ j (h : j < vs.length), j < i → Fine most vs[j].2) (fun iv => vs.length - (intOf iv).toNat)
  case atStart => exact ⟨0, Nat.zero_le _, rfl, fun j h h' => by omega⟩
  case round =>
    obtain ⟨i, hi, rfl, hst⟩ := hrel
    have Hst := Lib.hid hst; clear hst
    by_cases hil : i < vs.length
    · obtain ⟨q, hp⟩ := HV.out i hil
      obtain ⟨A1, c1, e1, hl1, hl2⟩ := hp.len
      rw [e1] at q hp
      obtain ⟨l, hl⟩ : ∃ l, l = vs[i].2 := ⟨_, rfl⟩
      rw [← hl] at q hp hl1
      have Hl := Lib.hid (And.intro hl hp); clear hl hp e1
      by_cases hlong : most < l.length
      · skip
        go_wp2
        go_ret
        exact ⟨rfl, true, rfl, fun h => by cases h⟩
      · go_wp2
        go_loop [6] (fun kv => ∃ k : Nat, k ≤ l.length ∧ kv = .int .i64 k ∧ ∀ j (h : j < l.length), j < k → Small l[j]) (fun kv => l.length - (intOf kv).toNat)
        case atStart => exact ⟨0, Nat.zero_le _, rfl, fun j h h' => by omega⟩
        case round =>
          obtain ⟨k, hk, rfl, hsm⟩ := hrel
          have Hsm := Lib.hid hsm; clear hsm
          by_cases hkl : k < l.length
          · obtain ⟨g', o', B1, n, d1, B1', n', d1', rfl, r0, r1, r2, r3, e1, e2⟩ := Hl.out.2.at_ hkl
            have He := Lib.hid (And.intro e1 e2); clear e1 e2
            by_cases hx1 : 2 < n
            · skip
              go_wp2
              go_ret
              exact ⟨rfl, true, rfl, fun h => by cases h⟩
            · have hb1 : decide (2 < (n : Int)) = false := by simp; omega
              by_cases hx2 : 2 < n'
              · skip
                go_wp2
                go_ret
                exact ⟨rfl, true, rfl, fun h => by cases h⟩
              · have hb2 : decide (2 < (n' : Int)) = false := by simp; omega
                go_wp2
                go_round
                case rel => exact ⟨k + 1, by omega, by go_num, fun j h1 h2 => by
                  rcases Nat.lt_or_ge j k with h | h
                  · exact Hsm.out j h1 h
                  · obtain rfl : j = k := by omega
                    have := He.out
                    exact ⟨by omega, by omega⟩⟩
                case measure => simp [intOf] <;> omega
          · obtain rfl : k = l.length := by omega
            go_wp2
            go_round
            case rel => exact ⟨i + 1, by omega, by go_num, fun j h1 h2 => by
              rcases Nat.lt_or_ge j i with h | h
              · exact Hst.out j h1 h
              · obtain rfl : j = i := by omega
                rw [← Hl.out.1]
                exact ⟨by omega, fun x hx => by
                  obtain ⟨j, hj, rfl⟩ := List.getElem_of_mem hx
                  exact Hsm.out j hj hj⟩⟩
            case measure => simp [intOf] <;> omega
    · obtain rfl : i = vs.length := by omega
      go_wp2
      go_ret
      exact ⟨rfl, false, rfl, fun _ p hp => by
        obtain ⟨j, hj, rfl⟩ := List.getElem_of_mem hp
        exact Hst.out j hj hj⟩
end Go.Proofs.YtedoifjbgokmcaaGreat
namespace Go.Hp
open Go.RowKit
end Go.Hp
namespace Go.Proofs.YtedoifjbgokmcaaGreat
open Go.RowKit Go.Hp
theorem listsV_one (w : World) (t : TypeId) {v : Value} {l : List Raw} (h : PolyV w v l) {g : Nat} (hg : g = w.heap.size) : ListsV (w.alloc (.cells #[v] t)) g [(v, l)] := by
  subst hg
  intro j hj
  obtain rfl : j = 0 := by simpa using hj
  exact ⟨by rw [cell_of_row _ w.heap.size 0 _ t (0, 0) (heap_alloc_new w _)]; rfl, h.ext ((Ext.refl w).alloc _)⟩
end Go.Proofs.YtedoifjbgokmcaaGreat
namespace Go.Proofs.YtedoifjbgokmcaaGreat
open Go.RowKit Go.Hp
end Go.Proofs.YtedoifjbgokmcaaGreat
namespace Go.Hp
open Go.RowKit
theorem RawQ.cells {w : World} {v : Value} {x : Raw} (h : RawQ w v x) : ∃ b A n c b' A' n' c', v = .agg #[.bool b, .slice A n c, .bool b', .slice A' n' c'] := by
  obtain ⟨A, n, c, A', n', c', e, _⟩ := h; exact ⟨_, A, n, c, _, A', n', c', e⟩
end Go.Hp
namespace Go.Proofs.YtedoifjbgokmcaaGreat
open Go.RowKit Go.Hp
end Go.Proofs.YtedoifjbgokmcaaGreat
namespace Go.Hp
open Go.RowKit
/-- The cells of one point. -/
def HasPt (w : World) (v : Value) (p : Rat × Rat) : Prop :=
  ∃ b1 A1 n1 c1 b2 A2 n2 c2 b3 A3 n3 c3 b4 A4 n4 c4, v = .agg #[.bool b1, .slice A1 n1 c1, .bool b2, .slice A2 n2 c2, .bool b3, .slice A3 n3 c3, .bool b4, .slice A4 n4 c4] ∧
    HasQ w (.agg #[.bool b1, .slice A1 n1 c1, .bool b2, .slice A2 n2 c2]) p.1 ∧ HasQ w (.agg #[.bool b3, .slice A3 n3 c3, .bool b4, .slice A4 n4 c4]) p.2
theorem HasPt.ext {w w' : World} {v : Value} {p : Rat × Rat} (h : HasPt w v p) (e : Ext w w') : HasPt w' v p := by
  obtain ⟨b1, A1, n1, c1, b2, A2, n2, c2, b3, A3, n3, c3, b4, A4, n4, c4, h1, h2, h3⟩ := h
  exact ⟨b1, A1, n1, c1, b2, A2, n2, c2, b3, A3, n3, c3, b4, A4, n4, c4, h1, h2.ext e, h3.ext e⟩
def PtsV (w : World) (v : Value) (l : List (Rat × Rat)) : Prop := RowV 8 HasPt 0 w v l
def PtsAt (w : World) (A : Option Addr) (l : List (Rat × Rat)) : Prop := RowAt 8 HasPt 0 w A l
theorem PtsV.ext {w w' : World} {v : Value} {l : List (Rat × Rat)} (h : PtsV w v l) (e : Ext w w') : PtsV w' v l := RowV.ext h e fun _ _ q => q.ext e
theorem PtsAt.at_ {w : World} {A : Option Addr} {l : List (Rat × Rat)} (h : PtsAt w A l) {j : Nat} (hj : j < l.length) :
    ∃ g o b1 A1 n1 c1 b2 A2 n2 c2 b3 A3 n3 c3 b4 A4 n4 c4, A = some ⟨g, o, none⟩ ∧ w.cell? ⟨g, o + j * 8, none⟩ = some (.bool b1) ∧ w.cell? ⟨g, o + j * 8 + 1, none⟩ = some (.slice A1 n1 c1) ∧ w.cell? ⟨g, o + j * 8 + 2, none⟩ = some (.bool b2) ∧ w.cell? ⟨g, o + j * 8 + 3, none⟩ = some (.slice A2 n2 c2) ∧
      w.cell? ⟨g, o + j * 8 + 4, none⟩ = some (.bool b3) ∧ w.cell? ⟨g, o + j * 8 + 5, none⟩ = some (.slice A3 n3 c3) ∧ w.cell? ⟨g, o + j * 8 + 6, none⟩ = some (.bool b4) ∧ w.cell? ⟨g, o + j * 8 + 7, none⟩ = some (.slice A4 n4 c4) ∧
      HasQ w (.agg #[.bool b1, .slice A1 n1 c1, .bool b2, .slice A2 n2 c2]) l[j].1 ∧ HasQ w (.agg #[.bool b3, .slice A3 n3 c3, .bool b4, .slice A4 n4 c4]) l[j].2 := by
  obtain ⟨g, o, ha, hb, hc⟩ := h (by omega)
  obtain ⟨cs, q1, q2, q3⟩ := hc j hj
  obtain ⟨b1, A1, n1, c1, b2, A2, n2, c2, b3, A3, n3, c3, b4, A4, n4, c4, e, h1, h2⟩ := q3
  obtain rfl : cs = #[.bool b1, .slice A1 n1 c1, .bool b2, .slice A2 n2 c2, .bool b3, .slice A3 n3 c3, .bool b4, .slice A4 n4 c4] := by injection e
  exact ⟨g, o, b1, A1, n1, c1, b2, A2, n2, c2, b3, A3, n3, c3, b4, A4, n4, c4, ha, q2 0 (by omega), q2 1 (by omega), q2 2 (by omega), q2 3 (by omega), q2 4 (by omega), q2 5 (by omega), q2 6 (by omega), q2 7 (by omega), h1, h2⟩
theorem PtsV.len {w : World} {v : Value} {l : List (Rat × Rat)} (h : PtsV w v l) : ∃ A c, v = .slice A l.length c ∧ l.length ≤ c ∧ c ≤ 9223372036854775807 ∧ PtsAt w A l := h
def px (l : List (Rat × Rat)) (i : Nat) : Rat := (l.getD i (0, 0)).1
def py (l : List (Rat × Rat)) (i : Nat) : Rat := (l.getD i (0, 0)).2
theorem px_lt {l : List (Rat × Rat)} {i : Nat} (h : i < l.length) : px l i = l[i].1 := by unfold px; rw [List.getD_eq_getElem?_getD, List.getElem?_eq_getElem h]; rfl
theorem py_lt {l : List (Rat × Rat)} {i : Nat} (h : i < l.length) : py l i = l[i].2 := by unfold py; rw [List.getD_eq_getElem?_getD, List.getElem?_eq_getElem h]; rfl
/-- No two of the first n are equal: told one by one. -/
theorem Apart.step {X : Nat → Rat} {n : Nat} (h : Apart X n) (k : ∀ j, j < n → X n ≠ X j) : Apart X (n + 1) := fun i j hi hj => by
  rcases Nat.lt_or_ge i n with l | l
  · exact h i j l hj
  · obtain rfl : i = n := by omega
    exact k j hj
theorem lin_co (a : Rat) : co [-a, 1] = lin a := by rw [co_cons, co_cons, co_nil]; rfl
/-- What Interpolate gives back. -/
def IpOut (l : List (Rat × Rat)) (r : Value) (w' : World) : Prop :=
  (Apart (px l) l.length ∧ ∃ a, r = .tuple #[a, .int .i64 0] ∧ IsP 0 w' a (lgs (px l) (py l) l.length l.length)) ∨ (¬ Apart (px l) l.length ∧ r = .tuple #[.slice none 0 0, .int .i64 23])
end Go.Hp
namespace Go.Hp
open Go.RowKit
/-- An integer as it stands: sign and digits. -/
abbrev RawI := Bool × List Nat
def RawZ (w : World) (v : Value) (x : RawI) : Prop := IntV w v x.1 x.2
theorem RawZ.ext {w w' : World} {v : Value} {x : RawI} (h : RawZ w v x) (e : Ext w w') : RawZ w' v x := by
  obtain ⟨u, h1, h2⟩ := h; exact ⟨u, h1, h2.ext e⟩
/-- A slice of integers as they stand. -/
def ZPolyV (w : World) (v : Value) (l : List RawI) : Prop := RowV 2 RawZ 0 w v l
theorem ZPolyV.ext {w w' : World} {v : Value} {l : List RawI} (h : ZPolyV w v l) (e : Ext w w') : ZPolyV w' v l := RowV.ext h e fun _ _ q => q.ext e
/-- A point as it stands. -/
abbrev RawPt := Raw × Raw
def RawP2 (w : World) (v : Value) (x : RawPt) : Prop :=
  ∃ b1 A1 n1 c1 b2 A2 n2 c2 b3 A3 n3 c3 b4 A4 n4 c4, v = .agg #[.bool b1, .slice A1 n1 c1, .bool b2, .slice A2 n2 c2, .bool b3, .slice A3 n3 c3, .bool b4, .slice A4 n4 c4] ∧
    RawQ w (.agg #[.bool b1, .slice A1 n1 c1, .bool b2, .slice A2 n2 c2]) x.1 ∧ RawQ w (.agg #[.bool b3, .slice A3 n3 c3, .bool b4, .slice A4 n4 c4]) x.2
theorem RawP2.ext {w w' : World} {v : Value} {x : RawPt} (h : RawP2 w v x) (e : Ext w w') : RawP2 w' v x := by
  obtain ⟨b1, A1, n1, c1, b2, A2, n2, c2, b3, A3, n3, c3, b4, A4, n4, c4, h1, h2, h3⟩ := h
  exact ⟨b1, A1, n1, c1, b2, A2, n2, c2, b3, A3, n3, c3, b4, A4, n4, c4, h1, h2.ext e, h3.ext e⟩
def PointsV (w : World) (v : Value) (l : List RawPt) : Prop := RowV 8 RawP2 0 w v l
def PointsAt (w : World) (A : Option Addr) (l : List RawPt) : Prop := RowAt 8 RawP2 0 w A l
theorem PointsV.ext {w w' : World} {v : Value} {l : List RawPt} (h : PointsV w v l) (e : Ext w w') : PointsV w' v l := RowV.ext h e fun _ _ q => q.ext e
theorem PointsAt.at_ {w : World} {A : Option Addr} {l : List RawPt} (h : PointsAt w A l) {j : Nat} (hj : j < l.length) :
    ∃ g o b1 A1 n1 c1 b2 A2 n2 c2 b3 A3 n3 c3 b4 A4 n4 c4, A = some ⟨g, o, none⟩ ∧ w.cell? ⟨g, o + j * 8, none⟩ = some (.bool b1) ∧ w.cell? ⟨g, o + j * 8 + 1, none⟩ = some (.slice A1 n1 c1) ∧ w.cell? ⟨g, o + j * 8 + 2, none⟩ = some (.bool b2) ∧ w.cell? ⟨g, o + j * 8 + 3, none⟩ = some (.slice A2 n2 c2) ∧
      w.cell? ⟨g, o + j * 8 + 4, none⟩ = some (.bool b3) ∧ w.cell? ⟨g, o + j * 8 + 5, none⟩ = some (.slice A3 n3 c3) ∧ w.cell? ⟨g, o + j * 8 + 6, none⟩ = some (.bool b4) ∧ w.cell? ⟨g, o + j * 8 + 7, none⟩ = some (.slice A4 n4 c4) ∧
      RawQ w (.agg #[.bool b1, .slice A1 n1 c1, .bool b2, .slice A2 n2 c2]) l[j].1 ∧ RawQ w (.agg #[.bool b3, .slice A3 n3 c3, .bool b4, .slice A4 n4 c4]) l[j].2 := by
  obtain ⟨g, o, ha, hb, hc⟩ := h (by omega)
  obtain ⟨cs, q1, q2, q3⟩ := hc j hj
  obtain ⟨b1, A1, n1, c1, b2, A2, n2, c2, b3, A3, n3, c3, b4, A4, n4, c4, e, h1, h2⟩ := q3
  obtain rfl : cs = #[.bool b1, .slice A1 n1 c1, .bool b2, .slice A2 n2 c2, .bool b3, .slice A3 n3 c3, .bool b4, .slice A4 n4 c4] := by injection e
  exact ⟨g, o, b1, A1, n1, c1, b2, A2, n2, c2, b3, A3, n3, c3, b4, A4, n4, c4, ha, q2 0 (by omega), q2 1 (by omega), q2 2 (by omega), q2 3 (by omega), q2 4 (by omega), q2 5 (by omega), q2 6 (by omega), q2 7 (by omega), h1, h2⟩
/-- Small points read as points. -/
def SmallP (x : RawPt) : Prop := Small x.1 ∧ Small x.2
def ptOf (x : RawPt) : Rat × Rat := (ratOf x.1, ratOf x.2)
theorem PointsV.has {w : World} {v : Value} {l : List RawPt} (h : PointsV w v l) (hs : ∀ x ∈ l, SmallP x) : PtsV w v (l.map ptOf) ∧ (∀ i, i < l.length → qsz (px (l.map ptOf) i) ≤ 2 ∧ qsz (py (l.map ptOf) i) ≤ 2) := by
  obtain ⟨A, c, h1, h2, h3, h4⟩ := h
  refine ⟨⟨A, c, by simpa using h1, by simpa using h2, h3, fun h0 => ?_⟩, fun i hi => ?_⟩
  · obtain ⟨g, o, q1, q2, q3⟩ := h4 (by simpa using h0)
    refine ⟨g, o, q1, q2, fun j hj => ?_⟩
    have hj' : j < l.length := by simpa using hj
    obtain ⟨cs, r1, r2, b1, A1, n1, c1, b2, A2, n2, c2, b3, A3, n3, c3, b4, A4, n4, c4, e, k1, k2⟩ := q3 j hj'
    refine ⟨cs, r1, r2, ?_⟩
    rw [List.getElem_map]
    have hsm := hs _ (List.getElem_mem hj')
    exact ⟨b1, A1, n1, c1, b2, A2, n2, c2, b3, A3, n3, c3, b4, A4, n4, c4, e, (k1.has hsm.1).1, (k2.has hsm.2).1⟩
  · obtain ⟨g, o, q1, q2, q3⟩ := h4 (by omega)
    obtain ⟨cs, r1, r2, b1, A1, n1, c1, b2, A2, n2, c2, b3, A3, n3, c3, b4, A4, n4, c4, e, k1, k2⟩ := q3 i hi
    have hsm := hs _ (List.getElem_mem hi)
    rw [px_lt (by simpa using hi), py_lt (by simpa using hi), List.getElem_map]
    exact ⟨(k1.has hsm.1).2, (k2.has hsm.2).2⟩
end Go.Hp
namespace Go.Proofs.YtedoifjbgokmcaaGreat
open Go.RowKit Go.Hp Go.Deep Go.ChangeShapes Go.ChangeAt
section
variable {H : Type} {enc : TypeId × Value → H} {w : World} {spare : Nat → Bool} {held : Bool}
/-- A slice of structs of k cells: told by what one struct reads as. -/
theorem open_rows {α : Type} {k E : Nat} (hk : 0 < k) {rd : World → Value → α → Prop} (hsz : Tryz.prog.cellsOf E = k)
    (hop : ∀ {fuel : Nat} {cs : List Value} {x : DataW H × List MemPlace}, DataW.trod enc Tryz.prog w 0 spare held fuel E cs = some x → ∃ r : α, ∃ cs' : Array Value, cs = cs'.toList ∧ cs'.size = k ∧ rd w (.agg cs') r)
    {T fuel : Nat} {v : Value} {x : DataW H × List MemPlace} (hT : Tryz.prog.underlying T = some (.slice E)) (h : DataW.trod enc Tryz.prog w 0 spare held fuel T v.cells.toList = some x) (hv : ∃ a n c, v = .slice a n c) : ∃ l : List α, RowV k rd 0 w v l := by
  obtain ⟨a0, n0, c0, rfl⟩ := hv
  rcases open_slice hT h with ⟨hcs, _⟩ | ⟨a, n, c, m, k', D, Pl, hcs, _, hl, hm, hmm, _, hel⟩
  · simp [Value.cells] at hcs
    obtain ⟨rfl, rfl, rfl⟩ := hcs
    exact ⟨[], RowV.nil k rd 0 w⟩
  · simp [Value.cells] at hcs
    obtain ⟨rfl, rfl, rfl⟩ := hcs
    have hnm : n0 ≤ m := by rw [hmm]; split <;> omega
    rw [hsz] at hel
    have key : ∀ i, i < n0 → ∃ r : α, ∃ cs : Array Value, cs.size = k ∧ (∀ j, j < k → w.cell? ((a.add (i * k)).add j) = cs[j]?) ∧ rd w (.agg cs) r := fun i hi => by
      obtain ⟨cs', h1, h2⟩ := hel i (by omega)
      obtain ⟨r, cs, rfl, h3, h4⟩ := hop h2
      obtain ⟨_, h5, h6⟩ := World.cells?_some h1
      exact ⟨r, cs, h3, fun j hj => by rw [h6 j hj]; simp, h4⟩
    have hc : ∀ n', n' ≤ n0 → ∃ l : List α, l.length = n' ∧ ∀ i (h : i < l.length), ∃ cs : Array Value, cs.size = k ∧ (∀ j, j < k → w.cell? ((a.add (i * k)).add j) = cs[j]?) ∧ rd w (.agg cs) l[i] := by
      intro n'
      induction n' with
      | zero => intro _; exact ⟨[], rfl, fun i h => by simp at h⟩
      | succ n' ih =>
        intro hn
        obtain ⟨l, hl1, hl2⟩ := ih (by omega)
        obtain ⟨r, cs, k1, k2, k3⟩ := key n' (by omega)
        refine ⟨l ++ [r], by simp [hl1], fun i hi => ?_⟩
        rcases Nat.lt_or_ge i l.length with h' | h'
        · rw [List.getElem_append_left h']; exact hl2 i h'
        · have e : i = n' := by simp at hi; omega
          subst e
          refine ⟨cs, k1, k2, ?_⟩
          rw [List.getElem_append_right h']
          simpa [hl1] using k3
    obtain ⟨l, hl1, hl2⟩ := hc n0 (Nat.le_refl _)
    refine ⟨l, some a, c0, by rw [hl1], by omega, maxLen_le hm, fun h0 => ?_⟩
    obtain ⟨b, off, spot⟩ := a
    obtain ⟨cs, k1, k2, k3⟩ := hl2 0 h0
    have hs : spot = none := by
      have := k2 0 hk
      rw [Array.getElem?_eq_getElem (by omega)] at this
      simpa [Addr.add] using World.cell?_spot this
    subst hs
    refine ⟨b, off, rfl, Nat.zero_le _, fun j hj => ?_⟩
    obtain ⟨cs, k1, k2, k3⟩ := hl2 j hj
    refine ⟨cs, k1, fun i hi => ?_, k3⟩
    rw [← k2 i hi, addr_add, addr_add]
set_option maxRecDepth 100000 in
theorem open_pt {fuel : Nat} {cs : List Value} {x : DataW H × List MemPlace} (h : DataW.trod enc Tryz.prog w 0 spare held fuel 57 cs = some x) : ∃ r : RawPt, ∃ cs' : Array Value, cs = cs'.toList ∧ cs'.size = 8 ∧ RawP2 w (.agg cs') r := by
  obtain ⟨y0, y1, n, _, hl, h0, h1⟩ := trod_struct2 Tryz.underlying57 h
  rw [show Tryz.prog.cellsOf 57 = 8 from by kernel_rfl] at hl
  match cs, hl with
  | [k0, k1, k2, k3, k4, k5, k6, k7], _ =>
    rw [show Tryz.prog.cellsOf 40 = 4 from by kernel_rfl] at h0 h1
    obtain ⟨r, cs1, e1, s1, q1⟩ := open_raw h0
    obtain ⟨r', cs2, e2, s2, q2⟩ := open_raw h1
    obtain ⟨A, m, c, A', m', c', f1, _⟩ := id q1
    obtain ⟨B, i, d, B', i', d', f2, _⟩ := id q2
    obtain rfl := agg4 f1
    obtain rfl := agg4 f2
    simp at e1 e2
    obtain ⟨rfl, rfl, rfl, rfl⟩ := e1
    obtain ⟨rfl, rfl, rfl, rfl⟩ := e2
    exact ⟨(r, r'), #[_, _, _, _, _, _, _, _], rfl, rfl, _, _, _, _, _, _, _, _, _, _, _, _, _, _, _, _, rfl, q1, q2⟩
theorem open_points {T fuel : Nat} {v : Value} {x : DataW H × List MemPlace} (hT : Tryz.prog.underlying T = some (.slice 57)) (h : DataW.trod enc Tryz.prog w 0 spare held fuel T v.cells.toList = some x) (hv : ∃ a n c, v = .slice a n c) : ∃ l : List RawPt, PointsV w v l :=
  open_rows (by decide) (by kernel_rfl) (fun h => open_pt h) hT h hv
end
end Go.Proofs.YtedoifjbgokmcaaGreat
namespace Go.Hp
/-- The greatest common divisor and the cofactors that the document determines. -/
def XgVal (F G D U V : Nat → Rat) : Prop := (G = pz ∧ D = mn F ∧ U = cs (1 / ld F) pz ∧ V = pz) ∨ (G ≠ pz ∧ IsX F G D U V)
/-- How long the numbers are. -/
def XgSz (F G D U V : Nat → Rat) : Prop := (∀ i, qsz (U i) ≤ 8505257129) ∧ pl U ≤ 7 ∧ (∀ i, qsz (V i) ≤ 8519878572) ∧ pl V ≤ 15 ∧ (∀ i, qsz (cv U F i) ≤ 8505257152) ∧ (∀ i, qsz (cv V G i) ≤ 8519878205) ∧ pl D ≤ 7 ∧ Fin_ U ∧ Fin_ V
theorem XgVal.uniq {F G D U V D' U' V' : Nat → Rat} (hG : Fin_ G) (h : XgVal F G D U V) (k : XgVal F G D' U' V') : D = D' ∧ U = U' ∧ V = V' := by
  rcases h with ⟨h0, h1, h2, h3⟩ | ⟨h0, h⟩
  · rcases k with ⟨k0, k1, k2, k3⟩ | ⟨k0, k⟩
    · exact ⟨h1.trans k1.symm, h2.trans k2.symm, h3.trans k3.symm⟩
    · exact absurd h0 k0
  · rcases k with ⟨k0, k1, k2, k3⟩ | ⟨k0, k⟩
    · exact absurd k0 h0
    · exact h.uniq hG h0 k
theorem cs_pz_cv (a : Rat) (F : Nat → Rat) : cv (cs a pz) F = psc a F := by
  rw [cs_cv, pz_cv]
  funext n
  cases n <;> simp only [pad, psc, cs, pz] <;> grind
theorem inv_qsz {F : Nat → Rat} {s : Nat} (h : CD s F) : qsz (1 / ld F) ≤ s := by
  have e : 1 / ld F = (ld F)⁻¹ := by rw [Rat.div_def, Rat.one_mul]
  rw [e]; exact Nat.le_trans (qsz_inv _) (h.elem _)
theorem XgVal.low {F : Nat → Rat} (hF : Fin_ F) (cF : CD 22 F) (lF : pl F ≤ 7) : XgVal F pz (mn F) (cs (1 / ld F) pz) pz ∧ XgSz F pz (mn F) (cs (1 / ld F) pz) pz := by
  have hq := inv_qsz cF
  have hs : Sup 1 (cs (1 / ld F) pz) := (Sup.pz 0).cs _
  have h0 : ∀ i, qsz (pz i) = 1 := fun i => qsz_zero
  refine ⟨.inl ⟨rfl, rfl, rfl, rfl⟩, fun i => ?_, by have := pl_le hs; omega, fun i => by rw [h0]; omega, by rw [pl_pz]; omega, fun i => ?_, fun i => by rw [pz_cv, h0]; omega, by rw [mn_pl hF]; exact lF, ⟨1, hs⟩, Fin_.pz⟩
  · cases i with
    | zero => show qsz (1 / ld F) ≤ _; omega
    | succ i => show qsz 0 ≤ _; rw [qsz_zero]; omega
  · rw [cs_pz_cv]
    have := cF.mn.elem i
    show qsz (mn F i) ≤ _
    omega
end Go.Hp
namespace Go.Hp
open Go.RowKit
/-- What has come when k rounds of a walk from behind are over. -/
def dn {α : Type} (f : Nat → α) (n k : Nat) : List (Nat × α) := (List.range k).map fun j => (n - 1 - j, f (n - 1 - j))
theorem dn_succ {α : Type} (f : Nat → α) (n k : Nat) : dn f n (k + 1) = dn f n k ++ [(n - 1 - k, f (n - 1 - k))] := by simp [dn, List.range_succ]
theorem dn_length {α : Type} (f : Nat → α) (n k : Nat) : (dn f n k).length = k := by simp [dn]
/-- The cells of one fraction. -/
def RatCells (W : World) (b o : Nat) (v : Value) : Prop :=
  ∃ b1 A1 n1 c1 b2 A2 n2 c2, v = .agg #[.bool b1, .slice A1 n1 c1, .bool b2, .slice A2 n2 c2] ∧ W.cell? ⟨b, o, none⟩ = some (.bool b1) ∧ W.cell? ⟨b, o + 1, none⟩ = some (.slice A1 n1 c1) ∧ W.cell? ⟨b, o + 2, none⟩ = some (.bool b2) ∧ W.cell? ⟨b, o + 3, none⟩ = some (.slice A2 n2 c2)
theorem RatCells.below {n₀ b o : Nat} {A B : World} {v : Value} (h : Below n₀ A B) (hb : b < n₀) (c : RatCells A b o v) : RatCells B b o v := by
  obtain ⟨b1, A1, n1, c1, b2, A2, n2, c2, e, q0, q1, q2, q3⟩ := c
  exact ⟨b1, A1, n1, c1, b2, A2, n2, c2, e, (h.cell (p := ⟨b, o, none⟩) hb).trans q0, (h.cell (p := ⟨b, o + 1, none⟩) hb).trans q1, (h.cell (p := ⟨b, o + 2, none⟩) hb).trans q2, (h.cell (p := ⟨b, o + 3, none⟩) hb).trans q3⟩
/-- What a round keeps: what lay below n₀; and the box Bs. -/
def KpB (n₀ Bs : Nat) (W W' : World) : Prop := Below n₀ W W' ∧ ∀ v, W.cell? ⟨Bs, 0, none⟩ = some v → W'.cell? ⟨Bs, 0, none⟩ = some v
theorem KpB.refl (n₀ Bs : Nat) (W : World) : KpB n₀ Bs W W := ⟨Below.refl _ _, fun _ h => h⟩
theorem KpB.trans {n₀ Bs : Nat} {A B C : World} (h : KpB n₀ Bs A B) (k : KpB n₀ Bs B C) : KpB n₀ Bs A C := ⟨h.1.trans k.1, fun v e => k.2 v (h.2 v e)⟩
theorem kpB_b {n₀ Bs : Nat} {w : World} (hn : n₀ ≤ w.heap.size) (W : World) (l : Nat) (o o' : Obj) (hl : w.heap.size ≤ l) (h : W.heap[l]? = some o) (h1 : o.isCells = false) (h2 : o.isWalk = false) : KpB n₀ Bs W (W.putObj l o') :=
  ⟨belowK_b hn W l o o' hl h h1 h2, fun v e => cell_kept e (grownBy_putObj' W l o') (fun r er => by cases er; exact ⟨o, h, h1⟩)⟩
end Go.Hp
namespace Go.Proofs.YtedoifjbgokmcaaGreat
open Go.RowKit Go.Hp Go.Shelf
attribute [local go_sem] Oper.semAt_some
set_option maxRecDepth 100000 in
set_option maxHeartbeats 2000000 in
theorem back1_in (F : Fence) (n : Nat) (h7 : F.fn 106) (hro : F.round = none) (hn : 1 ≤ n) (l Bs n₀ b off len cap : Nat) {α : Type} (enc : α → Value) (f : Nat → α) (hreach : len * 4 ≤ 1099511627776) (hb : b < n₀) (J Jx : List (Nat × α) → World → Prop)
    (hY : ∀ pre x W, J pre W → pre.length < len → YieldAt F (n - 1) Tryz.prog l #[.int .i64 (x.1 : Nat), enc x.2] W fun e W' =>
      (e = .returned (.bool true) ∧ J (pre ++ [x]) W' ∧ KpB n₀ Bs W W') ∨ (e = .returned (.bool false) ∧ Jx (pre ++ [x]) W'))
    (W : World) (hBs : W.cell? ⟨Bs, 0, none⟩ = some (.slice (some ⟨b, off, none⟩) len cap)) (hc : ∀ j, j < len → RatCells W b (off + j * 4) (enc (f j))) (h0 : J [] W) :
    CallsIn F n Tryz.prog 106 #[.func (.yield l) #[] #[], .pointer (some ⟨Bs, 0, none⟩)] W fun e W' => (∃ v, e = .returned v) ∧
      ((∃ ys, ys = dn f len len ∧ J ys W') ∨ (∃ pre, (∃ k, k ≤ len ∧ pre = dn f len k) ∧ Jx pre W')) := by
  refine callsIn_of_wp Tryz.func106 rfl h7 ?_ hro
  simp only [Tryz.ntmps106, List.size_toArray, List.length_cons, List.length_nil, Nat.reduceAdd, Nat.reduceSub, Array.replicate_succ, Array.replicate_zero, List.push_toArray, List.append_toArray, List.nil_append, List.cons_append]
  gi_wp2
  gi_loopw [3] (fun i wr => ∃ k : Nat, k ≤ len ∧ i = .int .i64 ((len : Int) - 1 - k) ∧ J (dn f len k) wr ∧ KpB n₀ Bs W wr)
    (fun i _ => (intOf i + 1).toNat)
  case atStart => exact ⟨0, Nat.zero_le _, by go_num, h0, KpB.refl _ _ _⟩
  case round =>
    obtain ⟨k, hk, rfl, hJs, hnx⟩ := hrel
    by_cases hlt : k < len
    · obtain ⟨b1, A1, n1, c1, b2, A2, n2, c2, hv, q0, q1, q2, q3⟩ := (hc (len - 1 - k) (by omega)).below hnx.1 hb
      have hbx := hnx.2 _ hBs
      obtain ⟨fn, tmps, assign, body, hy, hR⟩ := hY _ (len - 1 - k, f (len - 1 - k)) wr hJs (by rw [dn_length]; exact hlt)
      dsimp only at hy
      rw [hv] at hy
      obtain ⟨m, hm⟩ : ∃ m, m = len - 1 - k := ⟨_, rfl⟩
      have hmi : (len : Int) - 1 - k = (m : Int) := by omega
      have hml : m < len := by omega
      rw [← hm] at hy q0 q1 q2 q3
      rw [hmi]
      clear hJs hY h0 hc
      have Hm := Lib.hid (And.intro hm hmi); clear hm hmi
      gi_wp2
      refine hR.mono ?_
      rintro e W3 (⟨rfl, hJ3, hk3⟩ | ⟨rfl, hJx3⟩)
      · gi_wp2
        go_roundw
        case rel => exact ⟨k + 1, by omega, by have := Hm.out.2; congr 1; omega, by rw [dn_succ]; exact hJ3, hnx.trans hk3⟩
        case measure => simp [intOf]
      · gi_wp2
        refine bodyPost_ret (results_none rfl _ _ _) rfl ?_
        exact ⟨⟨_, rfl⟩, .inr ⟨_, ⟨k + 1, by omega, (dn_succ _ _ _).symm⟩, hJx3⟩⟩
    · obtain rfl : k = len := by omega
      gi_wp2
      go_end0
      exact ⟨⟨_, rfl⟩, .inl ⟨_, rfl, hJs⟩⟩
set_option maxRecDepth 100000 in
set_option maxHeartbeats 1000000 in
theorem back1_none_in (F : Fence) (n : Nat) (h7 : F.fn 106) (hro : F.round = none) (l Bs cap : Nat) (A : Option Addr) {α : Type} (J : List (Nat × α) → World → Prop) (W : World) (hBs : W.cell? ⟨Bs, 0, none⟩ = some (.slice A 0 cap)) (h0 : J [] W) :
    CallsIn F n Tryz.prog 106 #[.func (.yield l) #[] #[], .pointer (some ⟨Bs, 0, none⟩)] W fun e W' => (∃ v, e = .returned v) ∧ J [] W' := by
  refine callsIn_of_wp Tryz.func106 rfl h7 ?_ hro
  simp only [Tryz.ntmps106, List.size_toArray, List.length_cons, List.length_nil, Nat.reduceAdd, Nat.reduceSub, Array.replicate_succ, Array.replicate_zero, List.push_toArray, List.append_toArray, List.nil_append, List.cons_append]
  gi_wp2
  gi_loopw [3] (fun i wr => i = .int .i64 (-1) ∧ J [] wr) (fun _ _ => 0)
  case atStart => exact ⟨rfl, h0⟩
  case round =>
    obtain ⟨rfl, hJs⟩ := hrel
    gi_wp2
    go_end0
    exact ⟨⟨_, rfl⟩, hJs⟩
set_option maxHeartbeats 1000000 in
/-- slices.Backward(s): the slice is boxed; the function captures the box. -/
theorem back_in (F : Fence) (n : Nat) (h5 : F.fn 76) (hro : F.round = none) (a : Option Addr) (len cap : Nat) (w : World) :
    CallsIn F n Tryz.prog 76 #[.slice a len cap] w fun e w' => e = .returned (.func (.func 106) #[] #[.pointer (some ⟨w.heap.size, 0, none⟩)]) ∧ w' = w.alloc (.cells #[.slice a len cap] 23) := by
  refine callsIn_of_wp Tryz.func76 rfl h5 ?_ hro
  simp only [Tryz.ntmps76, List.size_toArray, List.length_cons, List.length_nil, Nat.reduceAdd, Nat.reduceSub, Array.replicate_succ, Array.replicate_zero, List.push_toArray, List.append_toArray, List.nil_append, List.cons_append]
  gi_wp2
  go_ret
  exact ⟨rfl, rfl⟩
/-- The contract of slices.Backward's iterator over a slice of fractions that lies below n₀, its box at Bs. -/
theorem back_stops (F : Fence) (n : Nat) (h7 : F.fn 106) (hro : F.round = none) (hn : 1 ≤ n) (Bs n₀ len cap : Nat) (A : Option Addr) {α : Type} (enc : α → Value) (f : Nat → α) (hreach : len * 4 ≤ 1099511627776) (w : World) (hBs : Bs < w.heap.size) (hn₀ : n₀ ≤ w.heap.size)
    (hc : w.cell? ⟨Bs, 0, none⟩ = some (.slice A len cap)) (hI : 0 < len → ∃ b off, A = some ⟨b, off, none⟩ ∧ b < n₀ ∧ ∀ j, j < len → RatCells w b (off + j * 4) (enc (f j))) :
    SeqStopsK F n Tryz.prog 106 #[.pointer (some ⟨Bs, 0, none⟩)] (fun x : Nat × α => #[Value.int .i64 (x.1 : Nat), enc x.2]) (KpB n₀ Bs) (fun ys => ys = dn f len len) (fun pre => ∃ k, k ≤ len ∧ pre = dn f len k) len w := fun l J Jx W hW _ _ hY h0 => by
  have hc' := (hW.cell (p := ⟨Bs, 0, none⟩) hBs).trans hc
  by_cases hl : 0 < len
  · obtain ⟨b, off, rfl, hb, hcs⟩ := hI hl
    exact back1_in F n h7 hro hn l Bs n₀ b off len cap enc f hreach hb J Jx hY W hc' (fun j hj => (hcs j hj).below (hW.mono hn₀) hb) h0
  · obtain rfl : len = 0 := by omega
    exact (back1_none_in F n h7 hro l Bs cap A J W hc' h0).mono fun e W' ⟨he, hj⟩ => ⟨he, .inl ⟨_, rfl, hj⟩⟩
end Go.Proofs.YtedoifjbgokmcaaGreat
namespace Go.Hp
open Go.RowKit
/-- A fraction with its value. -/
def QEl (w : World) (s : Nat) : Type := { p : Value × Rat // HasQ w p.1 p.2 ∧ qsz p.2 ≤ s }
def QEl.v {w : World} {s : Nat} (e : QEl w s) : Value := e.1.1
def QEl.q {w : World} {s : Nat} (e : QEl w s) : Rat := e.1.2
def hacc {w : World} {s : Nat} (x : Rat) (pre : List (Nat × QEl w s)) : Rat := pre.foldl (fun a p => a * x + p.2.q) 0
theorem hacc_snoc {w : World} {s : Nat} (x : Rat) (pre : List (Nat × QEl w s)) (p : Nat × QEl w s) : hacc x (pre ++ [p]) = hacc x pre * x + p.2.q := by simp [hacc]
theorem hacc_dn {w : World} {s : Nat} (x : Rat) (F : Nat → Rat) (f : Nat → QEl w s) (n : Nat) (hf : ∀ j, j < n → (f j).q = F j) : ∀ k, k ≤ n → hacc x (dn f n k) = hor F x n (n - k)
  | 0, _ => by rw [Nat.sub_zero, hor_top]; rfl
  | k + 1, h => by
    rw [dn_succ, hacc_snoc, hacc_dn x F f n hf k (by omega), hf _ (by omega), hor_step F x (show n - (k + 1) < n by omega), show n - (k + 1) + 1 = n - k from by omega, show n - 1 - k = n - (k + 1) from by omega]
theorem hacc_qsz {w : World} {s t : Nat} {x : Rat} (hx : qsz x ≤ t) (pre : List (Nat × QEl w s)) : qsz (hacc x pre) ≤ 1 + pre.length * (s + t + 1) := by
  have key : ∀ (pre : List (Nat × QEl w s)) (a : Rat), qsz (pre.foldl (fun a p => a * x + p.2.q) a) ≤ qsz a + pre.length * (s + t + 1) := by
    intro pre
    induction pre with
    | nil => intro a; simp
    | cons p pre ih =>
      intro a
      have h1 := ih (a * x + p.2.q)
      have h2 := qsz_add (a * x) p.2.q
      have h3 := qsz_mul a x
      have h4 : qsz p.2.q ≤ s := p.2.2.2
      rw [List.foldl_cons, List.length_cons, Nat.succ_mul]
      omega
  have := key pre 0
  have h0 : qsz (0 : Rat) = 1 := by decide
  unfold hacc; omega
theorem KD.own {A B : World} {row : Option Nat} (hg : A.grownBy B row) (hr : ∀ r, row = some r → ∃ o : Obj, A.heap[r]? = some o ∧ o.isCells = false) : KD A B := fun _ _ e => cell_kept e hg hr
theorem Box.own {A B : World} {row : Option Nat} {g : Nat} {t : TypeId} {cs : Array Value} (h : Box A g t cs) (hg : A.grownBy B row) (hr : ∀ r, row = some r → ∃ o : Obj, A.heap[r]? = some o ∧ o.isCells = false) : Box B g t cs :=
  ⟨(hg.block g h.lt (fun e => by obtain ⟨o, h1, h2⟩ := hr g e.symm; rw [h.1] at h1; cases h1; cases h2)).trans h.1, h.2⟩
theorem kept4 {A B C : World} {g : Nat} {u v x y : Value} (B0 : Nat) (e : Ext A B) (h : C = (((B.setCell ⟨g, 0, none⟩ u).setCell ⟨g, 1, none⟩ v).setCell ⟨g, 2, none⟩ x).setCell ⟨g, 3, none⟩ y) : KeepsFrom B0 A C := by
  subst h
  have k1 : KeepsFrom B0 A B := ⟨e.size, fun k o _ h0 _ => e.blk h0⟩
  exact k1.trans (((((KeepsOthers.setCell _ _ _).trans (KeepsOthers.setCell _ _ _)).trans (KeepsOthers.setCell _ _ _)).trans (KeepsOthers.setCell _ _ _)).from _)
theorem below4 {A B C : World} {g n₀ : Nat} {u v x y : Value} (e : Below n₀ A B) (h : C = (((B.setCell ⟨g, 0, none⟩ u).setCell ⟨g, 1, none⟩ v).setCell ⟨g, 2, none⟩ x).setCell ⟨g, 3, none⟩ y) (hg : n₀ ≤ g) : Below n₀ A C := by
  subst h
  exact (((e.setCell (p := ⟨g, 0, none⟩) hg _).setCell (p := ⟨g, 1, none⟩) hg _).setCell (p := ⟨g, 2, none⟩) hg _).setCell (p := ⟨g, 3, none⟩) hg _
theorem upd_cell {A B : World} {G : List Nat} {g i : Nat} {v : Value} (U : Upd G A B) (hg : g ∉ G) (h : A.cell? ⟨g, i, none⟩ = some v) : B.cell? ⟨g, i, none⟩ = some v := by
  obtain ⟨o, ho, hc⟩ := cells_of_cell h
  exact (World.cell?_of_block ((U.1 g o hg ho).trans ho.symm)).trans h
theorem BoxQ.own {A B : World} {row : Option Nat} {g : Nat} {t : TypeId} {q : Rat} (h : BoxQ A g t q) (hg : A.grownBy B row) (hr : ∀ r, row = some r → ∃ o : Obj, A.heap[r]? = some o ∧ o.isCells = false) : BoxQ B g t q := by
  obtain ⟨b, A1, n, c, b', A1', n', c', h1, h2⟩ := h
  exact BoxQ.mk (h1.own hg hr) (h2.kd (KD.own hg hr))
end Go.Hp
namespace Go.Proofs.YtedoifjbgokmcaaGreat
open Go.RowKit Go.Hp Go.Shelf
attribute [local go_sem] Oper.semAt_some
set_option maxRecDepth 100000 in
set_option maxHeartbeats 2000000 in
theorem eval_q (v u : Value) (l : List Rat) (x : Rat) (s t : Nat) (w : World) (hv : HsV 0 w v l) (hu : HasQ w u x) (hs : ∀ i, qsz (co l i) ≤ s) (ht : qsz x ≤ t) (hK : 1 + l.length * (s + t + 1) + s + t + 1 ≤ 274877906944) (hn : l.length ≤ 274877906944) :
    Calls Tryz.prog 37 #[v, u] w (Gives w fun r w' => IsQ w' r (evn l.length (co l) x)) := by
  have HU := Lib.hid hu
  obtain ⟨b1, A1, n1, c1, b1', A1', n1', c1', x0, y0, rfl, -⟩ := hu.form
  obtain ⟨A, c, rfl, hl, hc, hA⟩ := hv
  clear hu
  have HA : Hid (HsAt 0 w A l) := Lib.hid hA; clear hA
  have HS := Lib.hid (And.intro hs ht)
  have HH := Lib.hid (fun i => hor_qsz (x := x) hs ht l.length i)
  clear hs ht
  refine (callsIn_wide (n := 5)).1 ?_
  refine callsIn_of_wp_marks Tryz.func37 rfl trivial ?_ rfl
  simp only [Tryz.ntmps37, List.size_toArray, List.length_cons, List.length_nil, Nat.reduceAdd, Nat.reduceSub, Array.replicate_succ, Array.replicate_zero, List.push_toArray, List.append_toArray, List.nil_append, List.cons_append]
  gi_wp2_with (refine ⟨trivial, ?_⟩; gi_at_call 48; refine (callsIn_wide.2 (of_q 0 _ (by omega) (by omega))).mono ?_; rintro e w1 ⟨r1, rfl, hr1, hx1⟩; obtain ⟨b5, A5, n5, c5, b6, A6, n6, c6, rfl⟩ := hr1.cells)
  obtain ⟨W9, eW9, e9, x9⟩ := Box.made w1 40 #[.bool b5, .slice A5 n5 c5, .bool b6, .slice A6 n6 c6] (by simp [isDig])
  rw [← eW9]
  clear eW9
  have hgb : w.heap.size + 1 + 1 ≤ w1.heap.size := by have := hx1.size; simpa using this
  have eb := BoxQ.mk e9 (hr1.ext x9)
  replace hx1 := hx1.trans x9
  clear x9 hr1 e9
  generalize w1.heap.size = gb at *
  refine ⟨trivial, ?_⟩
  gi_at_call 76
  refine (back_in _ _ trivial rfl _ _ _ _).mono ?_
  rintro e w2 ⟨rfl, rfl⟩
  gi_wp2
  obtain ⟨WA, hWA⟩ : ∃ WA, (w.alloc (.cells #[.bool b1, .slice A1 n1 c1, .bool b1', .slice A1' n1' c1'] 40)).alloc (.cells #[.bool false, .slice none 0 0, .bool false, .slice none 0 0] 40) = WA := ⟨_, rfl⟩
  have hAsz : WA.heap.size = w.heap.size + 2 := by rw [← hWA]; simp
  have eu : Box WA w.heap.size 40 #[.bool b1, .slice A1 n1 c1, .bool b1', .slice A1' n1' c1'] := by rw [← hWA]; exact (Box.new w _ _ (by simp [isDig])).alloc _
  have ez : Box WA (w.heap.size + 1) 40 #[.bool false, .slice none 0 0, .bool false, .slice none 0 0] := by
    have := Box.new (w.alloc (.cells #[.bool b1, .slice A1 n1 c1, .bool b1', .slice A1' n1' c1'] 40)) 40 #[.bool false, .slice none 0 0, .bool false, .slice none 0 0] (by simp [isDig])
    rw [World.size_alloc] at this
    rw [← hWA]; exact this
  rw [hWA] at hx1
  have hwA : Ext w WA := by rw [← hWA]; exact ((Below.refl w.heap.size w).alloc (Nat.le_refl _) _).alloc (by simp) _
  clear hWA
  have hgW : gb < W9.heap.size := eb.lt
  obtain ⟨f, hf, hcs⟩ : ∃ f : Nat → QEl w s, (∀ j, j < l.length → (f j).q = co l j) ∧ (0 < l.length → ∃ b off, A = some ⟨b, off, none⟩ ∧ b < WA.heap.size ∧ ∀ j, j < l.length → RatCells (W9.alloc (.cells #[.slice A l.length c] 23)) b (off + j * 4) (f j).v) := by
    have key : ∀ j, ∃ e : QEl w s, j < l.length → e.q = co l j ∧ ∃ b off, A = some ⟨b, off, none⟩ ∧ b < w.heap.size ∧ RatCells (W9.alloc (.cells #[.slice A l.length c] 23)) b (off + j * 4) e.v := by
      intro j
      by_cases hj : j < l.length
      · obtain ⟨g, o, b, A2, n, c2, b', A2', n', c2', rfl, _, q0, q1, q2, q3, hq⟩ := HA.out.at_ (j := j) hj
        rw [← co_lt] at hq
        have X := hwA.trans (hx1.alloc (.cells #[.slice (some ⟨g, o, none⟩) l.length c] 23))
        exact ⟨⟨(_, _), hq, HS.out.1 j⟩, fun _ => ⟨rfl, g, o, rfl, World.block_lt_of_cell? w _ q0, _, _, _, _, _, _, _, _, rfl, X.cell q0, X.cell q1, X.cell q2, X.cell q3⟩⟩
      · exact ⟨⟨(_, _), HasQ.zero w, by have := HS.out.1 l.length; rwa [co_ge (Nat.le_refl _)] at this⟩, fun h => absurd h hj⟩
    refine ⟨fun j => Classical.choose (key j), fun j hj => (Classical.choose_spec (key j) hj).1, fun h0 => ?_⟩
    obtain ⟨-, b, off, e1, e2, -⟩ := Classical.choose_spec (key 0) h0
    refine ⟨b, off, e1, by omega, fun j hj => ?_⟩
    obtain ⟨-, b', off', e1', -, e3⟩ := Classical.choose_spec (key j) hj
    rw [e1] at e1'
    cases e1'
    exact e3
  obtain ⟨W2, hW2⟩ : ∃ W2, W9.alloc (.cells #[.slice A l.length c] 23) = W2 := ⟨_, rfl⟩
  have h2sz : W2.heap.size = W9.heap.size + 1 := by rw [← hW2]; simp
  have hb2 : W2.cell? ⟨W9.heap.size, 0, none⟩ = some (.slice A l.length c) := by rw [← hW2]; exact (Boxed.new W9 _ _).cell
  have eb2 : BoxQ W2 gb 40 ((0 : Int) : Rat) := by
    rw [← hW2]; obtain ⟨b, A1, n, c, b', A1', n', c', h1, h2⟩ := eb; exact BoxQ.mk (h1.alloc _) (h2.ext ((Below.refl _ W9).alloc (Nat.le_refl _) _))
  have hx2 : Ext WA W2 := by rw [← hW2]; exact hx1.alloc _
  rw [hW2] at hcs ⊢
  clear hW2 eb hx1
  refine wpIn_rangeFunc_ownH rfl (by omega) (gf := 106) (lb := #[.pointer (some ⟨W9.heap.size, 0, none⟩)]) rfl trivial (enters_of Tryz.func106 (by kernel_rfl) rfl)
    (back_stops _ _ trivial rfl (by omega) W9.heap.size WA.heap.size l.length c A QEl.v f (by omega) W2 (by omega) hx2.size hb2 hcs) KpB.trans (kpB_b hx2.size) (Below.refl _ _) (fun _ => rfl)
    (fun pre W => BoxQ W gb 40 (hacc x pre) ∧ Below WA.heap.size WA W)
    (fun _ _ _ => False)
    (fun pre A B row hs hg hr => ⟨hs.1.own hg (fun r e => (hr r e).2), ownFrom_below (β := Unit) (Nat.le_refl _) hx2.size () A B row hs.2 hg hr⟩)
    (fun _ _ _ _ _ hs _ _ => hs)
    ⟨eb2, hx2⟩
    (fun p a' W => ∃ Bx b A2 n2 c2 b' A2' n2' c2', p.2.v = .agg #[.bool b, .slice A2 n2 c2, .bool b', .slice A2' n2' c2'] ∧ Box W Bx 40 #[.bool b, .slice A2 n2 c2, .bool b', .slice A2' n2' c2'] ∧ a' = { tmps := #[.slice A l.length c, .agg #[.bool b1, .slice A1 n1 c1, .bool b1', .slice A1' n1' c1'], undef, .pointer (some ⟨w.heap.size, 0, none⟩), .pointer (some ⟨w.heap.size + 1, 0, none⟩), .pointer (some ⟨gb, 0, none⟩), undef, .pointer (some ⟨Bx, 0, none⟩), .agg #[.bool b5, .slice A5 n5 c5, .bool b6, .slice A6 n6 c6], .slice A l.length c, .func (.func 106) #[] #[.pointer (some ⟨W9.heap.size, 0, none⟩)], .int .i64 (p.1 : Nat), .agg #[.bool b, .slice A2 n2 c2, .bool b', .slice A2' n2' c2'], undef, undef, undef, undef, undef, undef], defers := [] })
    (fun p a' _ X Y row hs hg hr => by obtain ⟨Bx, b, A2, n2, c2, b', A2', n2', c2', k2, k3, k4⟩ := hs; exact ⟨Bx, b, A2, n2, c2, b', A2', n2', c2', k2, k3.own hg (fun r e => (hr r e).2), k4⟩)
    ?assign ?body ?done ?stop
  case assign =>
    rintro lp pre p W K ⟨hi, hB⟩ hK
    obtain ⟨b, A2, n2, c2, b', A2', n2', c2', x1, y1, hpv, -⟩ := p.2.2.1.form
    replace hpv : p.2.v = .agg #[.bool b, .slice A2 n2 c2, .bool b', .slice A2' n2' c2'] := hpv
    have HK := Lib.hid hK; clear hK
    have HI := Lib.hid (And.intro hi hB); clear hi
    gi_wp2
    obtain ⟨W9, eW9, e9, x9⟩ := Box.made W 40 #[.bool b, .slice A2 n2 c2, .bool b', .slice A2' n2' c2'] (by simp [isDig])
    rw [← eW9]
    refine HK.out _ _ ⟨x9.size, fun k o _ h0 _ => x9.blk h0⟩ ⟨x9.mono hB.size, fun v h => x9.cell h⟩ ⟨HI.out.1.ext x9, hB.trans (x9.mono hB.size)⟩ ⟨W.heap.size, b, A2, n2, c2, b', A2', n2', c2', hpv, e9, rfl⟩
  case body =>
    rintro lp pre p a' W hl0 ⟨r, hr⟩ ⟨hi, hB⟩ ⟨Bx, b, A2, n2, c2, b', A2', n2', c2', k2, k3, rfl⟩ hlt
    have HQ := Lib.hid (show HasQ w (.agg #[.bool b, .slice A2 n2 c2, .bool b', .slice A2' n2' c2']) p.2.q from k2 ▸ p.2.2.1)
    have HR := Lib.hid (show qsz (hacc x pre) ≤ 274877906944 ∧ qsz (hacc x pre * x) ≤ 274877906944 ∧ qsz p.2.q ≤ s ∧ qsz p.2.q < 274877906944 by
      have h1 := hacc_qsz HS.out.2 pre
      have h2 := qsz_mul (hacc x pre) x
      have h3 := HS.out.2
      have h4 : qsz p.2.q ≤ s := p.2.2.2
      have h5 : pre.length * (s + t + 1) ≤ l.length * (s + t + 1) := Nat.mul_le_mul_right _ (by omega)
      omega)
    obtain ⟨z1, Z1, zn, zc, z2, Z2, zn', zc', eg, hz⟩ := hi
    have Hz := Lib.hid hz; clear hz
    have hB' : Ext WA W := hB
    have euW := eu.ext hB'
    obtain ⟨g0, g1, g2, g3⟩ := eg.cells4
    obtain ⟨u0, u1, u2, u3⟩ := euW.cells4
    obtain ⟨e0, e1, e2, e3⟩ := k3.cells4
    have fg := eg.frozen
    gi_wp2
    have hmx : Tryz.prog.follows .mixedOrders = true := by kernel_rfl
    have xd : Ext W W.drew := Below.drew (Below.refl _ W)
    have xA := (hwA.trans hB').trans xd
    have hm1 := (Hz.out.ext xd).has HR.out.1
    have hm2 := HU.out.ext xA
    have Hm := Lib.hid (And.intro hm1 hm2); clear hm1 hm2
    gi_region_with_o (first | (refine ⟨trivial, ?_⟩; gi_at_call 50; refine (CallsIn.inRound lp (callsIn_wide.2 (mul_q _ _ (hacc x pre) x _ Hm.out.1 Hm.out.2))).mono ?_; rintro e w5 ⟨r5, rfl, hr5, hx5⟩; obtain ⟨b7, A7, n7, c7, b8, A8, n8, c8, rfl⟩ := hr5.cells; have v0 := (xd.trans hx5).cell e0; have v1 := (xd.trans hx5).cell e1; have v2 := (xd.trans hx5).cell e2; have v3 := (xd.trans hx5).cell e3; have Hr5 := Lib.hid hr5; clear hr5) | (refine ⟨trivial, ?_⟩; gi_at_call 56; refine (CallsIn.inRound lp (callsIn_wide.2 (add_q _ _ (hacc x pre * x) p.2.q _ (Hr5.out.has HR.out.2.1) (HQ.out.ext (xA.trans hx5))))).mono ?_; rintro e w6 ⟨r6, rfl, hr6, hx6⟩; obtain ⟨b9, A9, n9, c9, b10, A10, n10, c10, rfl⟩ := hr6.cells; have x6 := (xd.trans hx5).trans hx6; have eg6 := eg.ext x6; have f6 := eg6.frozen; obtain ⟨y0, y1, y2, y3⟩ := eg6.cells4; have Hr6 := Lib.hid hr6; clear hr6))
    all_goals gi_wp2
    all_goals
      obtain ⟨W7, eW7, e7, U7⟩ := eg6.put4 (.bool b9) (.slice A9 n9 c9) (.bool b10) (.slice A10 n10 c10) rfl rfl rfl rfl
      have kf := kept4 W2.heap.size x6 eW7
      have kb := below4 (n₀ := WA.heap.size) (x6.mono hB'.size) eW7 (by omega)
      have kq := BoxQ.mk e7 (Hr6.out.kd U7.kd)
      rw [← hacc_snoc x pre p] at kq
      rw [← eW7]
      exact ⟨kf, ⟨kb, fun v h => upd_cell U7 (by simp; omega) (x6.cell h)⟩, kq, Below.trans hB kb⟩
  case done =>
    rintro D ys W hD rfl ⟨hi, hB⟩ hK
    rw [hacc_dn x (co l) f l.length hf l.length (Nat.le_refl _), Nat.sub_self, hor_zero] at hi
    obtain ⟨z1, Z1, zn, zc, z2, Z2, zn', zc', eg, hz⟩ := hi
    obtain ⟨g0, g1, g2, g3⟩ := eg.cells4
    have hB' : Ext WA W := hB
    have ezW := ez.ext hB'
    obtain ⟨z0', z1', z2', z3'⟩ := ezW.cells4
    have fz := ezW.frozen
    have eW3 := ezW.put4 (.bool z1) (.slice Z1 zn zc) (.bool z2) (.slice Z2 zn' zc') rfl rfl rfl rfl
    have hne : D ≠ w.heap.size + 1 := by have := hx2.size; omega
    have Hz := Lib.hid hz; clear hz
    gi_wp2
    obtain ⟨W3, eW3, e3, U3⟩ := eW3
    rw [← eW3]
    clear eW3
    have hK3 : W3.heap[D]? = some (.deferred (some [])) := U3.1 D _ (by simpa using hne) hK
    have e4 := e3.own (grownBy_putObj' W3 D (.deferred none)) (fun r e => by cases e; exact ⟨_, hK3, rfl⟩)
    have hx3 : Ext w W3 := U3.2.2 w (hwA.trans hB') (by simp)
    have hx4 : Ext w (W3.putObj D (.deferred none)) := Below.trans hx3 (belowK_b (w := w) (Nat.le_refl _) W3 D _ _ (by have := hx2.size; omega) hK3 rfl rfl)
    have hz4 := (Hz.out.kd U3.kd).kd (KD.own (grownBy_putObj' W3 D (.deferred none)) (fun r e => by cases e; exact ⟨_, hK3, rfl⟩))
    refine ⟨by simp, .inl ⟨_, _, rfl, run_takeDeferred hK3, ?_⟩⟩
    obtain ⟨y0, y1, y2, y3⟩ := e4.cells4
    exact ⟨_, by simp [results, Tryz.f37, go_sem, y0, y1, y2, y3], Gives.mk hz4 hx4⟩
  case stop =>
    rintro D c pre W _ _ h _
    exact h.elim
end Go.Proofs.YtedoifjbgokmcaaGreat
namespace Go.Hp
open Go.RowKit
theorem IsP.empty (base : Nat) (w : World) (A : Option Addr) (c : Nat) (hc : c ≤ 9223372036854775807) : IsP base w (.slice A 0 c) pz :=
  ⟨[], ⟨A, c, rfl, Nat.zero_le _, hc, fun h => absurd h (by simp)⟩, fun h => absurd h (by simp), co_nil⟩
theorem IsP.shape {base : Nat} {w : World} {v : Value} {F : Nat → Rat} (h : IsP base w v F) : ∃ A c, v = .slice A (pl F) c ∧ pl F ≤ c ∧ c ≤ 9223372036854775807 := by
  obtain ⟨A, c, l, e, k1, k2, _⟩ := h.form; exact ⟨A, c, e, k1, k2⟩
theorem co_single (a : Rat) : co [a] = cs a pz := by rw [co_cons, co_nil]
theorem IsP.single {base : Nat} {w : World} {v : Value} {a : Rat} (h : QsV base w v [a]) (h0 : a ≠ 0) : IsP base w v (cs a pz) :=
  ⟨[a], h, fun _ => by simpa using h0, co_single a⟩
end Go.Hp
namespace Go.Proofs.YtedoifjbgokmcaaGreat
open Go.RowKit Go.Hp
theorem mul_pP (v u : Value) (F G : Nat → Rat) (s t : Nat) (w : World) (hv : IsP 0 w v F) (hu : IsP 0 w u G) (hs : ∀ i, qsz (F i) ≤ s) (ht : ∀ i, qsz (G i) ≤ t) (hn : pl F ≤ 274877906944) (hm : pl G ≤ 274877906944) (h0 : s ≤ 274877906944) (h00 : t ≤ 274877906944) (hst : 1 + (pl F + 1) * (s + t + 1) ≤ 274877906944) :
    Calls Tryz.prog 25 #[v, u] w (Gives w fun r w' => IsP w.heap.size w' r (cv F G)) := by
  obtain ⟨l, h1, h2, h3, rfl⟩ := hv.hs (fun i => by have := hs i; omega)
  obtain ⟨m, k1, k2, k3, rfl⟩ := hu.hs (fun i => by have := ht i; omega)
  rw [← h2] at hst
  exact mul_p v u l m s t w h1 k1 hs ht (by omega) (by omega) hst
theorem scale_pP (v u : Value) (F : Nat → Rat) (ra : Rat) (w : World) (hv : IsP 0 w v F) (hu : HasQ w u ra) (hs : ∀ i, qsz (F i) ≤ 274877906944) (hn : pl F ≤ 274877906944) :
    Calls Tryz.prog 27 #[v, u] w (Gives w fun r w' => IsP w.heap.size w' r (psc ra F)) := by
  obtain ⟨l, h1, h2, h3, rfl⟩ := hv.hs hs
  exact scale_p v u l ra w h1 hu (by omega)
end Go.Proofs.YtedoifjbgokmcaaGreat
namespace Go.Proofs.YtedoifjbgokmcaaGreat
open Go.RowKit Go.Hp
theorem eval_q' (v u : Value) (l : List Rat) (x : Rat) (s t : Nat) (w : World) (hv : HsV 0 w v l) (hu : HasQ w u x) (hs : ∀ i, qsz (co l i) ≤ s) (ht : qsz x ≤ t) (hK : 1 + l.length * (s + t + 1) + s + t + 1 ≤ 274877906944) (hn : l.length ≤ 274877906944) :
    Calls Tryz.prog 37 #[v, u] w (Gives w fun r w' => IsQ w' r (ev (co l) x)) := by
  rw [ev_eq (co_sup l)]; exact eval_q v u l x s t w hv hu hs ht hK hn
theorem eval_rp' (v u : Value) (l : List Rat) (x : Rat) (s t : Nat) (w : World) (hv : HsV 0 w v l) (hu : HasQ w u x) (hs : ∀ i, qsz (co l i) ≤ s) (ht : qsz x ≤ t) (hK : 1 + l.length * (s + t + 1) + s + t + 1 ≤ 274877906944) (hn : l.length ≤ 549755813888) :
    Calls Tryz.prog 75 #[v, u] w (Gives w fun r w' => IsQ w' r (ev (co l) x)) := by
  rw [ev_eq (co_sup l)]; exact eval_rp v u l x s t w hv hu hs ht hK hn
theorem eval_qP (v u : Value) (F : Nat → Rat) (x : Rat) (s t n : Nat) (w : World) (hv : IsP 0 w v F) (hu : HasQ w u x) (hs : ∀ i, qsz (F i) ≤ s) (ht : qsz x ≤ t) (hn : pl F ≤ n) (hn0 : n ≤ 274877906944) (hK : 1 + n * (s + t + 1) + s + t + 1 ≤ 274877906944) :
    Calls Tryz.prog 37 #[v, u] w (Gives w fun r w' => IsQ w' r (ev F x)) := by
  obtain ⟨l, h1, h2, _, rfl⟩ := hv.hs (fun i => by have := hs i; omega)
  have : l.length * (s + t + 1) ≤ n * (s + t + 1) := Nat.mul_le_mul_right _ (by omega)
  exact eval_q' v u l x s t w h1 hu hs ht (by omega) (by omega)
theorem eval_rP (v u : Value) (F : Nat → Rat) (x : Rat) (s t n : Nat) (w : World) (hv : IsP 0 w v F) (hu : HasQ w u x) (hs : ∀ i, qsz (F i) ≤ s) (ht : qsz x ≤ t) (hn : pl F ≤ n) (hn0 : n ≤ 274877906944) (hK : 1 + n * (s + t + 1) + s + t + 1 ≤ 274877906944) :
    Calls Tryz.prog 75 #[v, u] w (Gives w fun r w' => IsQ w' r (ev F x)) := by
  obtain ⟨l, h1, h2, _, rfl⟩ := hv.hs (fun i => by have := hs i; omega)
  have : l.length * (s + t + 1) ≤ n * (s + t + 1) := Nat.mul_le_mul_right _ (by omega)
  exact eval_rp' v u l x s t w h1 hu hs ht (by omega) (by omega)
theorem add_pP (v u : Value) (F G : Nat → Rat) (w : World) (hv : IsP 0 w v F) (hu : IsP 0 w u G) (hs : ∀ i, qsz (F i) ≤ 274877906944) (ht : ∀ i, qsz (G i) ≤ 274877906944) (hn : pl F ≤ 274877906944) (hm : pl G ≤ 274877906944) :
    Calls Tryz.prog 21 #[v, u] w (Gives w fun r w' => IsP w.heap.size w' r (pad F G)) := by
  obtain ⟨l, h1, h2, _, rfl⟩ := hv.hs hs
  obtain ⟨m, k1, k2, _, rfl⟩ := hu.hs ht
  exact add_p v u l m w h1 k1 (by omega) (by omega)
end Go.Proofs.YtedoifjbgokmcaaGreat
namespace Go.Hp
open Go.RowKit
theorem sgn_sub_b1 {p q : Rat} (h : p = q) : (sgn (p - q) == 0) = true := by subst h; rw [show p - p = 0 from by grind]; rfl
theorem sgn_sub_b0 {p q : Rat} (h : p ≠ q) : (sgn (p - q) == 0) = false := by
  have : p - q ≠ 0 := fun e => h (by grind)
  simpa [sgn_zero] using this
theorem lin_hs {w : World} {v : Value} {a : Rat} (h : QsV 0 w v [-a, ((1 : Int) : Rat)]) (ha : qsz a ≤ 2) : IsP 0 w v (lin a) ∧ (∀ i, qsz (lin a i) ≤ 6) := by
  refine ⟨⟨_, h, fun _ => by simp, lin_co a⟩, fun i => (CD.lin ha).elem i⟩
theorem pl_lin (a : Rat) : pl (lin a) ≤ 2 := pl_le (lin_sup a)
end Go.Hp
namespace Go.Proofs.YtedoifjbgokmcaaGreat
open Go.RowKit Go.Hp
set_option maxRecDepth 20000 in
set_option maxHeartbeats 8000000 in
theorem interp_p (v : Value) (l : List (Rat × Rat)) (w : World) (hv : PtsV w v l) (hn : l.length ≤ 12) (hX : ∀ i, i < l.length → qsz (px l i) ≤ 2) (hY : ∀ i, i < l.length → qsz (py l i) ≤ 2) :
    Calls Tryz.prog 35 #[v] w (Gives w fun r w' => IpOut l r w') := by
  obtain ⟨A, c, rfl, hl, hc, hA⟩ := hv.len
  clear hv
  have HA := Lib.hid hA; clear hA
  have HS := Lib.hid (And.intro hX hY); clear hX hY
  go_enter Tryz.func35, Tryz.ntmps35
  go_wp2
  go_loopw [19] (fun iv wr => ∃ i : Nat, i ≤ l.length ∧ iv = .int .i64 i ∧ Apart (px l) i ∧ Ext w wr) (fun iv _ => l.length - (intOf iv).toNat)
  case atStart => exact ⟨0, by omega, rfl, fun i k hi => by omega, Ext.refl _⟩
  case round =>
    obtain ⟨i, hi, rfl, hap, hx⟩ := hrel
    have Hap := Lib.hid hap; clear hap
    by_cases hil : i < l.length
    · obtain ⟨g, o, b1, A1, n1, c1, b2, A2, n2, c2, b3, A3, n3, c3, b4, A4, n4, c4, rfl, q0, q1, q2, q3, q4, q5, q6, q7, hq1, hq2⟩ := HA.out.at_ hil
      replace q0 := hx.cell q0
      replace q1 := hx.cell q1
      replace q2 := hx.cell q2
      replace q3 := hx.cell q3
      replace q4 := hx.cell q4
      replace q5 := hx.cell q5
      replace q6 := hx.cell q6
      replace q7 := hx.cell q7
      have hxi := px_lt hil
      rw [← hxi] at hq1
      have Hq := Lib.hid (hq1.ext hx); clear hq1 hq2 hxi
      go_wp2
      obtain ⟨wo, hwo⟩ : ∃ wo : World, wo = wr := ⟨_, rfl⟩
      subst hwo
      go_loopw [28] (fun iv wx => ∃ k : Nat, k ≤ i ∧ iv = .int .i64 k ∧ (∀ j, j < k → px l i ≠ px l j) ∧ Ext (wo.alloc (.cells #[.bool b1, .slice A1 n1 c1, .bool b2, .slice A2 n2 c2, .bool b3, .slice A3 n3 c3, .bool b4, .slice A4 n4 c4] 57)) wx) (fun iv _ => i - (intOf iv).toNat)
      case atStart => exact ⟨0, by omega, rfl, fun j hj => by omega, Ext.refl _⟩
      case round =>
        obtain ⟨k, hk, rfl, hne, hy⟩ := hrel
        have Hne := Lib.hid hne; clear hne
        by_cases hki : k < i
        · have hkl : k < l.length := by omega
          obtain ⟨g', o', d1, B1, m1, e1, d2, B2, m2, e2, d3, B3, m3, e3, d4, B4, m4, e4, hgo, r0, r1, r2, r3, r4, r5, r6, r7, hr1, -⟩ := HA.out.at_ hkl
          simp only [Option.some.injEq, Addr.mk.injEq, and_true] at hgo
          obtain ⟨rfl, rfl⟩ := hgo
          have hz := hx.trans hy.a1
          replace r0 := hz.cell r0
          replace r1 := hz.cell r1
          replace r2 := hz.cell r2
          replace r3 := hz.cell r3
          replace r4 := hz.cell r4
          replace r5 := hz.cell r5
          replace r6 := hz.cell r6
          replace r7 := hz.cell r7
          have s0 := fun o => ((Ext.refl wr).alloc o).cell (hy.box (g := wo.heap.size) (i := 0) rfl rfl)
          have s1 := fun o => ((Ext.refl wr).alloc o).cell (hy.box (g := wo.heap.size) (i := 1) rfl rfl)
          have s2 := fun o => ((Ext.refl wr).alloc o).cell (hy.box (g := wo.heap.size) (i := 2) rfl rfl)
          have s3 := fun o => ((Ext.refl wr).alloc o).cell (hy.box (g := wo.heap.size) (i := 3) rfl rfl)
          have hxk := px_lt hkl
          rw [← hxk] at hr1
          have Hr := Lib.hid (And.intro (Hq.out.ext hy.a1) (hr1.ext hz)); clear hr1 hxk hz
          have HB := Lib.hid (And.intro (HS.out.1 i hil) (HS.out.1 k hkl))
          go_wp2_with fail
          refine Calls.mono (cmp_q _ _ (px l i) (px l k) _ (Hr.out.1.ext ((Ext.refl _).alloc _)) (Hr.out.2.ext ((Ext.refl _).alloc _)) (by have := HB.out; omega)) ?_
          rintro e w2 ⟨r, rfl, rfl, hx2⟩
          replace hy := hy.trans hx2.a1
          clear hx2 s0 s1 s2 s3 r0 r1 r2 r3 r4 r5 r6 r7 Hr
          by_cases heq : px l i = px l k
          · have hb := sgn_sub_b1 heq
            have Heq := Lib.hid heq; clear heq
            go_wp2
            go_ret2
            exact Gives.mk (.inr ⟨fun ha => ha i k hil hki Heq.out, rfl⟩) (hx.trans hy.a1)
          · have hb := sgn_sub_b0 heq
            have Heq := Lib.hid heq; clear heq
            go_wp2
            go_roundw
            case rel => exact ⟨k + 1, by omega, by go_num, fun j hj => by
              rcases Nat.lt_or_ge j k with h | h
              · exact Hne.out j h
              · obtain rfl : j = k := by omega
                exact Heq.out, hy⟩
            case measure => simp [intOf] <;> omega
        · obtain rfl : k = i := by omega
          go_wp2
          go_roundw
          case rel => exact ⟨k + 1, by omega, by go_num, Hap.out.step Hne.out, hx.trans hy.a1⟩
          case measure => simp [intOf] <;> omega
    · obtain rfl : i = l.length := by omega
      go_wp2_with fail
      refine Calls.mono (of_q 1 _ (by omega) (by omega)) ?_
      rintro e w1 ⟨r1, rfl, h1, hx1⟩
      obtain ⟨b5, A5, n5, c5, b6, A6, n6, c6, rfl⟩ := h1.cells
      have hp := IsP.single (a := ((1 : Int) : Rat)) (OwnQ.row (NewQ.own (NewQ.mk h1 (base := 0) (Nat.zero_le _) 40))) (by decide)
      have Hp0 := Lib.hid hp; clear hp h1
      replace hx := (hx.trans hx1).alloc (.cells #[.bool b5, .slice A5 n5 c5, .bool b6, .slice A6 n6 c6] 40)
      go_wp2
      go_loopw [8, 9, 44] (fun fv bv kv wx => ∃ k : Nat, k ≤ l.length ∧ kv = .int .i64 k ∧ IsP 0 wx fv (lgs (px l) (py l) k k) ∧ IsP 0 wx bv (nbs (px l) k) ∧ Ext w wx) (fun _ _ kv _ => l.length - (intOf kv).toNat)
      case atStart => exact ⟨0, by omega, rfl, IsP.nil _ _, Hp0.out, hx⟩
      case round =>
        clear hx hx1 Hp0
        obtain ⟨k, hk, rfl, hf, hb, hx⟩ := hrel
        have Hf := Lib.hid (And.intro hf hb); clear hf hb
        by_cases hkl : k < l.length
        · obtain ⟨g, o, b1, A1, n1, c1, b2, A2, n2, c2, b3, A3, n3, c3, b4, A4, n4, c4, rfl, q0, q1, q2, q3, q4, q5, q6, q7, hq1, hq2⟩ := HA.out.at_ hkl
          have hxi := px_lt hkl
          have hyi := py_lt hkl
          rw [← hxi] at hq1
          rw [← hyi] at hq2
          clear hxi hyi
          replace q0 := hx.cell q0
          replace q1 := hx.cell q1
          replace q2 := hx.cell q2
          replace q3 := hx.cell q3
          replace q4 := hx.cell q4
          replace q5 := hx.cell q5
          replace q6 := hx.cell q6
          replace q7 := hx.cell q7
          have Hq := Lib.hid (And.intro (hq1.ext hx) (hq2.ext hx)); clear hq1 hq2
          have HB := Lib.hid (And.intro (HS.out.1 k hkl) (HS.out.2 k hkl))
          have hap : Apart (px l) (k + 1) := fun i j hi hj => Hap.out i j (by omega) hj
          have hstep := nw_step (Y := py l) hap
          have hroom := nw_room (X := px l) (Y := py l) (k := k) (by omega) (fun i hi => HS.out.1 i (by omega)) (fun i hi => HS.out.2 i (by omega))
          have hpl1 := pl_le (lgs_sup (px l) (py l) k k (Nat.le_refl _))
          have hpl2 := pl_le (nbs_sup (px l) k)
          obtain ⟨c0, hc0⟩ : ∃ c0, c0 = nwc (px l) (py l) k := ⟨_, rfl⟩
          have HN := Lib.hid (And.intro hc0 (And.intro hstep (And.intro hroom (And.intro hpl1 hpl2)))); clear hc0 hap hstep hroom hpl1 hpl2
          go_wp2
          obtain ⟨W9, eW9, e9, x9⟩ := Box.made wr 57 #[.bool b1, .slice A1 n1 c1, .bool b2, .slice A2 n2 c2, .bool b3, .slice A3 n3 c3, .bool b4, .slice A4 n4 c4] (by simp [isDig])
          rw [← eW9]
          clear eW9 q0 q1 q2 q3 q4 q5 q6 q7
          replace hx := hx.trans x9
          have Hq' := Lib.hid (And.intro (Hq.out.1.ext x9) (Hq.out.2.ext x9))
          have Hf' := Lib.hid (And.intro (Hf.out.1.ext x9) (Hf.out.2.ext x9))
          clear Hq Hf x9
          generalize wr.heap.size = gp at e9 ⊢
          have s0 := e9.cell (i := 0) rfl
          have s1 := e9.cell (i := 1) rfl
          have s2 := e9.cell (i := 2) rfl
          have s3 := e9.cell (i := 3) rfl
          have s4 := e9.cell (i := 4) rfl
          have s5 := e9.cell (i := 5) rfl
          have s6 := e9.cell (i := 6) rfl
          have s7 := e9.cell (i := 7) rfl
          clear e9
          go_cut [12] (fun pv wy => ∃ gc, pv = .pointer (some ⟨gc, 0, none⟩) ∧ BoxQ wy gc 40 c0 ∧ Ext W9 wy)
          case first =>
            refine wp_region_late (k := 16) (ℓ := 14) (nl := 1) (D := [49, 50, 51, 52, 53, 54, 55, 56, 57, 58, 59, 60, 48, 61, 62, 12]) (T := [[], [0], [], [], [3], [2, 3, 4], [0, 1, 2, 3, 4, 5], [], [], [8], [0, 1, 2, 3, 4, 5, 6, 7, 8, 9], [0, 1, 2, 3, 4, 5, 6, 7, 8, 9, 10], [0, 1, 2, 3, 4, 5, 6, 7, 8, 9, 10, 11], [0, 1, 2, 3, 4, 5, 6, 7, 8, 9, 10, 11, 12], [0, 1, 2, 3, 4, 5, 6, 7, 8, 9, 10, 11, 12], [], [0, 1, 2, 3, 4, 5, 6, 7, 8, 9, 10, 11, 12, 13, 15], [0, 1, 2, 3, 4, 5, 6, 7, 8, 9, 10, 11, 12, 13, 14, 15, 16]]) (EK := [11, 8, 9]) (EV := [?e1x0, ?e1x1, ?e1x2]) (VL := [(kv ?v1x0), (kv ?v1x1), (kv ?v1x2), (kv ?v1x3), (kv ?v1x4), (fun γ => γ 5), (fun γ => γ 6), (kv ?v1x7), (kv ?v1x8), (kv ?v1x9), (fun γ => γ 10), (fun γ => γ 11), (fun γ => γ 11), (fun γ => γ 13), (kv ?v1x14), (fun γ => γ 15)]) (FL := fun γ w' => [True, True, True, True, True, IsQ w' (γ 5) (ev (lgs (px l) (py l) k k) (px l k)), IsQ w' (γ 6) (py l k - ev (lgs (px l) (py l) k k) (px l k)), True, True, True, IsQ w' (γ 10) (ev (nbs (px l) k) (px l k)), TupQ w' (γ 11) c0, True, IsQ w' (γ 13) c0, True, NewAt w' (γ 15) W9.heap.size #[.bool false, .slice none 0 0, .bool false, .slice none 0 0] 40]) _ rfl ?hE1 (by kernel_rfl) (by kernel_rfl) (by kernel_rfl) (by kernel_rfl) (by kernel_rfl) (by rfl) (by kernel_rfl) ?hloc1 ?hmono1 ?hstep1 ?htail1 ?hlate1
            case hE1 => refine ⟨?_, ?_, ?_, trivial⟩ <;> (simp only [List.getElem?_toArray, List.getElem?_cons_succ, List.getElem?_cons_zero]; rfl)
            case hstep1 =>
              refine ⟨⟨⟨⟨⟨⟨⟨⟨⟨⟨⟨⟨⟨⟨⟨⟨trivial, ?_⟩, ?_⟩, ?_⟩, ?_⟩, ?_⟩, ?_⟩, ?_⟩, ?_⟩, ?_⟩, ?_⟩, ?_⟩, ?_⟩, ?_⟩, ?_⟩, ?_⟩, ?_⟩
              · intro γ w' he hf; clear hf; refine ⟨trivial, ?_⟩; intro R hR
                have hc := he.cells
                go_simp
                (try go_ints); (try (rw [if_neg (by omega)])); (try (rw [if_pos (by omega)])); (try go_simp); (try go_ints)
                refine hR _ _ (Ext.refl _) ?_ trivial
                rfl
              · intro γ w' he hf; clear hf; refine ⟨trivial, ?_⟩; intro R hR
                have hc := he.cells
                have cq0 := he.cell s0
                have cq1 := he.cell s1
                have cq2 := he.cell s2
                have cq3 := he.cell s3
                have cq4 := he.cell s4
                have cq5 := he.cell s5
                have cq6 := he.cell s6
                have cq7 := he.cell s7
                go_simp
                (try go_ints); (try (rw [if_neg (by omega)])); (try (rw [if_pos (by omega)])); (try go_simp); (try go_ints)
                refine hR _ _ (Ext.refl _) ?_ trivial
                rfl
              · intro γ w' he hf; clear hf; refine ⟨trivial, ?_⟩; intro R hR
                have hc := he.cells
                go_simp
                (try go_ints); (try (rw [if_neg (by omega)])); (try (rw [if_pos (by omega)])); (try go_simp); (try go_ints)
                refine hR _ _ (Ext.refl _) ?_ trivial
                rfl
              · intro γ w' he hf; clear hf; refine ⟨trivial, ?_⟩; intro R hR
                have hc := he.cells
                go_simp
                (try go_ints); (try (rw [if_neg (by omega)])); (try (rw [if_pos (by omega)])); (try go_simp); (try go_ints)
                refine hR _ _ (Ext.refl _) ?_ trivial
                rfl
              · intro γ w' he hf; clear hf; refine ⟨trivial, ?_⟩; intro R hR
                have hc := he.cells
                have cq0 := he.cell s0
                have cq1 := he.cell s1
                have cq2 := he.cell s2
                have cq3 := he.cell s3
                have cq4 := he.cell s4
                have cq5 := he.cell s5
                have cq6 := he.cell s6
                have cq7 := he.cell s7
                go_simp
                (try go_ints); (try (rw [if_neg (by omega)])); (try (rw [if_pos (by omega)])); (try go_simp); (try go_ints)
                refine hR _ _ (Ext.refl _) ?_ trivial
                rfl
              · intro γ w' he hf; clear hf; refine ⟨trivial, ?_⟩; intro R hR
                go_simp
                refine Calls.mono (show Calls _ _ _ w' (Gives w' fun r w'' => IsQ w'' (r) (ev (lgs (px l) (py l) k k) (px l k))) from eval_qP _ _ _ _ 15133 2 12 w' (Hf'.out.1.ext he) (Hq'.out.1.ext he) (fun j => HN.out.2.2.1.1.elem j) HB.out.1 (by have := HN.out.2.2.2.1; omega) (by omega) (by omega)) ?_
                rintro e w2 ⟨v, rfl, hv, hx⟩
                exact ⟨v, rfl, hR v w2 hx rfl hv⟩
              · intro γ w' he hf; have f5 : IsQ w' (γ 5) (ev (lgs (px l) (py l) k k) (px l k)) := hf 5 (by decide); clear hf; refine ⟨trivial, ?_⟩; intro R hR
                go_simp
                refine Calls.mono (show Calls _ _ _ w' (Gives w' fun r w'' => IsQ w'' (r) (py l k - ev (lgs (px l) (py l) k k) (px l k))) from sub_q _ _ _ _ w' (Hq'.out.2.ext he) (f5.has (by have := HN.out.2.2.1.2.2.1; omega))) ?_
                rintro e w2 ⟨v, rfl, hv, hx⟩
                exact ⟨v, rfl, hR v w2 hx rfl hv⟩
              · intro γ w' he hf; clear hf; refine ⟨trivial, ?_⟩; intro R hR
                have hc := he.cells
                go_simp
                (try go_ints); (try (rw [if_neg (by omega)])); (try (rw [if_pos (by omega)])); (try go_simp); (try go_ints)
                refine hR _ _ (Ext.refl _) ?_ trivial
                rfl
              · intro γ w' he hf; clear hf; refine ⟨trivial, ?_⟩; intro R hR
                have hc := he.cells
                go_simp
                (try go_ints); (try (rw [if_neg (by omega)])); (try (rw [if_pos (by omega)])); (try go_simp); (try go_ints)
                refine hR _ _ (Ext.refl _) ?_ trivial
                rfl
              · intro γ w' he hf; clear hf; refine ⟨trivial, ?_⟩; intro R hR
                have hc := he.cells
                have cq0 := he.cell s0
                have cq1 := he.cell s1
                have cq2 := he.cell s2
                have cq3 := he.cell s3
                have cq4 := he.cell s4
                have cq5 := he.cell s5
                have cq6 := he.cell s6
                have cq7 := he.cell s7
                go_simp
                (try go_ints); (try (rw [if_neg (by omega)])); (try (rw [if_pos (by omega)])); (try go_simp); (try go_ints)
                refine hR _ _ (Ext.refl _) ?_ trivial
                rfl
              · intro γ w' he hf; have f5 : IsQ w' (γ 5) (ev (lgs (px l) (py l) k k) (px l k)) := hf 5 (by decide); have f6 : IsQ w' (γ 6) (py l k - ev (lgs (px l) (py l) k k) (px l k)) := hf 6 (by decide); clear hf; refine ⟨trivial, ?_⟩; intro R hR
                go_simp
                refine Calls.mono (show Calls _ _ _ w' (Gives w' fun r w'' => IsQ w'' (r) (ev (nbs (px l) k) (px l k))) from eval_qP _ _ _ _ 87 2 13 w' (Hf'.out.2.ext he) (Hq'.out.1.ext he) (fun j => HN.out.2.2.1.2.1.elem j) HB.out.1 (by have := HN.out.2.2.2.2; omega) (by omega) (by omega)) ?_
                rintro e w2 ⟨v, rfl, hv, hx⟩
                exact ⟨v, rfl, hR v w2 hx rfl hv⟩
              · intro γ w' he hf; have f5 : IsQ w' (γ 5) (ev (lgs (px l) (py l) k k) (px l k)) := hf 5 (by decide); have f6 : IsQ w' (γ 6) (py l k - ev (lgs (px l) (py l) k k) (px l k)) := hf 6 (by decide); have f10 : IsQ w' (γ 10) (ev (nbs (px l) k) (px l k)) := hf 10 (by decide); clear hf; refine ⟨trivial, ?_⟩; intro R hR
                go_simp
                refine Calls.mono (show Calls _ _ _ w' (Gives w' fun r w'' => TupQ w'' (r) c0) from HN.out.1 ▸ quo_q _ _ _ _ w' (f6.has (by have h1 := HN.out.2.2.1.2.2.1; have h2 := HB.out.2; have h3 := qsz_sub (py l k) (ev (lgs (px l) (py l) k k) (px l k)); omega)) (f10.has (by have := HN.out.2.2.1.2.2.2.1; omega)) HN.out.2.1.2) ?_
                rintro e w2 ⟨v, rfl, hv, hx⟩
                exact ⟨v, rfl, hR v w2 hx rfl hv⟩
              · intro γ w' he hf; have f5 : IsQ w' (γ 5) (ev (lgs (px l) (py l) k k) (px l k)) := hf 5 (by decide); have f6 : IsQ w' (γ 6) (py l k - ev (lgs (px l) (py l) k k) (px l k)) := hf 6 (by decide); have f10 : IsQ w' (γ 10) (ev (nbs (px l) k) (px l k)) := hf 10 (by decide); have f11 : TupQ w' (γ 11) c0 := hf 11 (by decide); clear hf; refine ⟨trivial, ?_⟩; intro R hR
                have hc := he.cells
                go_simp
                (try go_ints); (try (rw [if_neg (by omega)])); (try (rw [if_pos (by omega)])); (try go_simp); (try go_ints)
                refine hR _ _ (Ext.refl _) ?_ trivial
                rfl
              · intro γ w' he hf; have f5 : IsQ w' (γ 5) (ev (lgs (px l) (py l) k k) (px l k)) := hf 5 (by decide); have f6 : IsQ w' (γ 6) (py l k - ev (lgs (px l) (py l) k k) (px l k)) := hf 6 (by decide); have f10 : IsQ w' (γ 10) (ev (nbs (px l) k) (px l k)) := hf 10 (by decide); have f11 : TupQ w' (γ 11) c0 := hf 11 (by decide); clear hf; refine ⟨trivial, ?_⟩; intro R hR
                obtain ⟨a, e, ha⟩ := f11
                go_simp
                exact hR _ _ (Ext.refl _) rfl ha
              · intro γ w' he hf; have f5 : IsQ w' (γ 5) (ev (lgs (px l) (py l) k k) (px l k)) := hf 5 (by decide); have f6 : IsQ w' (γ 6) (py l k - ev (lgs (px l) (py l) k k) (px l k)) := hf 6 (by decide); have f10 : IsQ w' (γ 10) (ev (nbs (px l) k) (px l k)) := hf 10 (by decide); have f11 : TupQ w' (γ 11) c0 := hf 11 (by decide); clear hf; refine ⟨trivial, ?_⟩; intro R hR
                obtain ⟨a, e, ha⟩ := f11
                have hc := he.cells
                go_simp
                (try go_ints); (try (rw [if_neg (by omega)])); (try (rw [if_pos (by omega)])); (try go_simp); (try go_ints)
                refine hR _ _ (Ext.refl _) ?_ trivial
                rfl
              · intro γ w' he hf; clear hf; refine ⟨trivial, ?_⟩; intro R hR
                go_simp
                exact hR _ _ ((Ext.refl _).alloc _) rfl (NewAt.mk (Nat.le_trans (by simp) he.size) (by simp [isDig]))
            case hloc1 =>
              exact ⟨⟨⟨⟨⟨⟨⟨⟨⟨⟨⟨⟨⟨⟨⟨⟨trivial, (fun γ γ' h => ⟨rfl, fun _ => rfl⟩)⟩, (fun γ γ' h => ⟨rfl, fun _ => rfl⟩)⟩, (fun γ γ' h => ⟨rfl, fun _ => rfl⟩)⟩, (fun γ γ' h => ⟨rfl, fun _ => rfl⟩)⟩, (fun γ γ' h => ⟨rfl, fun _ => rfl⟩)⟩, (fun γ γ' h => ⟨h 5 rfl, fun w' => (congrArg (fun a => IsQ w' (a) (ev (lgs (px l) (py l) k k) (px l k))) (h 5 rfl))⟩)⟩, (fun γ γ' h => ⟨h 6 rfl, fun w' => (congrArg (fun a => IsQ w' (a) (py l k - ev (lgs (px l) (py l) k k) (px l k))) (h 6 rfl))⟩)⟩, (fun γ γ' h => ⟨rfl, fun _ => rfl⟩)⟩, (fun γ γ' h => ⟨rfl, fun _ => rfl⟩)⟩, (fun γ γ' h => ⟨rfl, fun _ => rfl⟩)⟩, (fun γ γ' h => ⟨h 10 rfl, fun w' => (congrArg (fun a => IsQ w' (a) (ev (nbs (px l) k) (px l k))) (h 10 rfl))⟩)⟩, (fun γ γ' h => ⟨h 11 rfl, fun w' => (congrArg (fun a => TupQ w' (a) c0) (h 11 rfl))⟩)⟩, (fun γ γ' h => ⟨(congrArg (fun a => a) (h 11 rfl)), fun _ => rfl⟩)⟩, (fun γ γ' h => ⟨h 13 rfl, fun w' => (congrArg (fun a => IsQ w' (a) c0) (h 13 rfl))⟩)⟩, (fun γ γ' h => ⟨rfl, fun _ => rfl⟩)⟩, (fun γ γ' h => ⟨h 15 rfl, fun w' => (congrArg (fun a => NewAt w' (a) W9.heap.size #[.bool false, .slice none 0 0, .bool false, .slice none 0 0] 40) (h 15 rfl))⟩)⟩
            case hmono1 =>
              exact ⟨⟨⟨⟨⟨⟨⟨⟨⟨⟨⟨⟨⟨⟨⟨⟨trivial, (fun γ wA w' e h => h)⟩, (fun γ wA w' e h => h)⟩, (fun γ wA w' e h => h)⟩, (fun γ wA w' e h => h)⟩, (fun γ wA w' e h => h)⟩, (fun γ wA w' e h => (show IsQ wA (γ 5) (ev (lgs (px l) (py l) k k) (px l k)) from h).ext e)⟩, (fun γ wA w' e h => (show IsQ wA (γ 6) (py l k - ev (lgs (px l) (py l) k k) (px l k)) from h).ext e)⟩, (fun γ wA w' e h => h)⟩, (fun γ wA w' e h => h)⟩, (fun γ wA w' e h => h)⟩, (fun γ wA w' e h => (show IsQ wA (γ 10) (ev (nbs (px l) k) (px l k)) from h).ext e)⟩, (fun γ wA w' e h => (show TupQ wA (γ 11) c0 from h).ext e)⟩, (fun γ wA w' e h => h)⟩, (fun γ w w' e h => IsQ.ext h e)⟩, (fun γ wA w' e h => h)⟩, (fun γ wA w' e h => (show NewAt wA (γ 15) W9.heap.size #[.bool false, .slice none 0 0, .bool false, .slice none 0 0] 40 from h).ext e)⟩
            case hlate1 =>
              intro γ w8 hx8 hF
              have p5 : IsQ w8 (γ 5) (ev (lgs (px l) (py l) k k) (px l k)) := (Each.get hF 5 (by decide)).resolve_left (by decide)
              have p6 : IsQ w8 (γ 6) (py l k - ev (lgs (px l) (py l) k k) (px l k)) := (Each.get hF 6 (by decide)).resolve_left (by decide)
              have p10 : IsQ w8 (γ 10) (ev (nbs (px l) k) (px l k)) := (Each.get hF 10 (by decide)).resolve_left (by decide)
              have p11 : TupQ w8 (γ 11) c0 := (Each.get hF 11 (by decide)).resolve_left (by decide)
              have p13 : IsQ w8 (γ 13) c0 := (Each.get hF 13 (by decide)).resolve_left (by decide)
              have p15 : NewAt w8 (γ 15) W9.heap.size #[.bool false, .slice none 0 0, .bool false, .slice none 0 0] 40 := (Each.get hF 15 (by decide)).resolve_left (by decide)
              clear hF
              simp only [fillAll, gV, kv, List.getD_cons_zero, List.getD_cons_succ, Act.put, List.setIfInBounds_toArray, List.set_cons_zero, List.set_cons_succ, List.toList_toArray, List.drop_succ_cons, List.drop_zero, List.drop_nil, Nat.zero_add, Nat.reduceAdd, lateP, Array.getD_eq_getD_getElem?, List.getElem?_toArray, List.getElem?_cons_succ, List.getElem?_cons_zero, Option.getD_some]
              generalize γ 5 = g5 at *
              generalize γ 6 = g6 at *
              generalize γ 10 = g10 at *
              generalize γ 11 = g11 at *
              generalize γ 13 = g13 at *
              generalize γ 15 = g15 at *
              clear γ
              obtain ⟨a11, rfl, -⟩ := p11
              obtain ⟨gc, rfl, hgc, ec⟩ := p15
              obtain ⟨b7, A7, n7, c7, b8, A8, n8, c8, rfl⟩ := p13.cells
              clear s0 s1 s2 s3 s4 s5 s6 s7 p5 p6 p10
              obtain ⟨cec0, cec1, cec2, cec3⟩ := ec.cells4
              have fec := ec.frozen
              go_wp2
              refine ⟨?_, trivial⟩
              go_wp2
              skip
              obtain ⟨W4, eW, ec', U⟩ := ec.put4 (.bool b7) (.slice A7 n7 c7) (.bool b8) (.slice A8 n8 c8) rfl rfl rfl rfl
              rw [← eW]
              clear eW ec
              replace p13 := p13.kd U.kd
              replace hx8 := U.from_ hx8 (by simp <;> omega)
              have ec := ec'
              clear U ec'
              go_meet
              case rel => exact ⟨gc, rfl, BoxQ.mk ec p13, hx8⟩
            intro γ w8 hx8 hF
            have p5 : IsQ w8 (γ 5) (ev (lgs (px l) (py l) k k) (px l k)) := Each.get hF 5 (by decide)
            have p6 : IsQ w8 (γ 6) (py l k - ev (lgs (px l) (py l) k k) (px l k)) := Each.get hF 6 (by decide)
            have p10 : IsQ w8 (γ 10) (ev (nbs (px l) k) (px l k)) := Each.get hF 10 (by decide)
            have p11 : TupQ w8 (γ 11) c0 := Each.get hF 11 (by decide)
            have p13 : IsQ w8 (γ 13) c0 := Each.get hF 13 (by decide)
            have p15 : NewAt w8 (γ 15) W9.heap.size #[.bool false, .slice none 0 0, .bool false, .slice none 0 0] 40 := Each.get hF 15 (by decide)
            clear hF
            simp only [fillAll, gV, kv, List.getD_cons_zero, List.getD_cons_succ, Act.put, List.setIfInBounds_toArray, List.set_cons_zero, List.set_cons_succ, List.toList_toArray, List.drop_succ_cons, List.drop_zero, List.drop_nil, Nat.zero_add, Nat.reduceAdd]
            generalize γ 5 = g5 at *
            generalize γ 6 = g6 at *
            generalize γ 10 = g10 at *
            generalize γ 11 = g11 at *
            generalize γ 13 = g13 at *
            generalize γ 15 = g15 at *
            clear γ
            obtain ⟨a11, rfl, -⟩ := p11
            obtain ⟨gc, rfl, hgc, ec⟩ := p15
            obtain ⟨b7, A7, n7, c7, b8, A8, n8, c8, rfl⟩ := p13.cells
            clear s0 s1 s2 s3 s4 s5 s6 s7 p5 p6 p10
            obtain ⟨cec0, cec1, cec2, cec3⟩ := ec.cells4
            have fec := ec.frozen
            go_wp2
            skip
            obtain ⟨W4, eW, ec', U⟩ := ec.put4 (.bool b7) (.slice A7 n7 c7) (.bool b8) (.slice A8 n8 c8) rfl rfl rfl rfl
            rw [← eW]
            clear eW ec
            replace p13 := p13.kd U.kd
            replace hx8 := U.from_ hx8 (by simp <;> omega)
            have ec := ec'
            clear U ec'
            go_meet
            case rel => exact ⟨gc, rfl, BoxQ.mk ec p13, hx8⟩
          case rest =>
            obtain ⟨gc, rfl, ⟨b7, A7, n7, c7, b8, A8, n8, c8, ec, hq⟩, hy⟩ := hcut
            have hcz : qsz c0 ≤ 182718 := by rw [HN.out.1]; exact HN.out.2.2.1.2.2.2.2
            have Hqq := Lib.hid (hq.has (show qsz c0 ≤ 274877906944 by omega)); clear hq
            replace s0 := hy.cell s0
            replace s1 := hy.cell s1
            replace s2 := hy.cell s2
            replace s3 := hy.cell s3
            clear s4 s5 s6 s7
            obtain ⟨cec0, cec1, cec2, cec3⟩ := ec.cells4
            have fec := ec.frozen
            go_wp2_with fail
            refine Calls.mono (scale_pP _ _ (nbs (px l) k) c0 _ (Hf'.out.2.ext hy) Hqq.out (fun j => by have := HN.out.2.2.1.2.1.elem j; omega) (by have := HN.out.2.2.2.2; omega)) ?_
            rintro e w3 ⟨r3, rfl, h3, hx3⟩
            have H3 := Lib.hid (h3.base_le (Nat.zero_le _)); clear h3
            have hz := hy.trans hx3
            go_wp2_with fail
            refine Calls.mono (add_pP _ _ (lgs (px l) (py l) k k) (psc c0 (nbs (px l) k)) _ (Hf'.out.1.ext hz) H3.out (fun j => by have := HN.out.2.2.1.1.elem j; omega) (fun j => by have h1 := qsz_mul c0 (nbs (px l) k j); have h2 := HN.out.2.2.1.2.1.elem j; show qsz (c0 * nbs (px l) k j) ≤ _; omega) (by have := HN.out.2.2.2.1; omega) (by have := pl_le ((nbs_sup (px l) k).psc c0); omega)) ?_
            rintro e w4 ⟨r4, rfl, h4, hx4⟩
            rw [HN.out.1, HN.out.2.1.1] at h4
            have H4 := Lib.hid (h4.base_le (Nat.zero_le _)); clear h4
            replace hx3 := hx3.trans hx4
            replace hz := hz.trans hx4
            replace s0 := hx3.cell s0
            replace s1 := hx3.cell s1
            replace s2 := hx3.cell s2
            replace s3 := hx3.cell s3
            clear hx3 hx4 H3 Hqq ec cec0 cec1 cec2 cec3 fec
            go_wp2_with fail
            refine Calls.mono (neg_q _ (px l k) _ (Hq'.out.1.ext hz)) ?_
            rintro e w5 ⟨r5, rfl, h5, hx5⟩
            obtain ⟨b9, A9, n9, c9, b10, A10, n10, c10, rfl⟩ := h5.cells
            have H5 := Lib.hid h5; clear h5
            clear s0 s1 s2 s3
            go_wp2_with fail
            refine Calls.mono (of_q 1 _ (by omega) (by omega)) ?_
            rintro e w6 ⟨r6, rfl, h6, hx6⟩
            obtain ⟨b11, A11, n11, c11, b12, A12, n12, c12, rfl⟩ := h6.cells
            have H6 := Lib.hid (lin_hs (two_qs (t := 40) (H5.out.ext hx6) h6) HB.out.1); clear h6
            have hu := (hx5.trans hx6).alloc (.cells #[.bool b9, .slice A9 n9 c9, .bool b10, .slice A10 n10 c10, .bool b11, .slice A11 n11 c11, .bool b12, .slice A12 n12 c12] 40)
            have H4' := Lib.hid (H4.out.ext hu)
            have Hb := Lib.hid (Hf'.out.2.ext (hz.trans hu))
            replace hx := hx.trans (hz.trans hu)
            clear hu hz hy hx5 hx6 H4 H5 Hf' Hq'
            go_wp2_with fail
            refine Calls.mono (mul_pP _ _ (nbs (px l) k) (lin (px l k)) 87 6 _ Hb.out H6.out.1 (fun j => HN.out.2.2.1.2.1.elem j) H6.out.2 (by have := HN.out.2.2.2.2; omega) (by have := pl_lin (px l k); omega) (by omega) (by omega) (by
              have h1 := HN.out.2.2.2.2
              have : (pl (nbs (px l) k) + 1) * (87 + 6 + 1) ≤ 14 * (87 + 6 + 1) := Nat.mul_le_mul_right _ (by omega)
              omega)) ?_
            rintro e w7 ⟨r7, rfl, h7, hx7⟩
            rw [← nbs_succ] at h7
            have H7 := Lib.hid (And.intro (H4'.out.ext hx7) (h7.base_le (Nat.zero_le _))); clear h7
            replace hx := hx.trans hx7
            clear hx7 H4' H6 Hb
            go_wp2
            go_roundw
            case rel => exact ⟨k + 1, by omega, by go_num, H7.out.1, H7.out.2, hx⟩
            case measure => simp [intOf] <;> omega
        · obtain rfl : k = l.length := by omega
          go_wp2
          go_ret2
          exact Gives.mk (.inl ⟨Hap.out, _, rfl, Hf.out.1⟩) hx
theorem interp_large (A : Option Addr) (n c : Nat) (w : World) (h1 : n ≤ c) (h2 : c ≤ 9223372036854775807) (h3 : 64 < n) :
    Calls Tryz.prog 35 #[.slice A n c] w (Gives w fun r w' => r = .tuple #[.slice none 0 0, .int .i64 7]) := by
  go_enter Tryz.func35, Tryz.ntmps35
  go_wp2
  go_ret2
  exact Gives.mk rfl (Ext.refl _)
end Go.Proofs.YtedoifjbgokmcaaGreat
namespace Go.Proofs.YtedoifjbgokmcaaGreat
open Go.RowKit Go.Hp
set_option maxRecDepth 20000 in
set_option maxHeartbeats 8000000 in
theorem interp_rp (v : Value) (l : List (Rat × Rat)) (w : World) (hv : PtsV w v l) (hn : l.length ≤ 12) (hX : ∀ i, i < l.length → qsz (px l i) ≤ 2) (hY : ∀ i, i < l.length → qsz (py l i) ≤ 2) :
    Calls Tryz.prog 36 #[v] w (Gives w fun r w' => IpOut l r w') := by
  obtain ⟨A, c, rfl, hl, hc, hA⟩ := hv.len
  clear hv
  have HA := Lib.hid hA; clear hA
  have HS := Lib.hid (And.intro hX hY); clear hX hY
  go_enter Tryz.func36, Tryz.ntmps36
  go_wp2
  go_loopw [4] (fun iv wr => ∃ i : Nat, i ≤ l.length ∧ iv = .int .i64 i ∧ Apart (px l) i ∧ Ext w wr) (fun iv _ => l.length - (intOf iv).toNat)
  case atStart => exact ⟨0, by omega, rfl, fun i k hi => by omega, Ext.refl _⟩
  case round =>
    obtain ⟨i, hi, rfl, hap, hx⟩ := hrel
    have Hap := Lib.hid hap; clear hap
    by_cases hil : i < l.length
    · obtain ⟨g, o, b1, A1, n1, c1, b2, A2, n2, c2, b3, A3, n3, c3, b4, A4, n4, c4, rfl, q0, q1, q2, q3, -, -, -, -, hq1, -⟩ := HA.out.at_ hil
      have Hq := Lib.hid hq1; clear hq1
      have Hx := Lib.hid hx; clear hx
      obtain ⟨wo, hwo⟩ : ∃ wo : World, wo = wr := ⟨_, rfl⟩
      subst hwo
      go_wp2
      go_loopw [5] (fun iv wx => ∃ k : Nat, k ≤ i ∧ iv = .int .i64 k ∧ (∀ j, j < k → px l i ≠ px l j) ∧ Ext w wx) (fun iv _ => i - (intOf iv).toNat)
      case atStart => exact ⟨0, by omega, rfl, fun j hj => by omega, Hx.out⟩
      case round =>
        obtain ⟨k, hk, rfl, hne, hx⟩ := hrel
        have Hne := Lib.hid hne; clear hne
        by_cases hki : k < i
        · have hkl : k < l.length := by omega
          obtain ⟨g', o', d1, B1, m1, e1, d2, B2, m2, e2, d3, B3, m3, e3, d4, B4, m4, e4, hgo, r0, r1, r2, r3, -, -, -, -, hr1, -⟩ := HA.out.at_ hkl
          simp only [Option.some.injEq, Addr.mk.injEq, and_true] at hgo
          obtain ⟨rfl, rfl⟩ := hgo
          replace r0 := hx.cell r0
          replace r1 := hx.cell r1
          replace r2 := hx.cell r2
          replace r3 := hx.cell r3
          have s0 := hx.cell q0
          have s1 := hx.cell q1
          have s2 := hx.cell q2
          have s3 := hx.cell q3
          have Hr := Lib.hid (And.intro (Hq.out.ext hx) (hr1.ext hx)); clear hr1
          have hxi := px_lt hil
          have hxk := px_lt hkl
          have HB := Lib.hid (show qsz (px l i) ≤ 2 ∧ qsz (px l k) ≤ 2 from ⟨HS.out.1 i hil, HS.out.1 k hkl⟩)
          rw [← hxi, ← hxk] at Hr
          have Hr' : Hid (HasQ _ _ (px l i) ∧ HasQ _ _ (px l k)) := Lib.hid Hr.out
          clear hxi hxk Hr
          go_wp2_with fail
          refine wp_region_par (k := 11) (D := [24, 25, 26, 27, 28, 29, 30, 31, 32, 33, 34]) (T := [[], [], [0, 1], [0, 1, 2], [0, 1, 2, 3], [], [], [5, 6], [5, 6, 7], [5, 6, 7, 8], [0, 1, 2, 3, 4, 5, 6, 7, 8, 9], [0, 1, 2, 3, 4, 5, 6, 7, 8, 9, 10]]) (EK := [0, 4, 5]) (EV := [?e1x0, ?e1x1, ?e1x2]) (VL := [(kv ?v1x0), (kv ?v1x1), (kv ?v1x2), (kv ?v1x3), (kv ?v1x4), (kv ?v1x5), (kv ?v1x6), (kv ?v1x7), (kv ?v1x8), (kv ?v1x9), (kv (.int .i64 (sgn (px l i - px l k))))]) (FL := fun γ w' => [True, True, True, True, True, True, True, True, True, True, True]) ?hE1 (by kernel_rfl) (by kernel_rfl) (by rfl) (by kernel_rfl) ?hloc1 ?hmono1 ?hstep1 ?htail1
          case hE1 => refine ⟨?_, ?_, ?_, trivial⟩ <;> (simp only [List.getElem?_toArray, List.getElem?_cons_succ, List.getElem?_cons_zero]; rfl)
          case hstep1 =>
            refine ⟨⟨⟨⟨⟨⟨⟨⟨⟨⟨⟨trivial, ?_⟩, ?_⟩, ?_⟩, ?_⟩, ?_⟩, ?_⟩, ?_⟩, ?_⟩, ?_⟩, ?_⟩, ?_⟩
            · intro γ w' he hf; clear hf; refine ⟨trivial, ?_⟩; intro R hR
              have hc := he.cells
              go_simp
              (try go_ints); (try (rw [if_neg (by omega)])); (try (rw [if_pos (by omega)])); (try go_simp); (try go_ints)
              refine hR _ _ (Ext.refl _) ?_ trivial
              rfl
            · intro γ w' he hf; clear hf; refine ⟨trivial, ?_⟩; intro R hR
              have hc := he.cells
              go_simp
              (try go_ints); (try (rw [if_neg (by omega)])); (try (rw [if_pos (by omega)])); (try go_simp); (try go_ints)
              refine hR _ _ (Ext.refl _) ?_ trivial
              rfl
            · intro γ w' he hf; clear hf; refine ⟨trivial, ?_⟩; intro R hR
              have hc := he.cells
              go_simp
              (try go_ints); (try (rw [if_neg (by omega)])); (try (rw [if_pos (by omega)])); (try go_simp); (try go_ints)
              refine hR _ _ (Ext.refl _) ?_ trivial
              rfl
            · intro γ w' he hf; clear hf; refine ⟨trivial, ?_⟩; intro R hR
              have hc := he.cells
              go_simp
              (try go_ints); (try (rw [if_neg (by omega)])); (try (rw [if_pos (by omega)])); (try go_simp); (try go_ints)
              refine hR _ _ (Ext.refl _) ?_ trivial
              rfl
            · intro γ w' he hf; clear hf; refine ⟨trivial, ?_⟩; intro R hR
              have hc := he.cells
              have cq0 := he.cell s0
              have cq1 := he.cell s1
              have cq2 := he.cell s2
              have cq3 := he.cell s3
              have cq4 := he.cell r0
              have cq5 := he.cell r1
              have cq6 := he.cell r2
              have cq7 := he.cell r3
              go_simp
              (try go_ints); (try (rw [if_neg (by omega)])); (try (rw [if_pos (by omega)])); (try go_simp); (try go_ints)
              refine hR _ _ (Ext.refl _) ?_ trivial
              rfl
            · intro γ w' he hf; clear hf; refine ⟨trivial, ?_⟩; intro R hR
              have hc := he.cells
              go_simp
              (try go_ints); (try (rw [if_neg (by omega)])); (try (rw [if_pos (by omega)])); (try go_simp); (try go_ints)
              refine hR _ _ (Ext.refl _) ?_ trivial
              rfl
            · intro γ w' he hf; clear hf; refine ⟨trivial, ?_⟩; intro R hR
              have hc := he.cells
              go_simp
              (try go_ints); (try (rw [if_neg (by omega)])); (try (rw [if_pos (by omega)])); (try go_simp); (try go_ints)
              refine hR _ _ (Ext.refl _) ?_ trivial
              rfl
            · intro γ w' he hf; clear hf; refine ⟨trivial, ?_⟩; intro R hR
              have hc := he.cells
              go_simp
              (try go_ints); (try (rw [if_neg (by omega)])); (try (rw [if_pos (by omega)])); (try go_simp); (try go_ints)
              refine hR _ _ (Ext.refl _) ?_ trivial
              rfl
            · intro γ w' he hf; clear hf; refine ⟨trivial, ?_⟩; intro R hR
              have hc := he.cells
              go_simp
              (try go_ints); (try (rw [if_neg (by omega)])); (try (rw [if_pos (by omega)])); (try go_simp); (try go_ints)
              refine hR _ _ (Ext.refl _) ?_ trivial
              rfl
            · intro γ w' he hf; clear hf; refine ⟨trivial, ?_⟩; intro R hR
              have hc := he.cells
              have cq0 := he.cell s0
              have cq1 := he.cell s1
              have cq2 := he.cell s2
              have cq3 := he.cell s3
              have cq4 := he.cell r0
              have cq5 := he.cell r1
              have cq6 := he.cell r2
              have cq7 := he.cell r3
              go_simp
              (try go_ints); (try (rw [if_neg (by omega)])); (try (rw [if_pos (by omega)])); (try go_simp); (try go_ints)
              refine hR _ _ (Ext.refl _) ?_ trivial
              rfl
            · intro γ w' he hf; clear hf; refine ⟨trivial, ?_⟩; intro R hR
              go_simp
              refine Calls.mono (show Calls _ _ _ w' (Gives w' fun r _ => r = .int .i64 (sgn (px l i - px l k))) from cmp_rq _ _ _ _ w' (Hr'.out.1.ext he) (Hr'.out.2.ext he) (by have := HB.out; omega)) ?_
              rintro e w2 ⟨v, rfl, rfl, hx⟩
              exact ⟨_, rfl, hR _ w2 hx rfl trivial⟩
          case hloc1 =>
            exact ⟨⟨⟨⟨⟨⟨⟨⟨⟨⟨⟨trivial, (fun γ γ' h => ⟨rfl, fun _ => rfl⟩)⟩, (fun γ γ' h => ⟨rfl, fun _ => rfl⟩)⟩, (fun γ γ' h => ⟨rfl, fun _ => rfl⟩)⟩, (fun γ γ' h => ⟨rfl, fun _ => rfl⟩)⟩, (fun γ γ' h => ⟨rfl, fun _ => rfl⟩)⟩, (fun γ γ' h => ⟨rfl, fun _ => rfl⟩)⟩, (fun γ γ' h => ⟨rfl, fun _ => rfl⟩)⟩, (fun γ γ' h => ⟨rfl, fun _ => rfl⟩)⟩, (fun γ γ' h => ⟨rfl, fun _ => rfl⟩)⟩, (fun γ γ' h => ⟨rfl, fun _ => rfl⟩)⟩, (fun γ γ' h => ⟨rfl, fun _ => rfl⟩)⟩
          case hmono1 =>
            exact ⟨⟨⟨⟨⟨⟨⟨⟨⟨⟨⟨trivial, (fun γ wA w' e h => h)⟩, (fun γ wA w' e h => h)⟩, (fun γ wA w' e h => h)⟩, (fun γ wA w' e h => h)⟩, (fun γ wA w' e h => h)⟩, (fun γ wA w' e h => h)⟩, (fun γ wA w' e h => h)⟩, (fun γ wA w' e h => h)⟩, (fun γ wA w' e h => h)⟩, (fun γ wA w' e h => h)⟩, (fun γ wA w' e h => h)⟩
          intro γ w1 hx1 hF
          clear hF
          simp only [fillAll, gV, kv, List.getD_cons_zero, List.getD_cons_succ, Act.put, List.setIfInBounds_toArray, List.set_cons_zero, List.set_cons_succ, List.toList_toArray, List.drop_succ_cons, List.drop_zero, List.drop_nil, Nat.zero_add, Nat.reduceAdd]
          clear γ
          clear s0 s1 s2 s3 r0 r1 r2 r3 Hr'
          by_cases heq : px l i = px l k
          · have hb := sgn_sub_b1 heq
            have Heq := Lib.hid heq; clear heq
            go_wp2
            go_ret2
            exact Gives.mk (.inr ⟨fun ha => ha i k hil hki Heq.out, rfl⟩) (hx.trans hx1)
          · have hb := sgn_sub_b0 heq
            have Heq := Lib.hid heq; clear heq
            go_wp2
            go_roundw
            case rel => exact ⟨k + 1, by omega, by go_num, fun j hj => by
              rcases Nat.lt_or_ge j k with h | h
              · exact Hne.out j h
              · obtain rfl : j = k := by omega
                exact Heq.out, hx.trans hx1⟩
            case measure => simp [intOf] <;> omega
        · obtain rfl : k = i := by omega
          go_wp2
          go_roundw
          case rel => exact ⟨k + 1, by omega, by go_num, Hap.out.step Hne.out, hx⟩
          case measure => simp [intOf] <;> omega
    · obtain rfl : i = l.length := by omega
      go_wp2
      go_loopw [6, 7] (fun ov iv wr => ∃ i : Nat, i ≤ l.length ∧ iv = .int .i64 i ∧ IsP 0 wr ov (lgs (px l) (py l) l.length i) ∧ Ext w wr) (fun _ iv _ => l.length - (intOf iv).toNat)
      case atStart => exact ⟨0, by omega, rfl, IsP.nil _ _, hx⟩
      case round =>
        clear hx
        obtain ⟨i, hi, rfl, ho, hx⟩ := hrel
        have Ho := Lib.hid ho; clear ho
        by_cases hil : i < l.length
        · obtain ⟨wo, hwo⟩ : ∃ wo : World, wo = wr := ⟨_, rfl⟩
          subst hwo
          go_wp2_with fail
          refine Calls.mono (of_rq 1 _ (by omega) (by omega)) ?_
          rintro e w1 ⟨r1, rfl, h1, hx1⟩
          obtain ⟨b5, A5, n5, c5, b6, A6, n6, c6, rfl⟩ := h1.cells
          have hp := IsP.single (a := ((1 : Int) : Rat)) (OwnQ.row (NewQ.own (NewQ.mk h1 (base := 0) (Nat.zero_le _) 40))) (by decide)
          have Hp0 := Lib.hid hp; clear hp h1
          go_wp2
          go_loopw [8, 9] (fun pv kv wx => ∃ k : Nat, k ≤ l.length ∧ kv = .int .i64 k ∧ IsP 0 wx pv (lgp (px l) i k) ∧ Ext wo wx) (fun _ kv _ => l.length - (intOf kv).toNat)
          case atStart => exact ⟨0, by omega, rfl, Hp0.out, hx1.alloc _⟩
          case round =>
            clear Hp0 hx1
            obtain ⟨k, hk, rfl, hp, hy⟩ := hrel
            have Hp := Lib.hid hp; clear hp
            by_cases hkl : k < l.length
            · by_cases hki : k = i
              · subst hki
                go_wp2
                go_roundw
                case rel => exact ⟨k + 1, by omega, by go_num, by rw [lgp_succ, if_pos rfl]; exact Hp.out, hy⟩
                case measure => simp [intOf] <;> omega
              · have hb : ((k : Int) != (i : Int)) = true := by simp; omega
                have Hki := Lib.hid hki; clear hki
                obtain ⟨g, o, d1, B1, m1, e1, d2, B2, m2, e2, d3, B3, m3, e3, d4, B4, m4, e4, rfl, r0, r1, r2, r3, -, -, -, -, hr1, -⟩ := HA.out.at_ hkl
                have hxk := px_lt hkl
                rw [← hxk] at hr1
                clear hxk
                have hz := hx.trans hy
                replace r0 := hz.cell r0
                replace r1 := hz.cell r1
                replace r2 := hz.cell r2
                replace r3 := hz.cell r3
                have Hr := Lib.hid (hr1.ext hz); clear hr1
                have HB := Lib.hid (show qsz (px l k) ≤ 2 from HS.out.1 k hkl)
                have HL := Lib.hid (And.intro (lgp_cd (X := px l) i k (fun j hj => HS.out.1 j (by omega)) (by omega)) (pl_le (lgp_sup (px l) i k).1))
                go_wp2_with fail
                refine Calls.mono (neg_rq _ (px l k) _ Hr.out) ?_
                rintro e w2 ⟨r2, rfl, h2, hx2⟩
                obtain ⟨b7, A7, n7, c7, b8, A8, n8, c8, rfl⟩ := h2.cells
                have H2 := Lib.hid h2; clear h2
                go_wp2_with fail
                refine Calls.mono (of_rq 1 _ (by omega) (by omega)) ?_
                rintro e w3 ⟨r3, rfl, h3, hx3⟩
                obtain ⟨b9, A9, n9, c9, b10, A10, n10, c10, rfl⟩ := h3.cells
                have H3 := Lib.hid (lin_hs (two_qs (t := 40) (H2.out.ext hx3) h3) HB.out); clear h3
                have Hp' := Lib.hid (Hp.out.ext ((hx2.trans hx3).alloc (.cells #[.bool b7, .slice A7 n7 c7, .bool b8, .slice A8 n8 c8, .bool b9, .slice A9 n9 c9, .bool b10, .slice A10 n10 c10] 40)))
                replace hy := (hy.trans (hx2.trans hx3)).alloc (.cells #[.bool b7, .slice A7 n7 c7, .bool b8, .slice A8 n8 c8, .bool b9, .slice A9 n9 c9, .bool b10, .slice A10 n10 c10] 40)
                clear hx2 hx3 H2 Hp Hr r0 r1 r2 r3
                go_wp2_with fail
                refine Calls.mono (mul_rP _ _ (lgp (px l) i k) (lin (px l k)) 87 6 _ Hp'.out H3.out.1 (fun j => by have := HL.out.1.elem j; omega) H3.out.2 (by have := HL.out.2; omega) (by have := pl_lin (px l k); omega) (by omega) (by omega) (by
                  have h1 := HL.out.2; have h2 := pl_lin (px l k)
                  have : (pl (lgp (px l) i k) + pl (lin (px l k))) * (87 + 6 + 1) ≤ 15 * (87 + 6 + 1) := Nat.mul_le_mul_right _ (by omega)
                  omega)) ?_
                rintro e w4 ⟨r4, rfl, h4, hx4⟩
                have H4 := Lib.hid (h4.base_le (Nat.zero_le _)); clear h4
                replace hy := hy.trans hx4
                clear hx4 Hp' H3
                go_wp2
                go_roundw
                case rel => exact ⟨k + 1, by omega, by go_num, by rw [lgp_succ, if_neg Hki.out]; exact H4.out, hy⟩
                case measure => simp [intOf] <;> omega
            · obtain rfl : k = l.length := by omega
              obtain ⟨g, o, b1, A1, n1, c1, b2, A2, n2, c2, b3, A3, n3, c3, b4, A4, n4, c4, rfl, q0, q1, q2, q3, q4, q5, q6, q7, hq1, hq2⟩ := HA.out.at_ hil
              have hxi := px_lt hil
              have hyi := py_lt hil
              rw [← hxi] at hq1
              rw [← hyi] at hq2
              clear hxi hyi
              have hz := hx.trans hy
              replace q0 := hz.cell q0
              replace q1 := hz.cell q1
              replace q2 := hz.cell q2
              replace q3 := hz.cell q3
              replace q4 := hz.cell q4
              replace q5 := hz.cell q5
              replace q6 := hz.cell q6
              replace q7 := hz.cell q7
              have Hq := Lib.hid (And.intro (hq1.ext hz) (hq2.ext hz)); clear hq1 hq2
              have HB := Lib.hid (And.intro (HS.out.1 i hil) (HS.out.2 i hil))
              have HL := Lib.hid (And.intro (lgt_cd (X := px l) (Y := py l) (n := l.length) hn HS.out.1 HS.out.2 hil) (And.intro (pl_le ((lgp_sup (px l) i l.length).2 hil)) (And.intro (lgs_cd (X := px l) (Y := py l) hn HS.out.1 HS.out.2 i hi) (pl_le (lgs_sup (px l) (py l) l.length i hi)))))
              have Ho' := Lib.hid (Ho.out.ext hy); clear Ho
              have hdv := qsz_div (py l i) (ev (lgp (px l) i l.length) (px l i))
              have HD := Lib.hid (show qsz (py l i / ev (lgp (px l) i l.length) (px l i)) ≤ 1173 by have := HL.out.1.2.1; have := HB.out.2; omega); clear hdv
              go_wp2_with fail
              refine wp_region_par (k := 17) (D := [63, 64, 65, 66, 67, 68, 69, 70, 71, 72, 73, 74, 75, 76, 77, 78, 79]) (T := [[], [], [], [], [2, 3], [2, 3, 4], [2, 3, 4, 5], [], [], [], [8, 9], [8, 9, 10], [8, 9, 10, 11], [7, 8, 9, 10, 11, 12], [2, 3, 4, 5, 6, 7, 8, 9, 10, 11, 12, 13], [1, 2, 3, 4, 5, 6, 7, 8, 9, 10, 11, 12, 13, 14], [0, 1, 2, 3, 4, 5, 6, 7, 8, 9, 10, 11, 12, 13, 14, 15], [0, 1, 2, 3, 4, 5, 6, 7, 8, 9, 10, 11, 12, 13, 14, 15, 16]]) (EK := [6, 8, 0, 7]) (EV := [?e2x0, ?e2x1, ?e2x2, ?e2x3]) (VL := [(kv ?v2x0), (kv ?v2x1), (kv ?v2x2), (kv ?v2x3), (kv ?v2x4), (kv ?v2x5), (kv ?v2x6), (kv ?v2x7), (kv ?v2x8), (kv ?v2x9), (kv ?v2x10), (kv ?v2x11), (kv ?v2x12), (fun γ => γ 13), (fun γ => γ 14), (fun γ => γ 15), (fun γ => γ 16)]) (FL := fun γ w' => [True, True, True, True, True, True, True, True, True, True, True, True, True, IsQ w' (γ 13) (ev (lgp (px l) i l.length) (px l i)), IsQ w' (γ 14) (py l i / ev (lgp (px l) i l.length) (px l i)), IsP 0 w' (γ 15) (lgt (px l) (py l) l.length i), IsP 0 w' (γ 16) (lgs (px l) (py l) l.length (i + 1))]) ?hE2 (by kernel_rfl) (by kernel_rfl) (by rfl) (by kernel_rfl) ?hloc2 ?hmono2 ?hstep2 ?htail2
              case hE2 => refine ⟨?_, ?_, ?_, ?_, trivial⟩ <;> (simp only [List.getElem?_toArray, List.getElem?_cons_succ, List.getElem?_cons_zero]; rfl)
              case hstep2 =>
                refine ⟨⟨⟨⟨⟨⟨⟨⟨⟨⟨⟨⟨⟨⟨⟨⟨⟨trivial, ?_⟩, ?_⟩, ?_⟩, ?_⟩, ?_⟩, ?_⟩, ?_⟩, ?_⟩, ?_⟩, ?_⟩, ?_⟩, ?_⟩, ?_⟩, ?_⟩, ?_⟩, ?_⟩, ?_⟩
                · intro γ w' he hf; clear hf; refine ⟨trivial, ?_⟩; intro R hR
                  have hc := he.cells
                  go_simp
                  (try go_ints); (try (rw [if_neg (by omega)])); (try (rw [if_pos (by omega)])); (try go_simp); (try go_ints)
                  refine hR _ _ (Ext.refl _) ?_ trivial
                  rfl
                · intro γ w' he hf; clear hf; refine ⟨trivial, ?_⟩; intro R hR
                  have hc := he.cells
                  go_simp
                  (try go_ints); (try (rw [if_neg (by omega)])); (try (rw [if_pos (by omega)])); (try go_simp); (try go_ints)
                  refine hR _ _ (Ext.refl _) ?_ trivial
                  rfl
                · intro γ w' he hf; clear hf; refine ⟨trivial, ?_⟩; intro R hR
                  have hc := he.cells
                  go_simp
                  (try go_ints); (try (rw [if_neg (by omega)])); (try (rw [if_pos (by omega)])); (try go_simp); (try go_ints)
                  refine hR _ _ (Ext.refl _) ?_ trivial
                  rfl
                · intro γ w' he hf; clear hf; refine ⟨trivial, ?_⟩; intro R hR
                  have hc := he.cells
                  go_simp
                  (try go_ints); (try (rw [if_neg (by omega)])); (try (rw [if_pos (by omega)])); (try go_simp); (try go_ints)
                  refine hR _ _ (Ext.refl _) ?_ trivial
                  rfl
                · intro γ w' he hf; clear hf; refine ⟨trivial, ?_⟩; intro R hR
                  have hc := he.cells
                  go_simp
                  (try go_ints); (try (rw [if_neg (by omega)])); (try (rw [if_pos (by omega)])); (try go_simp); (try go_ints)
                  refine hR _ _ (Ext.refl _) ?_ trivial
                  rfl
                · intro γ w' he hf; clear hf; refine ⟨trivial, ?_⟩; intro R hR
                  have hc := he.cells
                  go_simp
                  (try go_ints); (try (rw [if_neg (by omega)])); (try (rw [if_pos (by omega)])); (try go_simp); (try go_ints)
                  refine hR _ _ (Ext.refl _) ?_ trivial
                  rfl
                · intro γ w' he hf; clear hf; refine ⟨trivial, ?_⟩; intro R hR
                  have hc := he.cells
                  have cq0 := he.cell q0
                  have cq1 := he.cell q1
                  have cq2 := he.cell q2
                  have cq3 := he.cell q3
                  have cq4 := he.cell q4
                  have cq5 := he.cell q5
                  have cq6 := he.cell q6
                  have cq7 := he.cell q7
                  go_simp
                  (try go_ints); (try (rw [if_neg (by omega)])); (try (rw [if_pos (by omega)])); (try go_simp); (try go_ints)
                  refine hR _ _ (Ext.refl _) ?_ trivial
                  rfl
                · intro γ w' he hf; clear hf; refine ⟨trivial, ?_⟩; intro R hR
                  have hc := he.cells
                  go_simp
                  (try go_ints); (try (rw [if_neg (by omega)])); (try (rw [if_pos (by omega)])); (try go_simp); (try go_ints)
                  refine hR _ _ (Ext.refl _) ?_ trivial
                  rfl
                · intro γ w' he hf; clear hf; refine ⟨trivial, ?_⟩; intro R hR
                  have hc := he.cells
                  go_simp
                  (try go_ints); (try (rw [if_neg (by omega)])); (try (rw [if_pos (by omega)])); (try go_simp); (try go_ints)
                  refine hR _ _ (Ext.refl _) ?_ trivial
                  rfl
                · intro γ w' he hf; clear hf; refine ⟨trivial, ?_⟩; intro R hR
                  have hc := he.cells
                  go_simp
                  (try go_ints); (try (rw [if_neg (by omega)])); (try (rw [if_pos (by omega)])); (try go_simp); (try go_ints)
                  refine hR _ _ (Ext.refl _) ?_ trivial
                  rfl
                · intro γ w' he hf; clear hf; refine ⟨trivial, ?_⟩; intro R hR
                  have hc := he.cells
                  go_simp
                  (try go_ints); (try (rw [if_neg (by omega)])); (try (rw [if_pos (by omega)])); (try go_simp); (try go_ints)
                  refine hR _ _ (Ext.refl _) ?_ trivial
                  rfl
                · intro γ w' he hf; clear hf; refine ⟨trivial, ?_⟩; intro R hR
                  have hc := he.cells
                  go_simp
                  (try go_ints); (try (rw [if_neg (by omega)])); (try (rw [if_pos (by omega)])); (try go_simp); (try go_ints)
                  refine hR _ _ (Ext.refl _) ?_ trivial
                  rfl
                · intro γ w' he hf; clear hf; refine ⟨trivial, ?_⟩; intro R hR
                  have hc := he.cells
                  have cq0 := he.cell q0
                  have cq1 := he.cell q1
                  have cq2 := he.cell q2
                  have cq3 := he.cell q3
                  have cq4 := he.cell q4
                  have cq5 := he.cell q5
                  have cq6 := he.cell q6
                  have cq7 := he.cell q7
                  go_simp
                  (try go_ints); (try (rw [if_neg (by omega)])); (try (rw [if_pos (by omega)])); (try go_simp); (try go_ints)
                  refine hR _ _ (Ext.refl _) ?_ trivial
                  rfl
                · intro γ w' he hf; clear hf; refine ⟨trivial, ?_⟩; intro R hR
                  go_simp
                  refine Calls.mono (show Calls _ _ _ w' (Gives w' fun r w'' => IsQ w'' (r) (ev (lgp (px l) i l.length) (px l i))) from eval_rP _ _ _ _ 87 2 12 w' (Hp.out.ext he) (Hq.out.1.ext he) (fun j => HL.out.1.2.2.elem j) HB.out.1 (by have := HL.out.2.1; omega) (by omega) (by omega)) ?_
                  rintro e w2 ⟨v, rfl, hv, hx⟩
                  exact ⟨v, rfl, hR v w2 hx rfl hv⟩
                · intro γ w' he hf; have f13 : IsQ w' (γ 13) (ev (lgp (px l) i l.length) (px l i)) := hf 13 (by decide); clear hf; refine ⟨trivial, ?_⟩; intro R hR
                  go_simp
                  refine Calls.mono (show Calls _ _ _ w' (Gives w' fun r w'' => IsQ w'' (r) (py l i / ev (lgp (px l) i l.length) (px l i))) from ratio_rq _ _ _ _ w' (Hq.out.2.ext he) (f13.has (by have := HL.out.1.2.1; omega))) ?_
                  rintro e w2 ⟨v, rfl, hv, hx⟩
                  exact ⟨v, rfl, hR v w2 hx rfl hv⟩
                · intro γ w' he hf; have f13 : IsQ w' (γ 13) (ev (lgp (px l) i l.length) (px l i)) := hf 13 (by decide); have f14 : IsQ w' (γ 14) (py l i / ev (lgp (px l) i l.length) (px l i)) := hf 14 (by decide); clear hf; refine ⟨trivial, ?_⟩; intro R hR
                  go_simp
                  refine Calls.mono (show Calls _ _ _ w' (Gives w' fun r w'' => IsP 0 w'' (r) (lgt (px l) (py l) l.length i)) from Gives.imp (scale_rP _ _ (lgp (px l) i l.length) (py l i / ev (lgp (px l) i l.length) (px l i)) 87 w' (Hp.out.ext he) (f14.has (by have := HD.out; omega)) (fun j => HL.out.1.2.2.elem j) (by have := HD.out; omega) (by have := HL.out.2.1; omega)) fun _ _ h => h.base_le (Nat.zero_le _)) ?_
                  rintro e w2 ⟨v, rfl, hv, hx⟩
                  exact ⟨v, rfl, hR v w2 hx rfl hv⟩
                · intro γ w' he hf; have f13 : IsQ w' (γ 13) (ev (lgp (px l) i l.length) (px l i)) := hf 13 (by decide); have f14 : IsQ w' (γ 14) (py l i / ev (lgp (px l) i l.length) (px l i)) := hf 14 (by decide); have f15 : IsP 0 w' (γ 15) (lgt (px l) (py l) l.length i) := hf 15 (by decide); clear hf; refine ⟨trivial, ?_⟩; intro R hR
                  go_simp
                  refine Calls.mono (show Calls _ _ _ w' (Gives w' fun r w'' => IsP 0 w'' (r) (lgs (px l) (py l) l.length (i + 1))) from Gives.imp (add_rP _ _ (lgs (px l) (py l) l.length i) (lgt (px l) (py l) l.length i) 20000 1260 w' (Ho'.out.ext he) f15 (fun j => by have h1 := HL.out.2.2.1.elem j; have : i * 1261 ≤ 12 * 1261 := Nat.mul_le_mul_right _ (by omega); omega) (fun j => HL.out.1.1.elem j) (by omega) (by have := HL.out.2.2.2; omega) (by have := pl_le (lgt_sup (px l) (py l) hil); omega)) fun _ _ h => h.base_le (Nat.zero_le _)) ?_
                  rintro e w2 ⟨v, rfl, hv, hx⟩
                  exact ⟨v, rfl, hR v w2 hx rfl hv⟩
              case hloc2 =>
                exact ⟨⟨⟨⟨⟨⟨⟨⟨⟨⟨⟨⟨⟨⟨⟨⟨⟨trivial, (fun γ γ' h => ⟨rfl, fun _ => rfl⟩)⟩, (fun γ γ' h => ⟨rfl, fun _ => rfl⟩)⟩, (fun γ γ' h => ⟨rfl, fun _ => rfl⟩)⟩, (fun γ γ' h => ⟨rfl, fun _ => rfl⟩)⟩, (fun γ γ' h => ⟨rfl, fun _ => rfl⟩)⟩, (fun γ γ' h => ⟨rfl, fun _ => rfl⟩)⟩, (fun γ γ' h => ⟨rfl, fun _ => rfl⟩)⟩, (fun γ γ' h => ⟨rfl, fun _ => rfl⟩)⟩, (fun γ γ' h => ⟨rfl, fun _ => rfl⟩)⟩, (fun γ γ' h => ⟨rfl, fun _ => rfl⟩)⟩, (fun γ γ' h => ⟨rfl, fun _ => rfl⟩)⟩, (fun γ γ' h => ⟨rfl, fun _ => rfl⟩)⟩, (fun γ γ' h => ⟨rfl, fun _ => rfl⟩)⟩, (fun γ γ' h => ⟨h 13 rfl, fun w' => (congrArg (fun a => IsQ w' (a) (ev (lgp (px l) i l.length) (px l i))) (h 13 rfl))⟩)⟩, (fun γ γ' h => ⟨h 14 rfl, fun w' => (congrArg (fun a => IsQ w' (a) (py l i / ev (lgp (px l) i l.length) (px l i))) (h 14 rfl))⟩)⟩, (fun γ γ' h => ⟨h 15 rfl, fun w' => (congrArg (fun a => IsP 0 w' (a) (lgt (px l) (py l) l.length i)) (h 15 rfl))⟩)⟩, (fun γ γ' h => ⟨h 16 rfl, fun w' => (congrArg (fun a => IsP 0 w' (a) (lgs (px l) (py l) l.length (i + 1))) (h 16 rfl))⟩)⟩
              case hmono2 =>
                exact ⟨⟨⟨⟨⟨⟨⟨⟨⟨⟨⟨⟨⟨⟨⟨⟨⟨trivial, (fun γ wA w' e h => h)⟩, (fun γ wA w' e h => h)⟩, (fun γ wA w' e h => h)⟩, (fun γ wA w' e h => h)⟩, (fun γ wA w' e h => h)⟩, (fun γ wA w' e h => h)⟩, (fun γ wA w' e h => h)⟩, (fun γ wA w' e h => h)⟩, (fun γ wA w' e h => h)⟩, (fun γ wA w' e h => h)⟩, (fun γ wA w' e h => h)⟩, (fun γ wA w' e h => h)⟩, (fun γ wA w' e h => h)⟩, (fun γ wA w' e h => (show IsQ wA (γ 13) (ev (lgp (px l) i l.length) (px l i)) from h).ext e)⟩, (fun γ wA w' e h => (show IsQ wA (γ 14) (py l i / ev (lgp (px l) i l.length) (px l i)) from h).ext e)⟩, (fun γ wA w' e h => (show IsP 0 wA (γ 15) (lgt (px l) (py l) l.length i) from h).ext e)⟩, (fun γ wA w' e h => (show IsP 0 wA (γ 16) (lgs (px l) (py l) l.length (i + 1)) from h).ext e)⟩
              intro γ w5 hx5 hF
              have p13 : IsQ w5 (γ 13) (ev (lgp (px l) i l.length) (px l i)) := Each.get hF 13 (by decide)
              have p14 : IsQ w5 (γ 14) (py l i / ev (lgp (px l) i l.length) (px l i)) := Each.get hF 14 (by decide)
              have p15 : IsP 0 w5 (γ 15) (lgt (px l) (py l) l.length i) := Each.get hF 15 (by decide)
              have p16 : IsP 0 w5 (γ 16) (lgs (px l) (py l) l.length (i + 1)) := Each.get hF 16 (by decide)
              clear hF
              simp only [fillAll, gV, kv, List.getD_cons_zero, List.getD_cons_succ, Act.put, List.setIfInBounds_toArray, List.set_cons_zero, List.set_cons_succ, List.toList_toArray, List.drop_succ_cons, List.drop_zero, List.drop_nil, Nat.zero_add, Nat.reduceAdd]
              generalize γ 13 = g13 at *
              generalize γ 14 = g14 at *
              generalize γ 15 = g15 at *
              generalize γ 16 = g16 at *
              clear γ
              have H16 := Lib.hid p16
              clear p13 p14 p15 p16 q0 q1 q2 q3 q4 q5 q6 q7 Hq Ho' Hp
              go_wp2
              go_roundw
              case rel => exact ⟨i + 1, by omega, by go_num, H16.out, (hx.trans hy).trans hx5⟩
              case measure => simp [intOf] <;> omega
        · obtain rfl : i = l.length := by omega
          go_wp2
          go_ret2
          exact Gives.mk (.inl ⟨Hap.out, _, rfl, Ho.out⟩) hx
end Go.Proofs.YtedoifjbgokmcaaGreat
namespace Go.Hp
open Go.RowKit
/-- A new slice of two fractions as they stand. -/
theorem polyV_two {w : World} {t : TypeId} {b1 b2 b3 b4 : Bool} {A1 A2 A3 A4 : Option Addr} {n1 c1 n2 c2 n3 c3 n4 c4 : Nat} {x y : Raw} (h : RawQ w (.agg #[.bool b1, .slice A1 n1 c1, .bool b2, .slice A2 n2 c2]) x) (k : RawQ w (.agg #[.bool b3, .slice A3 n3 c3, .bool b4, .slice A4 n4 c4]) y) {g : Nat} (hg : g = w.heap.size) :
    PolyV (w.alloc (.cells #[.bool b1, .slice A1 n1 c1, .bool b2, .slice A2 n2 c2, .bool b3, .slice A3 n3 c3, .bool b4, .slice A4 n4 c4] t)) (.slice (some ⟨g, 0, none⟩) 2 2) [x, y] := by
  subst hg
  have k1 := h.ext ((Ext.refl w).alloc (.cells #[.bool b1, .slice A1 n1 c1, .bool b2, .slice A2 n2 c2, .bool b3, .slice A3 n3 c3, .bool b4, .slice A4 n4 c4] t))
  have k2 := k.ext ((Ext.refl w).alloc (.cells #[.bool b1, .slice A1 n1 c1, .bool b2, .slice A2 n2 c2, .bool b3, .slice A3 n3 c3, .bool b4, .slice A4 n4 c4] t))
  refine ⟨_, 2, rfl, by simp, by omega, fun _ => ⟨w.heap.size, 0, rfl, Nat.zero_le _, fun j hj => ?_⟩⟩
  have hj2 : j < 2 := by simpa using hj
  match j, hj2 with
  | 0, _ => exact ⟨_, rfl, fun i hi => by
      rw [cell_of_row _ w.heap.size _ _ t (0, 0) (heap_alloc_new w _)]
      match i, hi with
      | 0, _ => rfl
      | 1, _ => rfl
      | 2, _ => rfl
      | 3, _ => rfl, k1⟩
  | 1, _ => exact ⟨_, rfl, fun i hi => by
      rw [cell_of_row _ w.heap.size _ _ t (0, 0) (heap_alloc_new w _)]
      match i, hi with
      | 0, _ => rfl
      | 1, _ => rfl
      | 2, _ => rfl
      | 3, _ => rfl, k2⟩
theorem PointsV.len {w : World} {v : Value} {l : List RawPt} (h : PointsV w v l) : ∃ A c, v = .slice A l.length c ∧ l.length ≤ c ∧ c ≤ 9223372036854775807 ∧ PointsAt w A l := h
theorem lgs_pl (X Y : Nat → Rat) (n : Nat) : pl (lgs X Y n n) ≤ n := pl_le (lgs_sup X Y n n (Nat.le_refl _))
end Go.Hp
namespace Go.Proofs.YtedoifjbgokmcaaGreat
open Go.RowKit Go.Hp
set_option maxRecDepth 20000 in
set_option maxHeartbeats 16000000 in
theorem interpolates_law (v0 : Value) (l : List RawPt) (w : World) (h0 : PointsV w v0 l) :
    Calls Tryz.prog 6 #[v0] w (Gives w fun r _ => r = .bool true) := by
  have H0 := Lib.hid h0
  obtain ⟨A0, c0, rfl, k1, k2, hA⟩ := h0.len
  have HA := Lib.hid hA
  clear h0 hA
  go_enter Tryz.func6, Tryz.ntmps6
  go_wp2_with fail
  refine Calls.mono (awake_b _) ?_
  rintro e w1 ⟨r, rfl, rfl, hx⟩
  go_wp2
  go_loopw [3] (fun iv wr => ∃ i : Nat, i ≤ l.length ∧ i ≤ 100 ∧ iv = .int .i64 i ∧ (∀ j (h : j < l.length), j < i → SmallP l[j]) ∧ Ext w wr) (fun iv _ => l.length - (intOf iv).toNat)
  case atStart => exact ⟨0, by omega, by omega, rfl, fun j h h' => by omega, hx⟩
  case round =>
    clear hx
    obtain ⟨i, hi, hi2, rfl, hsm, hx⟩ := hrel
    have Hsm := Lib.hid hsm; clear hsm
    by_cases hil : i < l.length
    · by_cases h100 : i < 100
      · obtain ⟨g, o, b1, A1, n1, c1, b2, A2, n2, c2, b3, A3, n3, c3, b4, A4, n4, c4, rfl, q0, q1, q2, q3, q4, q5, q6, q7, hq1, hq2⟩ := HA.out.at_ hil
        replace q0 := hx.cell q0
        replace q1 := hx.cell q1
        replace q2 := hx.cell q2
        replace q3 := hx.cell q3
        replace q4 := hx.cell q4
        replace q5 := hx.cell q5
        replace q6 := hx.cell q6
        replace q7 := hx.cell q7
        have Hq := Lib.hid (And.intro (hq1.ext hx) (hq2.ext hx)); clear hq1 hq2
        go_wp2_with fail
        refine wp_region_par (k := 10) (D := [21, 22, 23, 24, 25, 26, 27, 28, 29, 30]) (T := [[], [], [0, 1], [0, 1, 2], [0, 1, 2, 3], [], [], [5, 6], [5, 6, 7], [5, 6, 7, 8], [0, 1, 2, 3, 4, 5, 6, 7, 8, 9], [0, 1, 2, 3, 4, 5, 6, 7, 8, 9, 10], [0, 1, 2, 3, 4, 5, 6, 7, 8, 9, 10, 11]]) (EK := [0, 3]) (EV := [?e1x0, ?e1x1]) (VL := [(kv ?v1x0), (kv ?v1x1), (kv ?v1x2), (kv ?v1x3), (kv ?v1x4), (kv ?v1x5), (kv ?v1x6), (kv ?v1x7), (kv ?v1x8), (kv ?v1x9)]) (FL := fun γ w' => [True, True, True, True, True, True, True, True, True, True]) ?hE1 (by kernel_rfl) (by kernel_rfl) (by rfl) (by kernel_rfl) ?hloc1 ?hmono1 ?hstep1 ?htail1
        case hE1 => refine ⟨?_, ?_, trivial⟩ <;> (simp only [List.getElem?_toArray, List.getElem?_cons_succ, List.getElem?_cons_zero]; rfl)
        case hstep1 =>
          refine ⟨⟨⟨⟨⟨⟨⟨⟨⟨⟨trivial, ?_⟩, ?_⟩, ?_⟩, ?_⟩, ?_⟩, ?_⟩, ?_⟩, ?_⟩, ?_⟩, ?_⟩
          · intro γ w' he hf; clear hf; refine ⟨trivial, ?_⟩; intro R hR
            have hc := he.cells
            go_simp
            (try go_ints); (try (rw [if_neg (by omega)])); (try (rw [if_pos (by omega)])); (try go_simp); (try go_ints)
            refine hR _ _ (Ext.refl _) ?_ trivial
            rfl
          · intro γ w' he hf; clear hf; refine ⟨trivial, ?_⟩; intro R hR
            have hc := he.cells
            go_simp
            (try go_ints); (try (rw [if_neg (by omega)])); (try (rw [if_pos (by omega)])); (try go_simp); (try go_ints)
            refine hR _ _ (Ext.refl _) ?_ trivial
            rfl
          · intro γ w' he hf; clear hf; refine ⟨trivial, ?_⟩; intro R hR
            have hc := he.cells
            go_simp
            (try go_ints); (try (rw [if_neg (by omega)])); (try (rw [if_pos (by omega)])); (try go_simp); (try go_ints)
            refine hR _ _ (Ext.refl _) ?_ trivial
            rfl
          · intro γ w' he hf; clear hf; refine ⟨trivial, ?_⟩; intro R hR
            have hc := he.cells
            go_simp
            (try go_ints); (try (rw [if_neg (by omega)])); (try (rw [if_pos (by omega)])); (try go_simp); (try go_ints)
            refine hR _ _ (Ext.refl _) ?_ trivial
            rfl
          · intro γ w' he hf; clear hf; refine ⟨trivial, ?_⟩; intro R hR
            have hc := he.cells
            have cq0 := he.cell q0
            have cq1 := he.cell q1
            have cq2 := he.cell q2
            have cq3 := he.cell q3
            have cq4 := he.cell q4
            have cq5 := he.cell q5
            have cq6 := he.cell q6
            have cq7 := he.cell q7
            go_simp
            (try go_ints); (try (rw [if_neg (by omega)])); (try (rw [if_pos (by omega)])); (try go_simp); (try go_ints)
            refine hR _ _ (Ext.refl _) ?_ trivial
            rfl
          · intro γ w' he hf; clear hf; refine ⟨trivial, ?_⟩; intro R hR
            have hc := he.cells
            go_simp
            (try go_ints); (try (rw [if_neg (by omega)])); (try (rw [if_pos (by omega)])); (try go_simp); (try go_ints)
            refine hR _ _ (Ext.refl _) ?_ trivial
            rfl
          · intro γ w' he hf; clear hf; refine ⟨trivial, ?_⟩; intro R hR
            have hc := he.cells
            go_simp
            (try go_ints); (try (rw [if_neg (by omega)])); (try (rw [if_pos (by omega)])); (try go_simp); (try go_ints)
            refine hR _ _ (Ext.refl _) ?_ trivial
            rfl
          · intro γ w' he hf; clear hf; refine ⟨trivial, ?_⟩; intro R hR
            have hc := he.cells
            go_simp
            (try go_ints); (try (rw [if_neg (by omega)])); (try (rw [if_pos (by omega)])); (try go_simp); (try go_ints)
            refine hR _ _ (Ext.refl _) ?_ trivial
            rfl
          · intro γ w' he hf; clear hf; refine ⟨trivial, ?_⟩; intro R hR
            have hc := he.cells
            go_simp
            (try go_ints); (try (rw [if_neg (by omega)])); (try (rw [if_pos (by omega)])); (try go_simp); (try go_ints)
            refine hR _ _ (Ext.refl _) ?_ trivial
            rfl
          · intro γ w' he hf; clear hf; refine ⟨trivial, ?_⟩; intro R hR
            have hc := he.cells
            have cq0 := he.cell q0
            have cq1 := he.cell q1
            have cq2 := he.cell q2
            have cq3 := he.cell q3
            have cq4 := he.cell q4
            have cq5 := he.cell q5
            have cq6 := he.cell q6
            have cq7 := he.cell q7
            go_simp
            (try go_ints); (try (rw [if_neg (by omega)])); (try (rw [if_pos (by omega)])); (try go_simp); (try go_ints)
            refine hR _ _ (Ext.refl _) ?_ trivial
            rfl
        case hloc1 =>
          exact ⟨⟨⟨⟨⟨⟨⟨⟨⟨⟨trivial, (fun γ γ' h => ⟨rfl, fun _ => rfl⟩)⟩, (fun γ γ' h => ⟨rfl, fun _ => rfl⟩)⟩, (fun γ γ' h => ⟨rfl, fun _ => rfl⟩)⟩, (fun γ γ' h => ⟨rfl, fun _ => rfl⟩)⟩, (fun γ γ' h => ⟨rfl, fun _ => rfl⟩)⟩, (fun γ γ' h => ⟨rfl, fun _ => rfl⟩)⟩, (fun γ γ' h => ⟨rfl, fun _ => rfl⟩)⟩, (fun γ γ' h => ⟨rfl, fun _ => rfl⟩)⟩, (fun γ γ' h => ⟨rfl, fun _ => rfl⟩)⟩, (fun γ γ' h => ⟨rfl, fun _ => rfl⟩)⟩
        case hmono1 =>
          exact ⟨⟨⟨⟨⟨⟨⟨⟨⟨⟨trivial, (fun γ wA w' e h => h)⟩, (fun γ wA w' e h => h)⟩, (fun γ wA w' e h => h)⟩, (fun γ wA w' e h => h)⟩, (fun γ wA w' e h => h)⟩, (fun γ wA w' e h => h)⟩, (fun γ wA w' e h => h)⟩, (fun γ wA w' e h => h)⟩, (fun γ wA w' e h => h)⟩, (fun γ wA w' e h => h)⟩
        intro γ w3 hx3 hF
        clear hF
        simp only [fillAll, gV, kv, List.getD_cons_zero, List.getD_cons_succ, Act.put, List.setIfInBounds_toArray, List.set_cons_zero, List.set_cons_succ, List.toList_toArray, List.drop_succ_cons, List.drop_zero, List.drop_nil, Nat.zero_add, Nat.reduceAdd]
        clear γ
        clear q0 q1 q2 q3 q4 q5 q6 q7
        go_wp2_with fail
        refine Calls.mono (long_b 2 (w3.heap.size + 1) 1 [(_, [l[i].1, l[i].2])] _ (by decide) (by simp) (by simp) (listsV_one _ _ (polyV_two (Hq.out.1.ext hx3) (Hq.out.2.ext hx3) rfl) (by simp))) ?_
        rintro e w4 ⟨rfl, b, rfl, hb⟩
        have Hb := Lib.hid hb; clear hb
        replace hx := (((hx.trans hx3).alloc (.cells #[.bool b1, .slice A1 n1 c1, .bool b2, .slice A2 n2 c2, .bool b3, .slice A3 n3 c3, .bool b4, .slice A4 n4 c4] 40)).alloc (.cells #[.slice (some ⟨w3.heap.size, 0, none⟩) 2 2] 22))
        clear hx3
        cases b with
        | true =>
          go_wp2
          go_ret
          exact Gives.mk rfl hx
        | false =>
          go_wp2
          go_roundw
          case rel => exact ⟨i + 1, by omega, by omega, by go_num, fun j h1 h2 => by
            rcases Nat.lt_or_ge j i with h | h
            · exact Hsm.out j h1 h
            · obtain rfl : j = i := by omega
              obtain ⟨-, hh⟩ := Hb.out (by trivial) _ (List.mem_singleton.2 rfl)
              exact ⟨hh _ (by simp), hh _ (by simp)⟩, hx⟩
          case measure => simp [intOf] <;> omega
      · have h64 : 64 < l.length := by omega
        have hb0 : decide ((i : Int) < 100) = false := by simp; omega
        have hb1 : decide ((12 : Int) < l.length) = true := by simp; omega
        have hb2 : decide ((l.length : Int) ≤ 64) = false := by simp; omega
        clear Hsm HA H0
        go_wp2_with fail
        refine Calls.mono (interp_large A0 l.length c0 _ k1 k2 h64) ?_
        rintro e w7 ⟨r7, rfl, rfl, hx7⟩
        replace hx := hx.trans hx7
        go_wp2
        go_ret
        exact Gives.mk rfl hx
    · obtain rfl : i = l.length := by omega
      by_cases h64 : 64 < l.length
      · have hb1 : decide ((12 : Int) < l.length) = true := by simp; omega
        have hb2 : decide ((l.length : Int) ≤ 64) = false := by simp; omega
        clear Hsm HA H0
        go_wp2_with fail
        refine Calls.mono (interp_large A0 l.length c0 _ k1 k2 h64) ?_
        rintro e w7 ⟨r7, rfl, rfl, hx7⟩
        replace hx := hx.trans hx7
        go_wp2
        go_ret
        exact Gives.mk rfl hx
      · by_cases h12 : 12 < l.length
        · have hb1 : decide ((12 : Int) < l.length) = true := by simp; omega
          have hb2 : decide ((l.length : Int) ≤ 64) = true := by simp; omega
          clear Hsm HA H0
          go_wp2
          go_ret
          exact Gives.mk rfl hx
        · have hb1 : decide ((12 : Int) < l.length) = false := by simp; omega
          have hh := H0.out.has (fun x hx => by
            obtain ⟨j, hj, rfl⟩ := List.getElem_of_mem hx
            exact Hsm.out j hj hj)
          have hll : (l.map ptOf).length = l.length := by simp
          obtain ⟨m, hm⟩ : ∃ m, m = l.map ptOf := ⟨_, rfl⟩
          rw [← hm] at hh hll
          have hX : ∀ i, i < m.length → qsz (px m i) ≤ 2 := fun i hi => (hh.2 i (by omega)).1
          have hY : ∀ i, i < m.length → qsz (py m i) ≤ 2 := fun i hi => (hh.2 i (by omega)).2
          have HP := Lib.hid (And.intro hh.1 (And.intro hX hY)); have Hlen := Lib.hid hll
          have H12 := Lib.hid (show m.length ≤ 12 by omega); clear hh hX hY hll hm Hsm HA H0 h64 hi hi2 hil
          go_wp2_with fail
          refine Calls.mono (interp_p _ m _ (HP.out.1.ext hx) H12.out HP.out.2.1 HP.out.2.2) ?_
          rintro e w2 ⟨r2, rfl, hr2, hx2⟩
          replace hx := hx.trans hx2
          clear hx2
          rcases hr2 with ⟨hap, a, rfl, ha⟩ | ⟨hap, rfl⟩
          · have Hap := Lib.hid hap; clear hap
            obtain ⟨A1, c1, rfl, k3, k4⟩ := ha.shape
            have Ha := Lib.hid ha; clear ha
            go_wp2_with fail
            refine Calls.mono (interp_rp _ m _ (HP.out.1.ext hx) H12.out HP.out.2.1 HP.out.2.2) ?_
            rintro e w3 ⟨r3, rfl, hr3, hx3⟩
            rcases hr3 with ⟨-, a', rfl, ha'⟩ | ⟨hn, -⟩
            · have Ha' := Lib.hid ha'; clear ha'
              have Ha2 := Lib.hid (Ha.out.ext hx3); clear Ha
              replace hx := hx.trans hx3
              clear hx3
              have hpl := lgs_pl (px m) (py m) m.length
              go_wp2_with fail
              refine Calls.mono (samerats_p _ _ _ _ _ _ Ha2.out Ha'.out (by have := H12.out; omega)) ?_
              rintro e w4 ⟨r4, rfl, rfl, hx4⟩
              have Ha := Lib.hid (Ha2.out.ext hx4); clear Ha2 Ha'
              replace hx := hx.trans hx4
              clear hx4
              go_wp2
              obtain ⟨wo, hwo⟩ : ∃ wo : World, wo = w4 := ⟨_, rfl⟩
              subst hwo
              go_loopw [8] (fun iv wr => ∃ i : Nat, i ≤ l.length ∧ iv = .int .i64 i ∧ Ext wo wr) (fun iv _ => l.length - (intOf iv).toNat)
              case atStart => exact ⟨0, by omega, rfl, Ext.refl _⟩
              case round =>
                obtain ⟨i, hi, rfl, hy⟩ := hrel
                by_cases hil' : i < l.length
                · have hil : i < m.length := by have := Hlen.out; omega
                  obtain ⟨_, _, e0, _, _, hP⟩ := HP.out.1
                  have e5 := Value.slice.inj e0
                  obtain ⟨rfl, -, -⟩ := e5
                  clear e0
                  obtain ⟨g, o, b1, A1, n1, c1, b2, A2, n2, c2, b3, A3, n3, c3, b4, A4, n4, c4, rfl, q0, q1, q2, q3, q4, q5, q6, q7, hq1, hq2⟩ := PtsAt.at_ hP hil
                  clear hP
                  have hz := hx.trans hy
                  replace q0 := hz.cell q0
                  replace q1 := hz.cell q1
                  replace q2 := hz.cell q2
                  replace q3 := hz.cell q3
                  replace q4 := hz.cell q4
                  replace q5 := hz.cell q5
                  replace q6 := hz.cell q6
                  replace q7 := hz.cell q7
                  have hxi := px_lt hil
                  have hyi := py_lt hil
                  rw [← hxi] at hq1
                  rw [← hyi] at hq2
                  clear hxi hyi
                  have Hq := Lib.hid (And.intro (hq1.ext hz) (hq2.ext hz)); clear hq1 hq2 hz
                  have hev := ev_lgs (Y := py m) Hap.out hil m.length (Nat.le_refl _)
                  rw [if_pos hil] at hev
                  have Hev := Lib.hid hev; clear hev
                  have Hcd := Lib.hid (lgs_cd (X := px m) (Y := py m) H12.out HP.out.2.1 HP.out.2.2 m.length (Nat.le_refl _))
                  have h12 := H12.out
                  go_wp2_with fail
                  refine wp_region_par (k := 14) (D := [81, 82, 83, 84, 85, 86, 87, 88, 89, 90, 91, 92, 93, 94]) (T := [[], [], [], [1, 2], [1, 2, 3], [1, 2, 3, 4], [0, 1, 2, 3, 4, 5], [], [], [7, 8], [7, 8, 9], [7, 8, 9, 10], [0, 1, 2, 3, 4, 5, 6, 7, 8, 9, 10, 11], [0, 1, 2, 3, 4, 5, 6, 7, 8, 9, 10, 11, 12], [0, 1, 2, 3, 4, 5, 6, 7, 8, 9, 10, 11, 12, 13]]) (EK := [4, 0, 8]) (EV := [?e2x0, ?e2x1, ?e2x2]) (VL := [(kv ?v2x0), (kv ?v2x1), (kv ?v2x2), (kv ?v2x3), (kv ?v2x4), (kv ?v2x5), (fun γ => γ 6), (kv ?v2x7), (kv ?v2x8), (kv ?v2x9), (kv ?v2x10), (kv ?v2x11), (fun γ => γ 12), (kv (.bool true))]) (FL := fun γ w' => [True, True, True, True, True, True, IsQ w' (γ 6) (py m i), True, True, True, True, True, IsQ w' (γ 12) (py m i), True]) ?hE2 (by kernel_rfl) (by kernel_rfl) (by rfl) (by kernel_rfl) ?hloc2 ?hmono2 ?hstep2 ?htail2
                  case hE2 => refine ⟨?_, ?_, ?_, trivial⟩ <;> (simp only [List.getElem?_toArray, List.getElem?_cons_succ, List.getElem?_cons_zero]; rfl)
                  case hstep2 =>
                    refine ⟨⟨⟨⟨⟨⟨⟨⟨⟨⟨⟨⟨⟨⟨trivial, ?_⟩, ?_⟩, ?_⟩, ?_⟩, ?_⟩, ?_⟩, ?_⟩, ?_⟩, ?_⟩, ?_⟩, ?_⟩, ?_⟩, ?_⟩, ?_⟩
                    · intro γ w' he hf; clear hf; refine ⟨trivial, ?_⟩; intro R hR
                      have hc := he.cells
                      go_simp
                      (try go_ints); (try (rw [if_neg (by omega)])); (try (rw [if_pos (by omega)])); (try go_simp); (try go_ints)
                      refine hR _ _ (Ext.refl _) ?_ trivial
                      rfl
                    · intro γ w' he hf; clear hf; refine ⟨trivial, ?_⟩; intro R hR
                      have hc := he.cells
                      go_simp
                      (try go_ints); (try (rw [if_neg (by omega)])); (try (rw [if_pos (by omega)])); (try go_simp); (try go_ints)
                      refine hR _ _ (Ext.refl _) ?_ trivial
                      rfl
                    · intro γ w' he hf; clear hf; refine ⟨trivial, ?_⟩; intro R hR
                      have hc := he.cells
                      go_simp
                      (try go_ints); (try (rw [if_neg (by omega)])); (try (rw [if_pos (by omega)])); (try go_simp); (try go_ints)
                      refine hR _ _ (Ext.refl _) ?_ trivial
                      rfl
                    · intro γ w' he hf; clear hf; refine ⟨trivial, ?_⟩; intro R hR
                      have hc := he.cells
                      go_simp
                      (try go_ints); (try (rw [if_neg (by omega)])); (try (rw [if_pos (by omega)])); (try go_simp); (try go_ints)
                      refine hR _ _ (Ext.refl _) ?_ trivial
                      rfl
                    · intro γ w' he hf; clear hf; refine ⟨trivial, ?_⟩; intro R hR
                      have hc := he.cells
                      go_simp
                      (try go_ints); (try (rw [if_neg (by omega)])); (try (rw [if_pos (by omega)])); (try go_simp); (try go_ints)
                      refine hR _ _ (Ext.refl _) ?_ trivial
                      rfl
                    · intro γ w' he hf; clear hf; refine ⟨trivial, ?_⟩; intro R hR
                      have hc := he.cells
                      have cq0 := he.cell q0
                      have cq1 := he.cell q1
                      have cq2 := he.cell q2
                      have cq3 := he.cell q3
                      have cq4 := he.cell q4
                      have cq5 := he.cell q5
                      have cq6 := he.cell q6
                      have cq7 := he.cell q7
                      go_simp
                      (try go_ints); (try (rw [if_neg (by omega)])); (try (rw [if_pos (by omega)])); (try go_simp); (try go_ints)
                      refine hR _ _ (Ext.refl _) ?_ trivial
                      rfl
                    · intro γ w' he hf; clear hf; refine ⟨trivial, ?_⟩; intro R hR
                      go_simp
                      refine Calls.mono (show Calls _ _ _ w' (Gives w' fun r w'' => IsQ w'' (r) (py m i)) from Hev.out ▸ eval_qP _ _ (lgs (px m) (py m) m.length m.length) (px m i) 15133 2 12 w' (Ha.out.ext (hy.trans he)) (Hq.out.1.ext he) (fun j => by have := Hcd.out.elem j; omega) (HP.out.2.1 i hil) (by omega) (by omega) (by omega)) ?_
                      rintro e w2 ⟨v, rfl, hv, hx⟩
                      exact ⟨v, rfl, hR v w2 hx rfl hv⟩
                    · intro γ w' he hf; clear hf; refine ⟨trivial, ?_⟩; intro R hR
                      have hc := he.cells
                      go_simp
                      (try go_ints); (try (rw [if_neg (by omega)])); (try (rw [if_pos (by omega)])); (try go_simp); (try go_ints)
                      refine hR _ _ (Ext.refl _) ?_ trivial
                      rfl
                    · intro γ w' he hf; clear hf; refine ⟨trivial, ?_⟩; intro R hR
                      have hc := he.cells
                      go_simp
                      (try go_ints); (try (rw [if_neg (by omega)])); (try (rw [if_pos (by omega)])); (try go_simp); (try go_ints)
                      refine hR _ _ (Ext.refl _) ?_ trivial
                      rfl
                    · intro γ w' he hf; clear hf; refine ⟨trivial, ?_⟩; intro R hR
                      have hc := he.cells
                      go_simp
                      (try go_ints); (try (rw [if_neg (by omega)])); (try (rw [if_pos (by omega)])); (try go_simp); (try go_ints)
                      refine hR _ _ (Ext.refl _) ?_ trivial
                      rfl
                    · intro γ w' he hf; clear hf; refine ⟨trivial, ?_⟩; intro R hR
                      have hc := he.cells
                      go_simp
                      (try go_ints); (try (rw [if_neg (by omega)])); (try (rw [if_pos (by omega)])); (try go_simp); (try go_ints)
                      refine hR _ _ (Ext.refl _) ?_ trivial
                      rfl
                    · intro γ w' he hf; clear hf; refine ⟨trivial, ?_⟩; intro R hR
                      have hc := he.cells
                      have cq0 := he.cell q0
                      have cq1 := he.cell q1
                      have cq2 := he.cell q2
                      have cq3 := he.cell q3
                      have cq4 := he.cell q4
                      have cq5 := he.cell q5
                      have cq6 := he.cell q6
                      have cq7 := he.cell q7
                      go_simp
                      (try go_ints); (try (rw [if_neg (by omega)])); (try (rw [if_pos (by omega)])); (try go_simp); (try go_ints)
                      refine hR _ _ (Ext.refl _) ?_ trivial
                      rfl
                    · intro γ w' he hf; have f6 : IsQ w' (γ 6) (py m i) := hf 6 (by decide); clear hf; refine ⟨trivial, ?_⟩; intro R hR
                      go_simp
                      refine Calls.mono (show Calls _ _ _ w' (Gives w' fun r w'' => IsQ w'' (r) (py m i)) from normal_rq _ _ w' (Hq.out.2.ext he)) ?_
                      rintro e w2 ⟨v, rfl, hv, hx⟩
                      exact ⟨v, rfl, hR v w2 hx rfl hv⟩
                    · intro γ w' he hf; have f6 : IsQ w' (γ 6) (py m i) := hf 6 (by decide); have f12 : IsQ w' (γ 12) (py m i) := hf 12 (by decide); clear hf; refine ⟨trivial, ?_⟩; intro R hR
                      go_simp
                      refine Calls.mono (show Calls _ _ _ w' (Gives w' fun r _ => r = .bool true) from Gives.imp (same_rq _ _ _ _ w' f6 f12) fun _ _ h => by rw [h]; simp) ?_
                      rintro e w2 ⟨v, rfl, rfl, hx⟩
                      exact ⟨_, rfl, hR _ w2 hx rfl trivial⟩
                  case hloc2 =>
                    exact ⟨⟨⟨⟨⟨⟨⟨⟨⟨⟨⟨⟨⟨⟨trivial, (fun γ γ' h => ⟨rfl, fun _ => rfl⟩)⟩, (fun γ γ' h => ⟨rfl, fun _ => rfl⟩)⟩, (fun γ γ' h => ⟨rfl, fun _ => rfl⟩)⟩, (fun γ γ' h => ⟨rfl, fun _ => rfl⟩)⟩, (fun γ γ' h => ⟨rfl, fun _ => rfl⟩)⟩, (fun γ γ' h => ⟨rfl, fun _ => rfl⟩)⟩, (fun γ γ' h => ⟨h 6 rfl, fun w' => (congrArg (fun a => IsQ w' (a) (py m i)) (h 6 rfl))⟩)⟩, (fun γ γ' h => ⟨rfl, fun _ => rfl⟩)⟩, (fun γ γ' h => ⟨rfl, fun _ => rfl⟩)⟩, (fun γ γ' h => ⟨rfl, fun _ => rfl⟩)⟩, (fun γ γ' h => ⟨rfl, fun _ => rfl⟩)⟩, (fun γ γ' h => ⟨rfl, fun _ => rfl⟩)⟩, (fun γ γ' h => ⟨h 12 rfl, fun w' => (congrArg (fun a => IsQ w' (a) (py m i)) (h 12 rfl))⟩)⟩, (fun γ γ' h => ⟨rfl, fun _ => rfl⟩)⟩
                  case hmono2 =>
                    exact ⟨⟨⟨⟨⟨⟨⟨⟨⟨⟨⟨⟨⟨⟨trivial, (fun γ wA w' e h => h)⟩, (fun γ wA w' e h => h)⟩, (fun γ wA w' e h => h)⟩, (fun γ wA w' e h => h)⟩, (fun γ wA w' e h => h)⟩, (fun γ wA w' e h => h)⟩, (fun γ wA w' e h => (show IsQ wA (γ 6) (py m i) from h).ext e)⟩, (fun γ wA w' e h => h)⟩, (fun γ wA w' e h => h)⟩, (fun γ wA w' e h => h)⟩, (fun γ wA w' e h => h)⟩, (fun γ wA w' e h => h)⟩, (fun γ wA w' e h => (show IsQ wA (γ 12) (py m i) from h).ext e)⟩, (fun γ wA w' e h => h)⟩
                  intro γ w5 hx5 hF
                  have p6 : IsQ w5 (γ 6) (py m i) := Each.get hF 6 (by decide)
                  have p12 : IsQ w5 (γ 12) (py m i) := Each.get hF 12 (by decide)
                  clear hF
                  simp only [fillAll, gV, kv, List.getD_cons_zero, List.getD_cons_succ, Act.put, List.setIfInBounds_toArray, List.set_cons_zero, List.set_cons_succ, List.toList_toArray, List.drop_succ_cons, List.drop_zero, List.drop_nil, Nat.zero_add, Nat.reduceAdd]
                  generalize γ 6 = g6 at *
                  generalize γ 12 = g12 at *
                  clear γ
                  clear p6 p12 q0 q1 q2 q3 q4 q5 q6 q7 Hq Hev Hcd h12
                  go_wp2
                  go_roundw
                  case rel => exact ⟨i + 1, by omega, by go_num, hy.trans hx5⟩
                  case measure => simp [intOf] <;> omega
                · obtain rfl : i = l.length := by omega
                  have hb3 : decide (pl (lgs (px m) (py m) m.length m.length) ≤ l.length) = true := by have := Hlen.out; simp; omega
                  clear HP Ha
                  go_wp2
                  go_ret
                  exact Gives.mk rfl (hx.trans hy)
            · exact absurd Hap.out hn
          · have Hap := Lib.hid hap; clear hap
            go_wp2_with fail
            refine Calls.mono (interp_rp _ m _ (HP.out.1.ext hx) H12.out HP.out.2.1 HP.out.2.2) ?_
            rintro e w3 ⟨r3, rfl, hr3, hx3⟩
            rcases hr3 with ⟨hn, -⟩ | ⟨-, rfl⟩
            · exact absurd hn Hap.out
            · replace hx := hx.trans hx3
              clear hx3
              go_wp2_with fail
              refine Calls.mono (samerats_p _ _ _ _ _ _ (IsP.nil 0 _) (IsP.nil 0 _) (by rw [pl_pz]; omega)) ?_
              rintro e w4 ⟨r4, rfl, rfl, hx4⟩
              replace hx := hx.trans hx4
              clear hx4
              have hpos : 0 < l.length := by
                rw [← Hlen.out]
                rcases Nat.eq_zero_or_pos m.length with h | h
                · exact absurd (fun i k hi => by omega) Hap.out
                · exact h
              clear HP
              go_wp2
              obtain ⟨wo, hwo⟩ : ∃ wo : World, wo = w4 := ⟨_, rfl⟩
              subst hwo
              go_loopw [8] (fun iv wr => iv = .int .i64 0 ∧ Ext w wr) (fun iv _ => 0)
              case atStart => exact ⟨rfl, hx⟩
              case round =>
                clear hx
                obtain ⟨rfl, hx⟩ := hrel
                go_wp2
                go_ret
                exact Gives.mk rfl hx
end Go.Proofs.YtedoifjbgokmcaaGreat
namespace Go.Proofs.YtedoifjbgokmcaaGreat
open Go.ChangeShapes Go.WideShapes Go.ChangeAt Go.RowKit Go.Hp
open Go.ChangeMaps (open_string shut_string)
theorem own_ : ownKnob Tryz.prog.godebug = none := by kernel_rfl
theorem laidOut_ : laidOutB Tryz.prog = true := by kernel_rfl
set_option maxRecDepth 100000 in
theorem qpolyInterpolates_lifted (os : Os) (started : os.Started) (H : Type) (enc : TypeId × Value → H) :
    ReturnsInHanded {} Tryz.checked os 6 .any (Rows.qpolyInterpolatesSpec.pre6 enc Tryz.prog Tryz.f6 Rows.qpolyInterpolatesRow.domain false) (Rows.qpolyInterpolatesSpec.post enc Tryz.prog Tryz.f6 false true false false) := by
  refine returnsInHanded_of_change (C := Tryz.checked) own_ started (by kernel_rfl) Tryz.func6
    (ChangeSpec.witness6 (enc := enc) (C := Tryz.checked) false ⟨#[], #[.slice none 0 0], []⟩ 8 (by kernel_rfl) (by kernel_rfl) (by kernel_rfl) (by kernel_rfl)) ?_
  intro W base args ds gs before hval0 hW hcnd _
  have hval : ∀ (j : Nat) t v, Tryz.f6.params[j]? = some t → args[j]? = some v → Value.okWide Tryz.prog W .any base t v := hval0
  have hW' := hW
  obtain ⟨p, q, hA0, hV, rfl, hfz, hnd⟩ := hW
  have hA : DataW.TrodAll enc Tryz.prog W 0 (fun _ => true) true Tryz.f6.params.toList args.toList ds p := hA0
  rw [Tryz.params6] at hA hval
  obtain ⟨v0, d0, hargs, rfl, h0⟩ := trodAll_one hA
  subst hargs
  obtain ⟨rfl, rfl⟩ := trodVars_none hV
  have lt0 : ∀ x ∈ p, x.block < W.heap.size := by obtain ⟨m, hm⟩ := h0; exact DataW.trod_lt m _ _ _ hm
  obtain ⟨l0, w0⟩ : ∃ l, PointsV W v0 l := by obtain ⟨m, hm⟩ := h0; exact open_points Tryz.underlying55 hm (okWide_slice Tryz.underlying55 (hval 0 55 v0 rfl rfl))
  clear hA0 hval0
  refine (interpolates_law v0 l0 W w0).mono fun e W' ⟨v, he, hv, bel⟩ => ?_
  subst he hv
  exact ⟨_, rfl, _, _, _, [], _, [], hW', trodAll_mk1 (shut_bool Tryz.underlying4 _), trodAll_mk1 (Below.trod laidOut_ (by kernel_rfl) (of_decide_eq_true (by kernel_rfl)) h0 bel lt0), rfl, bel.frame _, fun h => by cases h⟩
theorem qpolyInterpolates_over : Rows.qpolyInterpolatesRow.holds Tryz.pinned (OpenSpec.ofChange Rows.qpolyInterpolatesSpec) :=
  OpenClaim.holds_of_wide 6 Tryz.f6 rfl rfl rfl rfl rfl rfl rfl ⟨rfl, rfl, rfl, rfl, rfl⟩ rfl rfl rfl rfl rfl (by kernel_rfl) Tryz.func6 (by kernel_rfl)
    (of_decide_eq_true (by kernel_rfl)) (by unfold Func.isWrapper; first | (rw [if_pos (by decide +kernel)]; kernel_rfl) | (rw [if_neg (by decide +kernel)]; exact ⟨rfl, rfl⟩))
    (fun os started H enc _ => qpolyInterpolates_lifted os started H enc)
theorem qpolyInterpolates_proved : Rows.QpolyInterpolatesSaid := qpolyInterpolates_over
end Go.Proofs.YtedoifjbgokmcaaGreat
