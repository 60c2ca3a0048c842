/- Clash and Mirror of package anchor return the first pair of holes that overlap, and the anchors of the mirror image, or the first error. No condition. -/
import Derived.Test.YtmmmmgdafifpiaaXAx0
import Derived.Test.YtmmmmgdafifpiaaXAx16
import Derived.Test.YtmmmmgdafifpiaaXAx17
import Derived.Test.YtmmmmgdafifpiaaXAx33
import Derived.Test.YtmmmmgdafifpiaaXAx34
import Derived.Test.YtmmmmgdafifpiaaXAx35
import Derived.Test.YtmmmmgdafifpiaaXAx36
import Derived.Test.YtmmmmgdafifpiaaXAx37
import Derived.Test.YtmmmmgdafifpiaaMz
namespace Go.Proofs.Ytmmmmgdafifpiaa.Pure
open Go.RowKit Go.Proofs.Ytmmmmgdafifpiaa.Opens Go.Proofs.Ytmmmmgdafifpiaa.XA Go.Proofs.YtmmmmgdafifpiaaW.PrintWords Go.Proofs.YtmmmmgdafifpiaaW.PrintLast Go.Proofs.YtmmmmgdafifpiaaW.PrintMore
set_option linter.unusedVariables false
set_option linter.unusedSimpArgs false
/-- The range along an axis that a hole's face lies on. -/
def ax (L d f : Int) : Int × Int := if f % 2 = 0 then (L - d, L) else (0, d)
/-- The hole of an anchor. -/
def hl (X Y Z : Int) (a : S54) (r d : Int) : Int × Int × Int × Int × Int × Int :=
  let p := (mx (a.f1.f0 - r) 0, a.f1.f0 + r); let q := (mx (a.f1.f1 - r) 0, a.f1.f1 + r)
  if a.f0 < 2 then (mx (ax X d a.f0).1 0, mn (ax X d a.f0).2 X, p.1, mn p.2 Y, q.1, mn q.2 Z)
  else if a.f0 < 4 then (p.1, mn p.2 X, mx (ax Y d a.f0).1 0, mn (ax Y d a.f0).2 Y, q.1, mn q.2 Z)
  else (p.1, mn p.2 X, q.1, mn q.2 Y, mx (ax Z d a.f0).1 0, mn (ax Z d a.f0).2 Z)
theorem hole_k {X Y Z : Int} (hZ : Sz X Y Z) {f x y e r d : Int} (hf : 0 ≤ f ∧ f ≤ 5) (hx : 0 ≤ x ∧ x ≤ 1000000) (hy : 0 ≤ y ∧ y ≤ 1000000) (hr : 1 ≤ r ∧ r ≤ 10000) (hd : 1 ≤ d ∧ d ≤ 10000) {k : Nat} (hk : 20 ≤ k) :
    anchor_hole.f k X Y Z f x y e r d = some (hl X Y Z ⟨f, ⟨x, y⟩, e⟩ r d) := by
  obtain ⟨k, rfl⟩ : ∃ q, k = q + 20 := ⟨k - 20, by omega⟩
  unfold Sz at hZ
  have w1 := wr (x := x - r) (by omega)
  have w2 := wr (x := x + r) (by omega)
  have w3 := wr (x := y - r) (by omega)
  have w4 := wr (x := y + r) (by omega)
  have w5 := wr (x := X - d) (by omega)
  have w6 := wr (x := Y - d) (by omega)
  have w7 := wr (x := Z - d) (by omega)
  have u1 : wrap64 1 = 1 := by decide +kernel
  have u2 : wrap64 2 = 2 := by decide +kernel
  have u3 : wrap64 3 = 3 := by decide +kernel
  have t0 : wrap64 (Int.tdiv 0 2) = 0 := by decide +kernel
  have t1 : wrap64 (Int.tdiv 1 2) = 0 := by decide +kernel
  have t2 : wrap64 (Int.tdiv 2 2) = 1 := by decide +kernel
  have t3 : wrap64 (Int.tdiv 3 2) = 1 := by decide +kernel
  have t4 : wrap64 (Int.tdiv 4 2) = 2 := by decide +kernel
  have t5 : wrap64 (Int.tdiv 5 2) = 2 := by decide +kernel
  have : f = 0 ∨ f = 1 ∨ f = 2 ∨ f = 3 ∨ f = 4 ∨ f = 5 := by omega
  unfold anchor_hole.f
  rcases this with rfl | rfl | rfl | rfl | rfl | rfl
  · rw [t0]; simp [anchor_hole.j0, anchor_hole.j1, anchor_hole.j2, anchor_hole.l0, anchor_hole.l1, rd, w1, w2, w3, w4, w5, w6, w7, u1, u2, u3, hl, ax]
  · rw [t1]; simp [anchor_hole.j0, anchor_hole.j1, anchor_hole.j2, anchor_hole.l0, anchor_hole.l1, rd, w1, w2, w3, w4, w5, w6, w7, u1, u2, u3, hl, ax]
  · rw [t2]; simp [anchor_hole.j0, anchor_hole.j1, anchor_hole.j2, anchor_hole.l0, anchor_hole.l1, rd, w1, w2, w3, w4, w5, w6, w7, u1, u2, u3, hl, ax]
  · rw [t3]; simp [anchor_hole.j0, anchor_hole.j1, anchor_hole.j2, anchor_hole.l0, anchor_hole.l1, rd, w1, w2, w3, w4, w5, w6, w7, u1, u2, u3, hl, ax]
  · rw [t4]; simp [anchor_hole.j0, anchor_hole.j1, anchor_hole.j2, anchor_hole.l0, anchor_hole.l1, rd, w1, w2, w3, w4, w5, w6, w7, u1, u2, u3, hl, ax]
  · rw [t5]; simp [anchor_hole.j0, anchor_hole.j1, anchor_hole.j2, anchor_hole.l0, anchor_hole.l1, rd, w1, w2, w3, w4, w5, w6, w7, u1, u2, u3, hl, ax]
theorem mx_comm (a b : Int) : mx a b = mx b a := by unfold mx; split <;> split <;> omega
theorem mn_comm (a b : Int) : mn a b = mn b a := by unfold mn; split <;> split <;> omega
/-- The reference's hole: the least corner, then the greatest one. -/
theorem rhole_k {X Y Z : Int} (hZ : Sz X Y Z) {f x y e r d : Int} (hf : 0 ≤ f ∧ f ≤ 5) (hx : 0 ≤ x ∧ x ≤ 1000000) (hy : 0 ≤ y ∧ y ≤ 1000000) (hr : 1 ≤ r ∧ r ≤ 10000) (hd : 1 ≤ d ∧ d ≤ 10000) {k : Nat} (hk : 20 ≤ k) :
    gangsawref44_hole.f k X Y Z f x y e r d = some ((hl X Y Z ⟨f, ⟨x, y⟩, e⟩ r d).1, (hl X Y Z ⟨f, ⟨x, y⟩, e⟩ r d).2.2.1, (hl X Y Z ⟨f, ⟨x, y⟩, e⟩ r d).2.2.2.2.1, (hl X Y Z ⟨f, ⟨x, y⟩, e⟩ r d).2.1, (hl X Y Z ⟨f, ⟨x, y⟩, e⟩ r d).2.2.2.1, (hl X Y Z ⟨f, ⟨x, y⟩, e⟩ r d).2.2.2.2.2) := by
  obtain ⟨k, rfl⟩ : ∃ q, k = q + 20 := ⟨k - 20, by omega⟩
  unfold Sz at hZ
  have w1 := wr (x := x - r) (by omega)
  have w2 := wr (x := x + r) (by omega)
  have w3 := wr (x := y - r) (by omega)
  have w4 := wr (x := y + r) (by omega)
  have w5 := wr (x := X - d) (by omega)
  have w6 := wr (x := Y - d) (by omega)
  have w7 := wr (x := Z - d) (by omega)
  have t0 : wrap64 (Int.tdiv 0 2) = 0 := by decide +kernel
  have t1 : wrap64 (Int.tdiv 1 2) = 0 := by decide +kernel
  have t2 : wrap64 (Int.tdiv 2 2) = 1 := by decide +kernel
  have t3 : wrap64 (Int.tdiv 3 2) = 1 := by decide +kernel
  have t4 : wrap64 (Int.tdiv 4 2) = 2 := by decide +kernel
  have t5 : wrap64 (Int.tdiv 5 2) = 2 := by decide +kernel
  have : f = 0 ∨ f = 1 ∨ f = 2 ∨ f = 3 ∨ f = 4 ∨ f = 5 := by omega
  unfold gangsawref44_hole.f gangsawref44_drilled.f
  simp only [gangsawref44_drilled.j0]
  rcases this with rfl | rfl | rfl | rfl | rfl | rfl
  · rw [t0]; simp [rd, w1, w2, w3, w4, w5, w6, w7, hl, ax, mx_comm 0, mn_comm X, mn_comm Y, mn_comm Z]
  · rw [t1]; simp [rd, w1, w2, w3, w4, w5, w6, w7, hl, ax, mx_comm 0, mn_comm X, mn_comm Y, mn_comm Z]
  · rw [t2]; simp [rd, w1, w2, w3, w4, w5, w6, w7, hl, ax, mx_comm 0, mn_comm X, mn_comm Y, mn_comm Z]
  · rw [t3]; simp [rd, w1, w2, w3, w4, w5, w6, w7, hl, ax, mx_comm 0, mn_comm X, mn_comm Y, mn_comm Z]
  · rw [t4]; simp [rd, w1, w2, w3, w4, w5, w6, w7, hl, ax, mx_comm 0, mn_comm X, mn_comm Y, mn_comm Z]
  · rw [t5]; simp [rd, w1, w2, w3, w4, w5, w6, w7, hl, ax, mx_comm 0, mn_comm X, mn_comm Y, mn_comm Z]
/-- Two holes overlap. -/
def ov (a b : Int × Int × Int × Int × Int × Int) : Bool := decide (mx a.1 b.1 < mn a.2.1 b.2.1 ∧ mx a.2.2.1 b.2.2.1 < mn a.2.2.2.1 b.2.2.2.1 ∧ mx a.2.2.2.2.1 b.2.2.2.2.1 < mn a.2.2.2.2.2 b.2.2.2.2.2)
/-- Holes are no empty boxes. -/
def fat (a : Int × Int × Int × Int × Int × Int) : Prop := a.1 < a.2.1 ∧ a.2.2.1 < a.2.2.2.1 ∧ a.2.2.2.2.1 < a.2.2.2.2.2
theorem mxmn (a b c d : Int) : mx a b < mn c d ↔ a < c ∧ a < d ∧ b < c ∧ b < d := by unfold mx mn; split <;> split <;> omega
theorem hl_fat {X Y Z : Int} (hZ : Sz X Y Z) {a : S54} (hg : ge a = true) (hp : gp X Y Z a = true) {r d : Int} (hr : 1 ≤ r ∧ r ≤ 10000) (hd : 1 ≤ d ∧ d ≤ 10000) : fat (hl X Y Z a r d) := by
  unfold Sz at hZ
  unfold ge at hg
  unfold gp at hp
  rw [decide_eq_true_eq] at hg hp
  have m1 : ∀ u v w : Int, mx u 0 < mn v w ↔ u < v ∧ u < w ∧ 0 < v ∧ 0 < w := fun u v w => mxmn u 0 v w
  unfold hl ax fat
  by_cases h2 : a.f0 < 2
  · rw [(fc_12 X Y Z a.f0 (by omega)).2] at hp
    simp only [h2, if_true, m1] at hp ⊢
    split <;> simp only <;> omega
  · have hX := fc_2 X Y Z a.f0 (by omega)
    by_cases h4 : a.f0 < 4
    · have hq : (fc X Y Z a.f0).2 = Z := by
        have : a.f0 = 2 ∨ a.f0 = 3 := by omega
        rcases this with e | e <;> rw [e]
        · rw [fcv X Y Z 2 1 (by decide +kernel)]; rfl
        · rw [fcv X Y Z 3 1 (by decide +kernel)]; rfl
      rw [hX, hq] at hp
      simp only [h2, h4, if_true, if_false, m1] at hp ⊢
      split <;> simp only <;> omega
    · have hq : (fc X Y Z a.f0).2 = Y := by
        have : a.f0 = 4 ∨ a.f0 = 5 := by omega
        rcases this with e | e <;> rw [e]
        · rw [fcv X Y Z 4 2 (by decide +kernel)]; rfl
        · rw [fcv X Y Z 5 2 (by decide +kernel)]; rfl
      rw [hX, hq] at hp
      simp only [h2, h4, if_false, m1] at hp ⊢
      split <;> simp only <;> omega
theorem meet_k {a b : Int × Int × Int × Int × Int × Int} (ha : fat a) (hb : fat b) : gangsawref44_meet.f a.1 a.2.2.1 a.2.2.2.2.1 a.2.1 a.2.2.2.1 a.2.2.2.2.2 b.1 b.2.2.1 b.2.2.2.2.1 b.2.1 b.2.2.2.1 b.2.2.2.2.2 = some (ov a b) := by
  unfold gangsawref44_meet.f ov
  unfold fat at ha hb
  simp only [mxmn]
  grind
theorem ov3 (x1 x2 x3 x12 x13 x36 x37 X Y Z : Int) (l : List S54) (a b : Int × Int × Int × Int × Int × Int) (k : Nat) : anchor_Clash.l2 (k + 4) l x2 x3 x12 x13 true x36 x37 0 X Y Z a.1 a.2.1 a.2.2.1 a.2.2.2.1 a.2.2.2.2.1 a.2.2.2.2.2 b.1 b.2.1 b.2.2.1 b.2.2.2.1 b.2.2.2.2.1 b.2.2.2.2.2 =
    if ov a b = true then some (x12, x13, 0) else anchor_Clash.l1 k l x2 x3 x12 (wrap64 (x13 + 1)) x36 x37 X Y Z := by
  have u2 : wrap64 2 = 2 := by decide +kernel
  have u3 : wrap64 3 = 3 := by decide +kernel
  unfold ov
  by_cases h1 : mx a.1 b.1 < mn a.2.1 b.2.1
  · by_cases h2 : mx a.2.2.1 b.2.2.1 < mn a.2.2.2.1 b.2.2.2.1
    · by_cases h3 : mx a.2.2.2.2.1 b.2.2.2.2.1 < mn a.2.2.2.2.2 b.2.2.2.2.2
      · simp [anchor_Clash.l2, h1, h2, h3]
      · simp [anchor_Clash.l2, h1, h2, h3]
    · simp [anchor_Clash.l2, h1, h2, u3]
  · simp [anchor_Clash.l2, h1, u2, u3]
/-- The first number from j on (at most m) whose hole overlaps that of number i. -/
def f1 (X Y Z r d : Int) (l : List S54) (i : Nat) : Nat → Nat → Option Nat
  | 0, _ => none
  | m + 1, j => if ov (hl X Y Z (rd_T54 l i) r d) (hl X Y Z (rd_T54 l j) r d) = true then some j else f1 X Y Z r d l i m (j + 1)
def f0 (X Y Z r d : Int) (l : List S54) : Nat → Nat → Option (Nat × Nat)
  | 0, _ => none
  | m + 1, i => match f1 X Y Z r d l i m (i + 1) with
    | some j => some (i, j)
    | none => f0 X Y Z r d l m (i + 1)
theorem clash1 {X Y Z : Int} (hZ : Sz X Y Z) {l : List S54} (hp : pl X Y Z l = 0) {r d : Int} (hr : 1 ≤ r ∧ r ≤ 10000) (hd : 1 ≤ d ∧ d ≤ 10000) (n x37 : Int) (i : Nat) (hi : i < l.length) (R : Option (Int × Int × Int)) (B : Nat)
    (hR : ∀ k, B ≤ k → anchor_Clash.l0 k l r d n (wrap64 (x37 + 1)) X Y Z = R) : ∀ (m j k : Nat), j + m = l.length → m * 5 + B + 30 ≤ k →
    anchor_Clash.l1 k l r d i j n x37 X Y Z = match f1 X Y Z r d l i m j with | some j => some ((i : Int), (j : Int), 0) | none => R := by
  obtain ⟨hln, hS, hg, hq⟩ := sm_of hZ hp
  have gi := List.all_eq_true.1 hg _ (rd_mem l i hi)
  have si := hS _ (rd_mem l i hi)
  unfold ge at gi
  rw [decide_eq_true_eq] at gi
  unfold Sm at si
  intro m
  induction m with
  | zero =>
    intro j k hm hk
    obtain ⟨k, rfl⟩ : ∃ q, k = q + 1 := ⟨k - 1, by omega⟩
    simp only [anchor_Clash.l1]
    rw [if_neg (by omega), hR k (by omega)]; rfl
  | succ m ih =>
    intro j k hm hk
    obtain ⟨k, rfl⟩ : ∃ q, k = (q + 4) + 1 := ⟨k - 5, by omega⟩
    have gj := List.all_eq_true.1 hg _ (rd_mem l j (by omega))
    have sj := hS _ (rd_mem l j (by omega))
    unfold ge at gj
    rw [decide_eq_true_eq] at gj
    unfold Sm at sj
    simp only [anchor_Clash.l1]
    rw [if_pos (by omega), if_pos (by omega), if_pos (by omega), hole_k (e := (rd_T54 l i).f2) hZ (by omega) (by omega) (by omega) hr hd (by omega)]
    simp only [Option.bind_some]
    rw [if_pos (by omega), hole_k (e := (rd_T54 l j).f2) hZ (by omega) (by omega) (by omega) hr hd (by omega)]
    simp only [Option.bind_some]
    rw [ov3 0, wr (by omega)]
    have := ih (j + 1) k (by omega) (by omega)
    rw [show ((j + 1 : Nat) : Int) = (j : Int) + 1 by omega] at this
    rw [this]
    simp only [f1]
    by_cases q : ov (hl X Y Z (rd_T54 l i) r d) (hl X Y Z (rd_T54 l j) r d) = true
    · rw [if_pos q, if_pos q]
    · rw [if_neg q, if_neg q]
theorem clash0 {X Y Z : Int} (hZ : Sz X Y Z) {l : List S54} (hp : pl X Y Z l = 0) {r d : Int} (hr : 1 ≤ r ∧ r ≤ 10000) (hd : 1 ≤ d ∧ d ≤ 10000) : ∀ (m i k : Nat), i + m = l.length → m * 200 + 100 ≤ k →
    anchor_Clash.l0 k l r d (l.length : Int) i X Y Z = match f0 X Y Z r d l m i with | some q => some ((q.1 : Int), (q.2 : Int), 0) | none => some (0, 0, 9) := by
  have hln := (sm_of hZ hp).1
  intro m
  induction m with
  | zero =>
    intro i k hm hk
    obtain ⟨k, rfl⟩ : ∃ q, k = q + 1 := ⟨k - 1, by omega⟩
    simp only [anchor_Clash.l0]
    rw [if_neg (by omega)]; rfl
  | succ m ih =>
    intro i k hm hk
    obtain ⟨k, rfl⟩ : ∃ q, k = q + 1 := ⟨k - 1, by omega⟩
    simp only [anchor_Clash.l0]
    rw [if_pos (by omega), wr (by omega)]
    obtain ⟨B, hB⟩ : ∃ B, B = m * 200 + 100 := ⟨_, rfl⟩
    have := clash1 hZ hp hr hd (l.length : Int) i i (by omega) _ B (fun k hk => by
      rw [wr (by omega)]
      have := ih (i + 1) k (by omega) (by omega)
      rw [show ((i + 1 : Nat) : Int) = (i : Int) + 1 by omega] at this
      exact this) m (i + 1) k (by omega) (by omega)
    rw [show ((i + 1 : Nat) : Int) = (i : Int) + 1 by omega] at this
    rw [this]
    simp only [f0]
    cases f1 X Y Z r d l i m (i + 1) <;> rfl
theorem rclash1 {X Y Z : Int} (hZ : Sz X Y Z) {l : List S54} (hp : pl X Y Z l = 0) {r d : Int} (hr : 1 ≤ r ∧ r ≤ 10000) (hd : 1 ≤ d ∧ d ≤ 10000) (i : Nat) (hi : i < l.length) (R : Option (Int × Int)) (B : Nat)
    (hR : ∀ k, B ≤ k → gangsawref44_Clash.l0 k l r d ((i : Int) + 1) X Y Z = R) : ∀ (m j k : Nat), j + m = l.length → m * 5 + B + 30 ≤ k →
    gangsawref44_Clash.l1 k l r d i j X Y Z = match f1 X Y Z r d l i m j with | some j => some ((i : Int), (j : Int)) | none => R := by
  obtain ⟨hln, hS, hg, hq⟩ := sm_of hZ hp
  have gi := List.all_eq_true.1 hg _ (rd_mem l i hi)
  have si := hS _ (rd_mem l i hi)
  have ti := hl_fat hZ gi (List.all_eq_true.1 hq _ (rd_mem l i hi)) hr hd
  unfold ge at gi
  rw [decide_eq_true_eq] at gi
  unfold Sm at si
  intro m
  induction m with
  | zero =>
    intro j k hm hk
    obtain ⟨k, rfl⟩ : ∃ q, k = q + 1 := ⟨k - 1, by omega⟩
    simp only [gangsawref44_Clash.l1]
    rw [if_neg (by omega), wr (by omega), hR k (by omega)]; rfl
  | succ m ih =>
    intro j k hm hk
    obtain ⟨k, rfl⟩ : ∃ q, k = q + 1 := ⟨k - 1, by omega⟩
    have gj := List.all_eq_true.1 hg _ (rd_mem l j (by omega))
    have sj := hS _ (rd_mem l j (by omega))
    have tj := hl_fat hZ gj (List.all_eq_true.1 hq _ (rd_mem l j (by omega))) hr hd
    unfold ge at gj
    rw [decide_eq_true_eq] at gj
    unfold Sm at sj
    simp only [gangsawref44_Clash.l1]
    rw [if_pos (by omega), if_pos (by omega), if_pos (by omega), rhole_k (e := (rd_T54 l i).f2) hZ (by omega) (by omega) (by omega) hr hd (by omega)]
    simp only [Option.bind_some]
    rw [if_pos (by omega), rhole_k (e := (rd_T54 l j).f2) hZ (by omega) (by omega) (by omega) hr hd (by omega)]
    simp only [Option.bind_some]
    rw [meet_k ti tj, wr (by omega)]
    have := ih (j + 1) k (by omega) (by omega)
    rw [show ((j + 1 : Nat) : Int) = (j : Int) + 1 by omega] at this
    rw [this]
    simp only [f1, Option.bind_some]
    by_cases q : ov (hl X Y Z (rd_T54 l i) r d) (hl X Y Z (rd_T54 l j) r d) = true
    · rw [if_pos q, if_pos q]
    · rw [if_neg q, if_neg q]
theorem rclash0 {X Y Z : Int} (hZ : Sz X Y Z) {l : List S54} (hp : pl X Y Z l = 0) {r d : Int} (hr : 1 ≤ r ∧ r ≤ 10000) (hd : 1 ≤ d ∧ d ≤ 10000) : ∀ (m i k : Nat), i + m = l.length → m * 200 + 100 ≤ k →
    gangsawref44_Clash.l0 k l r d i X Y Z = match f0 X Y Z r d l m i with | some q => some ((q.1 : Int), (q.2 : Int)) | none => some (-1, -1) := by
  have hln := (sm_of hZ hp).1
  intro m
  induction m with
  | zero =>
    intro i k hm hk
    obtain ⟨k, rfl⟩ : ∃ q, k = q + 1 := ⟨k - 1, by omega⟩
    simp only [gangsawref44_Clash.l0]
    rw [if_neg (by omega)]; rfl
  | succ m ih =>
    intro i k hm hk
    obtain ⟨k, rfl⟩ : ∃ q, k = q + 1 := ⟨k - 1, by omega⟩
    simp only [gangsawref44_Clash.l0]
    rw [if_pos (by omega), wr (by omega)]
    obtain ⟨B, hB⟩ : ∃ B, B = m * 200 + 100 := ⟨_, rfl⟩
    have := rclash1 hZ hp hr hd i (by omega) _ B (fun k hk => by
      have := ih (i + 1) k (by omega) (by omega)
      rw [show ((i + 1 : Nat) : Int) = (i : Int) + 1 by omega] at this
      exact this) m (i + 1) k (by omega) (by omega)
    rw [show ((i + 1 : Nat) : Int) = (i : Int) + 1 by omega] at this
    rw [this]
    simp only [f0]
    cases f1 X Y Z r d l i m (i + 1) <;> rfl
theorem Clash_k (X Y Z r d : Int) (l : List S54) {k : Nat} (hk : 3500 ≤ k) : anchor_Clash.f k X Y Z l r d = some (if ¬ Sz X Y Z then (0, 0, 1) else if pl X Y Z l ≠ 0 then (0, 0, pl X Y Z l) else if ¬ ((1 ≤ r ∧ r ≤ 10000) ∧ 1 ≤ d ∧ d ≤ 10000) then (0, 0, 1) else match f0 X Y Z r d l l.length 0 with | some q => ((q.1 : Int), (q.2 : Int), 0) | none => (0, 0, 9)) := by
  obtain ⟨k, rfl⟩ : ∃ q, k = q + 1 := ⟨k - 1, by omega⟩
  unfold anchor_Clash.f
  simp only [sized_f, in_f, Option.bind_some, placed_k X Y Z l (show 40 ≤ k + 1 by omega), anchor_Clash.j0]
  by_cases h1 : Sz X Y Z
  · by_cases h2 : pl X Y Z l = 0
    · by_cases h3 : 1 ≤ r ∧ r ≤ 10000
      · by_cases h4 : 1 ≤ d ∧ d ≤ 10000
        · have hln := (sm_of h1 h2).1
          have := clash0 h1 h2 h3 h4 l.length 0 k (by omega) (by omega)
          rw [show ((0 : Nat) : Int) = 0 from rfl] at this
          simp only [h1, h2, h3, h4, decide_true, if_true, Bool.not_true, Bool.false_eq_true, if_false, this, not_true_eq_false, and_self, ne_eq]
          cases f0 X Y Z r d l l.length 0 <;> rfl
        · simp [h1, h2, h3, h4]
      · simp [h1, h2, h3]
    · simp [h1, h2]
  · simp [h1]
theorem AnchorClashes : gangsawlaw44_AnchorClashes.Pure := by
  intro X Y Z l r d g1 g2 g3 g4
  refine ⟨4003, ?_⟩
  unfold gangsawlaw44_AnchorClashes.f
  rw [aw (by omega)]
  by_cases h : (l.length : Int) > 30
  · rw [if_pos h]; rfl
  · rw [if_neg h, Clash_k _ _ _ _ _ _ (by omega), Mirror_k _ _ _ _ (by omega), rsized_f, rlie_k _ _ _ _ (by omega)]
    simp only [Option.bind_some, gangsawlaw44_AnchorClashes.j0, gangsawlaw44_AnchorClashes.j1, gangsawlaw44_AnchorClashes.j2, aw (show 200 ≤ 4000 by omega), aw (show 200 ≤ 4002 by omega), if_true]
    by_cases h1 : Sz X Y Z
    · by_cases h2 : pl X Y Z l = 0
      · have hln := (sm_of h1 h2).1
        simp only [h1, h2, decide_true, if_true, not_true_eq_false, if_false, ne_eq, rMirror_k h1 h2 (show 50 ≤ 4002 by omega), Option.bind_some, msame_k (show (l.map (mir X)).length ≤ 40 by simp; omega) (show 50 ≤ 4002 by omega), Bool.not_true, Bool.false_eq_true]
        by_cases h3 : 1 ≤ r ∧ r ≤ 10000
        · by_cases h4 : 1 ≤ d ∧ d ≤ 10000
          · have := rclash0 h1 h2 h3 h4 l.length 0 4000 (by omega) (by omega)
            rw [show ((0 : Nat) : Int) = 0 from rfl] at this
            have q1 : ¬ r < 1 := by omega
            have q2 : ¬ r > 10000 := by omega
            have q3 : ¬ d < 1 := by omega
            have q4 : ¬ d > 10000 := by omega
            unfold gangsawref44_Clash.f
            simp only [h3, h4, q1, q2, q3, q4, decide_false, if_true, if_false, Bool.false_eq_true, this, and_self, not_true_eq_false]
            cases f0 X Y Z r d l l.length 0 with
            | none => rfl
            | some q =>
              simp only [Option.bind_some]
              rw [if_neg (by omega), if_pos (by omega)]
              simp
          · have q1 : ¬ r < 1 := by omega
            have q2 : ¬ r > 10000 := by omega
            by_cases q3 : d < 1
            · simp [h3, h4, q1, q2, q3]
            · have q4 : d > 10000 := by omega
              simp [h3, h4, q1, q2, q3, q4]
        · by_cases q1 : r < 1
          · simp [h3, q1]
          · have q2 : r > 10000 := by omega
            simp [h3, q1, q2]
      · simp [h1, h2]
    · simp [h1]
end Go.Proofs.Ytmmmmgdafifpiaa.Pure
