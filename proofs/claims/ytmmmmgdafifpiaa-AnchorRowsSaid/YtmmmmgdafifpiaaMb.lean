import Derived.Test.YtmmmmgdafifpiaaXAx0
import Derived.Test.YtmmmmgdafifpiaaXAx10
import Derived.Test.YtmmmmgdafifpiaaXAx24
import Derived.Test.YtmmmmgdafifpiaaXAx27
import Derived.Test.YtmmmmgdafifpiaaMa
namespace Go.Proofs.Ytmmmmgdafifpiaa.XA
open Go.RowKit Go.Proofs.Ytmmmmgdafifpiaa.Opens Go.Proofs.YtmmmmgdafifpiaaW.PrintWords Go.Proofs.YtmmmmgdafifpiaaW.PrintLast Go.Proofs.YtmmmmgdafifpiaaW.PrintMore
set_option linter.unusedVariables false
set_option linter.unusedSimpArgs false

theorem mx_b (a b : Int) : (mx a b = a ∨ mx a b = b) ∧ a ≤ mx a b ∧ b ≤ mx a b := by unfold mx; split <;> omega
/-- Coordinates and edges are small. -/
def Sm (a : S54) : Prop := 0 ≤ a.f1.f0 ∧ a.f1.f0 ≤ 1000000 ∧ 0 ≤ a.f1.f1 ∧ a.f1.f1 ≤ 1000000 ∧ 0 ≤ a.f2 ∧ a.f2 ≤ 10000
theorem sm_of {X Y Z : Int} (hS : Sz X Y Z) {l : List S54} (h : pl X Y Z l = 0) : l.length ≤ 16 ∧ (∀ a ∈ l, Sm a) ∧ l.all ge = true ∧ l.all (gp X Y Z) = true := by
  unfold pl at h
  split at h
  · omega
  split at h
  · omega
  split at h
  · omega
  rename_i h1 h2 h3
  have h2' : l.all ge = true := by simpa using h2
  have h3' : l.all (gp X Y Z) = true := by simpa using h3
  refine ⟨by omega, fun a ha => ?_, h2', h3'⟩
  have e1 := List.all_eq_true.1 h2' a ha
  have e2 := List.all_eq_true.1 h3' a ha
  unfold ge at e1; unfold gp at e2
  have := fc_bounds hS a.f0
  simp only [decide_eq_true_eq] at e1 e2
  unfold Sm; omega
theorem sq_b {a b : Int} (h : -1000000 ≤ a ∧ a ≤ 1000000) : 0 ≤ a * a ∧ a * a ≤ 1000000000000 := by
  rcases Int.le_total 0 a with h0 | h0
  · have := Int.mul_le_mul h.2 h.2 h0 (by omega); have := Int.mul_nonneg h0 h0; omega
  · have e : a * a = (-a) * (-a) := by rw [Int.neg_mul_neg]
    have := Int.mul_le_mul (a := -a) (b := -a) (c := 1000000) (d := 1000000) (by omega) (by omega) (by omega) (by omega); have := Int.mul_nonneg (a := -a) (b := -a) (by omega) (by omega); omega
/-- The test of the distance without its wraps. -/
theorem dist_w {a b : S54} (ha : Sm a) (hb : Sm b) {s : Int} (hs : 1 ≤ s ∧ s ≤ 10000) :
    ((wrap64 ((wrap64 ((wrap64 (a.f1.f0 - b.f1.f0)) * (wrap64 (a.f1.f0 - b.f1.f0)))) + (wrap64 ((wrap64 (a.f1.f1 - b.f1.f1)) * (wrap64 (a.f1.f1 - b.f1.f1)))))) < (wrap64 (s * s))) ↔
      (a.f1.f0 - b.f1.f0) * (a.f1.f0 - b.f1.f0) + (a.f1.f1 - b.f1.f1) * (a.f1.f1 - b.f1.f1) < s * s := by
  unfold Sm at ha hb
  have h1 := sq_b (a := a.f1.f0 - b.f1.f0) (b := 0) (by omega)
  have h2 := sq_b (a := a.f1.f1 - b.f1.f1) (b := 0) (by omega)
  have h3 := sq_b (a := s) (b := 0) (by omega)
  rw [wr (x := a.f1.f0 - b.f1.f0) (by omega), wr (x := a.f1.f1 - b.f1.f1) (by omega), wr (x := (a.f1.f0 - b.f1.f0) * (a.f1.f0 - b.f1.f0)) (by omega), wr (x := (a.f1.f1 - b.f1.f1) * (a.f1.f1 - b.f1.f1)) (by omega), wr (x := s * s) (by omega), wr (by omega)]
/-- Some anchor is too near to one before it, from number i on. -/
def cfl (s : Int) (l : List S54) (i : Nat) : Bool := (l.take i).any (fun b => cf s (rd_T54 l i) b)
def cfs (s : Int) (l : List S54) : Nat → Nat → Bool
  | 0, _ => false
  | m + 1, i => cfl s l i || cfs s l m (i + 1)
/-- The error of anchors that do not keep a rule. -/
def kp (X Y Z e s : Int) (l : List S54) : Int := if l.all (gk X Y Z e) = false then 6 else if cfs s l l.length 0 = true then 10 else 0
theorem take_rd (l : List S54) (n j : Nat) (h : j < n) (hn : n ≤ l.length) : rd_T54 (l.take n) j = rd_T54 l j := by
  simp [rd_T54, List.getD_eq_getElem?_getD, List.getElem?_take, h]
theorem take_drop_rd (l : List S54) (n j : Nat) (h : j < n) (hn : n ≤ l.length) : (l.take n).drop j = rd_T54 l j :: (l.take n).drop (j + 1) := by
  rw [drop_rd _ j (by simp; omega), take_rd l n j h hn]
theorem kl2 (l : List S54) (hl : l.length ≤ 16) (hS : ∀ a ∈ l, Sm a) (e s b : Int) (hs : 1 ≤ s ∧ s ≤ 10000) (n i : Nat) (hi : i < l.length) (R : Option Int) (B : Nat)
    (hR : ∀ k, B ≤ k → anchor_keeps.l1 k l l (l.length : Int) ((i + 1 : Nat) : Int) e s b = R) : ∀ (m j k : Nat), j + m = i → m + B < k →
    anchor_keeps.l2 k l l (l.length : Int) i (l.take i) ((l.take i).length : Int) j e s b (rd_T54 l i).f0 (rd_T54 l i).f1.f0 (rd_T54 l i).f1.f1 (rd_T54 l i).f2 = if ((l.take i).drop j).any (fun c => cf s (rd_T54 l i) c) = true then some 10 else R := by
  have ht : (l.take i).length = i := by simp; omega
  intro m
  induction m with
  | zero =>
    intro j k hm hk
    obtain ⟨k, rfl⟩ : ∃ q, k = q + 1 := ⟨k - 1, by omega⟩
    simp only [anchor_keeps.l2]
    rw [if_neg (by omega), List.drop_of_length_le (by omega), wr (x := (i : Int) + 1) (by omega)]
    have := hR k (by omega)
    rw [show ((i + 1 : Nat) : Int) = (i : Int) + 1 by omega] at this
    rw [this]; rfl
  | succ m ih =>
    intro j k hm hk
    obtain ⟨k, rfl⟩ : ∃ q, k = q + 1 := ⟨k - 1, by omega⟩
    simp only [anchor_keeps.l2]
    have := ih (j + 1) k (by omega) (by omega)
    rw [show ((j + 1 : Nat) : Int) = (j : Int) + 1 by omega] at this
    rw [if_pos (by omega), if_pos (by omega), if_pos (by omega), wr (x := (j : Int) + 1) (by omega), this, take_drop_rd l i j (by omega) (by omega), List.any_cons, take_rd l i j (by omega) (by omega)]
    have hd := dist_w (hS _ (rd_mem l i hi)) (hS _ (rd_mem l j (by omega))) hs
    unfold cf
    grind
theorem kl1 (l : List S54) (hl : l.length ≤ 16) (hS : ∀ a ∈ l, Sm a) (e s b : Int) (hs : 1 ≤ s ∧ s ≤ 10000) : ∀ (m i k : Nat), i + m = l.length → m * 60 + 40 ≤ k →
    anchor_keeps.l1 k l l (l.length : Int) i e s b = some (if cfs s l m i = true then 10 else 0) := by
  intro m
  induction m with
  | zero =>
    intro i k hm hk
    obtain ⟨k, rfl⟩ : ∃ q, k = q + 1 := ⟨k - 1, by omega⟩
    simp only [anchor_keeps.l1]
    rw [if_neg (by omega)]; rfl
  | succ m ih =>
    intro i k hm hk
    obtain ⟨k, rfl⟩ : ∃ q, k = q + 1 := ⟨k - 1, by omega⟩
    simp only [anchor_keeps.l1]
    rw [if_pos (by omega), if_pos (by omega), if_pos (by omega), if_pos (by omega)]
    simp only [Option.bind_some, Int.toNat_natCast]
    have := kl2 l hl hS e s b hs l.length i (by omega) _ (m * 60 + 40) (fun k hk => ih (i + 1) k (by omega) hk) i 0 k (by omega) (by omega)
    rw [show ((0 : Nat) : Int) = 0 from rfl, List.drop_zero] at this
    rw [this]
    simp only [cfs, cfl]
    grind
theorem kl0 (X Y Z : Int) (hZ : Sz X Y Z) (l : List S54) (hl : l.length ≤ 16) (hS : ∀ a ∈ l, Sm a) (e s b : Int) (he : 0 ≤ e ∧ e ≤ 10000) (hs : 1 ≤ s ∧ s ≤ 10000) : ∀ (m i k : Nat), i + m = l.length → m + 1100 ≤ k →
    anchor_keeps.l0 k l l (l.length : Int) i X Y Z e s b = some (if (l.drop i).all (gk X Y Z e) = false then 6 else if cfs s l l.length 0 = true then 10 else 0) := by
  intro m
  induction m with
  | zero =>
    intro i k hm hk
    obtain ⟨k, rfl⟩ : ∃ q, k = q + 1 := ⟨k - 1, by omega⟩
    simp only [anchor_keeps.l0]
    rw [if_neg (by omega), List.drop_of_length_le (by omega)]
    have := kl1 l hl hS e s b hs l.length 0 k (by omega) (by omega)
    rw [show ((0 : Nat) : Int) = 0 from rfl] at this
    rw [this]; rfl
  | succ m ih =>
    intro i k hm hk
    obtain ⟨k, rfl⟩ : ∃ q, k = q + 1 := ⟨k - 1, by omega⟩
    simp only [anchor_keeps.l0, in_f, face_f, Option.bind_some]
    have := ih (i + 1) k (by omega) (by omega)
    rw [show ((i + 1 : Nat) : Int) = (i : Int) + 1 by omega] at this
    have hb := fc_bounds hZ (rd_T54 l i).f0
    have hm2 := mx_b e (rd_T54 l i).f2
    have hsm := hS _ (rd_mem l i (by omega))
    unfold Sm at hsm
    rw [if_pos (by omega), if_pos (by omega), if_pos (by omega), wr (x := (i : Int) + 1) (by omega), wr (by omega), wr (by omega), this, drop_rd l i (by omega), List.all_cons]
    unfold gk
    grind
theorem keeps_k {X Y Z : Int} (hZ : Sz X Y Z) {l : List S54} (hp : pl X Y Z l = 0) {e s b : Int} (hr : Po e s b) {k : Nat} (hk : 1200 ≤ k) : anchor_keeps.f k X Y Z l e s b = some (kp X Y Z e s l) := by
  obtain ⟨h1, h2, _⟩ := sm_of hZ hp
  unfold Po at hr
  exact kl0 X Y Z hZ l h1 h2 e s b (by omega) (by omega) l.length 0 k (by omega) (by omega)
/-- What Check returns. -/
def ck (X Y Z e s b : Int) (l : List S54) : Int := if Sz X Y Z ∧ Po e s b then (if pl X Y Z l = 0 then kp X Y Z e s l else pl X Y Z l) else 1
theorem Check_k (X Y Z e s b : Int) (l : List S54) {k : Nat} (hk : 1300 ≤ k) : anchor_Check.f k X Y Z l e s b = some (ck X Y Z e s b l) := by
  obtain ⟨k, rfl⟩ : ∃ q, k = q + 1 := ⟨k - 1, by omega⟩
  unfold anchor_Check.f ck
  simp only [sized_f, possible_f, Option.bind_some, anchor_Check.j0, placed_k X Y Z l (show 40 ≤ k by omega)]
  by_cases h1 : Sz X Y Z
  · by_cases h2 : Po e s b
    · by_cases h3 : pl X Y Z l = 0
      · simp [h1, h2, h3, keeps_k h1 h3 h2 (show 1200 ≤ k by omega)]
      · simp [h1, h2, h3]
    · simp [h1, h2]
  · simp [h1]
theorem rk2 (l : List S54) (hl : l.length ≤ 16) (hS : ∀ a ∈ l, Sm a) (e s b : Int) (hs : 1 ≤ s ∧ s ≤ 10000) (i : Nat) (hi : i < l.length) (R : Option Int) (B : Nat)
    (hR : ∀ k, B ≤ k → gangsawref44_Check.l1 k l ((i + 1 : Nat) : Int) e s b = R) : ∀ (m j k : Nat), j + m = i → m + B < k →
    gangsawref44_Check.l2 k l i j e s b = if ((l.take i).drop j).any (fun c => cf s (rd_T54 l i) c) = true then some 10 else R := by
  have ht : (l.take i).length = i := by simp; omega
  intro m
  induction m with
  | zero =>
    intro j k hm hk
    obtain ⟨k, rfl⟩ : ∃ q, k = q + 1 := ⟨k - 1, by omega⟩
    simp only [gangsawref44_Check.l2]
    rw [if_neg (by omega), List.drop_of_length_le (by omega), wr (x := (i : Int) + 1) (by omega)]
    have := hR k (by omega)
    rw [show ((i + 1 : Nat) : Int) = (i : Int) + 1 by omega] at this
    rw [this]; rfl
  | succ m ih =>
    intro j k hm hk
    obtain ⟨k, rfl⟩ : ∃ q, k = q + 1 := ⟨k - 1, by omega⟩
    simp only [gangsawref44_Check.l2]
    have := ih (j + 1) k (by omega) (by omega)
    rw [show ((j + 1 : Nat) : Int) = (j : Int) + 1 by omega] at this
    rw [if_pos (by omega), if_pos (by omega), if_pos (by omega), if_pos (by omega), if_pos (by omega), wr (x := (j : Int) + 1) (by omega), this, take_drop_rd l i j (by omega) (by omega), List.any_cons]
    have hd := dist_w (hS _ (rd_mem l i hi)) (hS _ (rd_mem l j (by omega))) hs
    unfold cf
    grind
theorem rk1 (l : List S54) (hl : l.length ≤ 16) (hS : ∀ a ∈ l, Sm a) (e s b : Int) (hs : 1 ≤ s ∧ s ≤ 10000) : ∀ (m i k : Nat), i + m = l.length → m * 60 + 40 ≤ k →
    gangsawref44_Check.l1 k l i e s b = some (if cfs s l m i = true then 10 else 0) := by
  intro m
  induction m with
  | zero =>
    intro i k hm hk
    obtain ⟨k, rfl⟩ : ∃ q, k = q + 1 := ⟨k - 1, by omega⟩
    simp only [gangsawref44_Check.l1]
    rw [if_neg (by omega)]; rfl
  | succ m ih =>
    intro i k hm hk
    obtain ⟨k, rfl⟩ : ∃ q, k = q + 1 := ⟨k - 1, by omega⟩
    simp only [gangsawref44_Check.l1]
    rw [if_pos (by omega)]
    have := rk2 l hl hS e s b hs i (by omega) _ (m * 60 + 40) (fun k hk => ih (i + 1) k (by omega) hk) i 0 k (by omega) (by omega)
    rw [show ((0 : Nat) : Int) = 0 from rfl, List.drop_zero] at this
    rw [this]
    simp only [cfs, cfl]
    grind
theorem rk0 (X Y Z : Int) (hZ : Sz X Y Z) (l : List S54) (hl : l.length ≤ 16) (hS : ∀ a ∈ l, Sm a) (e s b : Int) (he : 0 ≤ e ∧ e ≤ 10000) (hs : 1 ≤ s ∧ s ≤ 10000) : ∀ (m i k : Nat), i + m = l.length → m + 1100 ≤ k →
    gangsawref44_Check.l0 k l i X Y Z e s b = some (if (l.drop i).all (gk X Y Z e) = false then 6 else if cfs s l l.length 0 = true then 10 else 0) := by
  intro m
  induction m with
  | zero =>
    intro i k hm hk
    obtain ⟨k, rfl⟩ : ∃ q, k = q + 1 := ⟨k - 1, by omega⟩
    simp only [gangsawref44_Check.l0]
    rw [if_neg (by omega), List.drop_of_length_le (by omega)]
    have := rk1 l hl hS e s b hs l.length 0 k (by omega) (by omega)
    rw [show ((0 : Nat) : Int) = 0 from rfl] at this
    rw [this]; rfl
  | succ m ih =>
    intro i k hm hk
    obtain ⟨k, rfl⟩ : ∃ q, k = q + 1 := ⟨k - 1, by omega⟩
    simp only [gangsawref44_Check.l0, rface_f, Option.bind_some]
    have := ih (i + 1) k (by omega) (by omega)
    rw [show ((i + 1 : Nat) : Int) = (i : Int) + 1 by omega] at this
    have hb := fc_bounds hZ (rd_T54 l i).f0
    have hm2 := mx_b e (rd_T54 l i).f2
    have hsm := hS _ (rd_mem l i (by omega))
    unfold Sm at hsm
    rw [if_pos (by omega), if_pos (by omega), wr (x := (i : Int) + 1) (by omega), wr (by omega), wr (by omega), this, drop_rd l i (by omega), List.all_cons]
    unfold gk
    grind
theorem rcheck_k (X Y Z e s b : Int) (l : List S54) {k : Nat} (hk : 1300 ≤ k) : gangsawref44_Check.f k X Y Z l e s b = some (ck X Y Z e s b l) := by
  obtain ⟨k, rfl⟩ : ∃ q, k = q + 1 := ⟨k - 1, by omega⟩
  unfold gangsawref44_Check.f ck
  simp only [rsized_f, rpossible_f, Option.bind_some, gangsawref44_Check.j0, rlie_k X Y Z l (show 40 ≤ k by omega)]
  by_cases h1 : Sz X Y Z
  · by_cases h2 : Po e s b
    · by_cases h3 : pl X Y Z l = 0
      · obtain ⟨g1, g2, _⟩ := sm_of h1 h3
        have hr := h2
        unfold Po at hr
        have := rk0 X Y Z h1 l g1 g2 e s b (by omega) (by omega) l.length 0 k (by omega) (by omega)
        rw [show ((0 : Nat) : Int) = 0 from rfl, List.drop_zero] at this
        simp only [h1, h2, h3, this, decide_true, if_true, Bool.not_true, Bool.false_eq_true, if_false, and_self, kp]
      · simp [h1, h2, h3]
    · simp [h1, h2]
  · simp [h1]
end Go.Proofs.Ytmmmmgdafifpiaa.XA
