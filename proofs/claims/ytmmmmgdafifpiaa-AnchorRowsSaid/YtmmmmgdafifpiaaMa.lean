import Derived.Test.YtmmmmgdafifpiaaXAx0
import Derived.Test.YtmmmmgdafifpiaaXAx3
import Derived.Test.YtmmmmgdafifpiaaXAx5
import Derived.Test.YtmmmmgdafifpiaaXAx6
import Derived.Test.YtmmmmgdafifpiaaXAx9
import Derived.Test.YtmmmmgdafifpiaaXAx15
import Derived.Test.YtmmmmgdafifpiaaXAx18
import Derived.Test.YtmmmmgdafifpiaaXAx20
import Derived.Test.YtmmmmgdafifpiaaXAx21
import Derived.Test.YtmmmmgdafifpiaaXAx23
namespace Go.Proofs.Ytmmmmgdafifpiaa.XA
open Go.RowKit Go.Proofs.Ytmmmmgdafifpiaa.Opens Go.Proofs.YtmmmmgdafifpiaaW.PrintWords Go.Proofs.YtmmmmgdafifpiaaW.PrintLast Go.Proofs.YtmmmmgdafifpiaaW.PrintMore
set_option linter.unusedVariables false
set_option linter.unusedSimpArgs false

theorem awake_100 : gangsawlaw44_awake.f 200 = some true := by decide +kernel
theorem aw {k : Nat} (h : 200 ≤ k) : gangsawlaw44_awake.f k = some true := at_rounds (g := gangsawlaw44_awake.f) (fun k => gangsawlaw44_awake.mono k) h awake_100

theorem wr {x : Int} (h : -9223372036854775808 ≤ x ∧ x ≤ 9223372036854775807) : wrap64 x = x := by unfold wrap64; omega
theorem in_f (a b c : Int) : anchor_in.f a b c = some (decide (b ≤ a ∧ a ≤ c)) := by
  unfold anchor_in.f; by_cases h : b ≤ a <;> simp [h]
/-- The sides of a face. -/
def fc (X Y Z f : Int) : Int × Int := if wrap64 (Int.tdiv f 2) = 0 then (Y, Z) else if wrap64 (Int.tdiv f 2) = 1 then (X, Z) else (X, Y)
theorem face_f (X Y Z f : Int) : anchor_face.f X Y Z f = some (fc X Y Z f) := by
  unfold anchor_face.f fc; split <;> (try split) <;> rfl
theorem rface_f (X Y Z f : Int) : gangsawref44_Face.f X Y Z f = some (fc X Y Z f) := by
  unfold gangsawref44_Face.f fc; split <;> (try split) <;> rfl
/-- A size that is possible. -/
def Sz (X Y Z : Int) : Prop := 1 ≤ X ∧ X ≤ 1000000 ∧ 1 ≤ Y ∧ Y ≤ 1000000 ∧ 1 ≤ Z ∧ Z ≤ 1000000
instance (X Y Z : Int) : Decidable (Sz X Y Z) := by unfold Sz; infer_instance
def Po (e s b : Int) : Prop := 0 ≤ e ∧ e ≤ 10000 ∧ 1 ≤ s ∧ s ≤ 10000 ∧ 1 ≤ b ∧ b ≤ 1000000000000
instance (X Y Z : Int) : Decidable (Po X Y Z) := by unfold Po; infer_instance
theorem sized_f (X Y Z : Int) : anchor_sized.f X Y Z = some (decide (Sz X Y Z)) := by
  unfold anchor_sized.f Sz; simp only [in_f, Option.bind_some]; grind
theorem rsized_f (X Y Z : Int) : gangsawref44_Size.f X Y Z = some (decide (Sz X Y Z)) := by
  unfold gangsawref44_Size.f gangsawref44_sized.f Sz; grind
theorem possible_f (e s b : Int) : anchor_possible.f e s b = some (decide (Po e s b)) := by
  unfold anchor_possible.f Po; simp only [in_f, Option.bind_some]; grind
theorem rpossible_f (e s b : Int) : gangsawref44_Possible.f e s b = some (decide (Po e s b)) := by
  unfold gangsawref44_Possible.f Po; grind
theorem ris_f (f : Int) : gangsawref44_Is.f f = some (decide (0 ≤ f ∧ f ≤ 5)) := by
  unfold gangsawref44_Is.f; grind
theorem fc_bounds {X Y Z : Int} (h : Sz X Y Z) (f : Int) : 1 ≤ (fc X Y Z f).1 ∧ (fc X Y Z f).1 ≤ 1000000 ∧ 1 ≤ (fc X Y Z f).2 ∧ (fc X Y Z f).2 ≤ 1000000 := by
  unfold Sz at h; unfold fc; split <;> (try split) <;> simp only <;> omega
theorem Face_f (X Y Z f : Int) : anchor_Face.f X Y Z f = some (if Sz X Y Z ∧ 0 ≤ f ∧ f ≤ 5 then ((fc X Y Z f).1, (fc X Y Z f).2, 0) else (0, 0, 1)) := by
  unfold anchor_Face.f; simp only [sized_f, in_f, face_f, Option.bind_some]; grind

theorem drop_rd (l : List S54) (i : Nat) (h : i < l.length) : l.drop i = rd_T54 l i :: l.drop (i + 1) := by
  rw [List.drop_eq_getElem_cons h]
  congr 1
  simp [rd_T54, List.getD_eq_getElem?_getD, List.getElem?_eq_getElem h]
theorem rd_mem (l : List S54) (i : Nat) (h : i < l.length) : rd_T54 l i ∈ l := by
  have : rd_T54 l i = l[i] := by simp [rd_T54, List.getD_eq_getElem?_getD, List.getElem?_eq_getElem h]
  rw [this]; exact List.getElem_mem h
/-- An anchor's face and edge are possible. -/
def ge (a : S54) : Bool := decide ((0 ≤ a.f0 ∧ a.f0 ≤ 5) ∧ 0 ≤ a.f2 ∧ a.f2 ≤ 10000)
/-- It lies on its face. -/
def gp (X Y Z : Int) (a : S54) : Bool := decide ((0 ≤ a.f1.f0 ∧ a.f1.f0 ≤ (fc X Y Z a.f0).1) ∧ 0 ≤ a.f1.f1 ∧ a.f1.f1 ≤ (fc X Y Z a.f0).2)
/-- It keeps away from the edges. -/
def gk (X Y Z e : Int) (a : S54) : Bool := decide ((mx e a.f2 ≤ a.f1.f0 ∧ a.f1.f0 ≤ (fc X Y Z a.f0).1 - mx e a.f2) ∧ mx e a.f2 ≤ a.f1.f1 ∧ a.f1.f1 ≤ (fc X Y Z a.f0).2 - mx e a.f2)
/-- Two anchors are too near. -/
def cf (s : Int) (a b : S54) : Bool := decide (a.f0 = b.f0 ∧ (a.f1.f0 - b.f1.f0) * (a.f1.f0 - b.f1.f0) + (a.f1.f1 - b.f1.f1) * (a.f1.f1 - b.f1.f1) < s * s)
/-- The error of the anchors' places. -/
def pl (X Y Z : Int) (l : List S54) : Int := if (l.length : Int) > 16 then 7 else if l.all ge = false then 1 else if l.all (gp X Y Z) = false then 12 else 0
theorem pl1 (l : List S54) (hl : l.length ≤ 16) (X Y Z : Int) : ∀ (m i k : Nat), i + m = l.length → m < k → anchor_placed.l1 k l (l.length : Int) i X Y Z = some (if (l.drop i).all (gp X Y Z) = false then 12 else 0) := by
  intro m
  induction m with
  | zero =>
    intro i k hm hk
    obtain ⟨k, rfl⟩ : ∃ q, k = q + 1 := ⟨k - 1, by omega⟩
    simp only [anchor_placed.l1]
    rw [if_neg (by omega), List.drop_of_length_le (by omega)]; rfl
  | succ m ih =>
    intro i k hm hk
    obtain ⟨k, rfl⟩ : ∃ q, k = q + 1 := ⟨k - 1, by omega⟩
    simp only [anchor_placed.l1, in_f, face_f, Option.bind_some]
    rw [if_pos (by omega), if_pos (by omega), if_pos (by omega), wr (x := (i : Int) + 1) (by omega), drop_rd l i (by omega)]
    have := ih (i + 1) k (by omega) (by omega)
    rw [show ((i + 1 : Nat) : Int) = (i : Int) + 1 by omega] at this
    rw [this, List.all_cons]
    unfold gp
    grind
theorem pl0 (l : List S54) (hl : l.length ≤ 16) (X Y Z : Int) : ∀ (m i k : Nat), i + m = l.length → m + 20 < k → anchor_placed.l0 k l l (l.length : Int) i X Y Z = some (if (l.drop i).all ge = false then 1 else if l.all (gp X Y Z) = false then 12 else 0) := by
  intro m
  induction m with
  | zero =>
    intro i k hm hk
    obtain ⟨k, rfl⟩ : ∃ q, k = q + 1 := ⟨k - 1, by omega⟩
    simp only [anchor_placed.l0]
    rw [if_neg (by omega), List.drop_of_length_le (by omega)]
    have := pl1 l hl X Y Z l.length 0 k (by omega) (by omega)
    rw [show ((0 : Nat) : Int) = 0 from rfl, List.drop_zero] at this
    rw [this]; rfl
  | succ m ih =>
    intro i k hm hk
    obtain ⟨k, rfl⟩ : ∃ q, k = q + 1 := ⟨k - 1, by omega⟩
    simp only [anchor_placed.l0, in_f, Option.bind_some]
    rw [if_pos (by omega), if_pos (by omega), if_pos (by omega), wr (x := (i : Int) + 1) (by omega), drop_rd l i (by omega)]
    have := ih (i + 1) k (by omega) (by omega)
    rw [show ((i + 1 : Nat) : Int) = (i : Int) + 1 by omega] at this
    rw [this, List.all_cons]
    unfold ge
    grind
theorem placed_k (X Y Z : Int) (l : List S54) {k : Nat} (hk : 40 ≤ k) : anchor_placed.f k X Y Z l = some (pl X Y Z l) := by
  unfold anchor_placed.f pl
  by_cases h : (l.length : Int) > 16
  · rw [if_pos h, if_pos h]
  · rw [if_neg h, if_neg h]
    exact pl0 l (by omega) X Y Z l.length 0 k (by omega) (by omega)
theorem rl1 (l : List S54) (hl : l.length ≤ 16) (X Y Z : Int) : ∀ (m i k : Nat), i + m = l.length → m < k → gangsawref44_Lie.l1 k l i X Y Z = some (if (l.drop i).all (gp X Y Z) = false then 12 else 0) := by
  intro m
  induction m with
  | zero =>
    intro i k hm hk
    obtain ⟨k, rfl⟩ : ∃ q, k = q + 1 := ⟨k - 1, by omega⟩
    simp only [gangsawref44_Lie.l1]
    rw [if_neg (by omega), List.drop_of_length_le (by omega)]; rfl
  | succ m ih =>
    intro i k hm hk
    obtain ⟨k, rfl⟩ : ∃ q, k = q + 1 := ⟨k - 1, by omega⟩
    simp only [gangsawref44_Lie.l1, rface_f, Option.bind_some]
    rw [if_pos (by omega), if_pos (by omega), wr (x := (i : Int) + 1) (by omega), drop_rd l i (by omega)]
    have := ih (i + 1) k (by omega) (by omega)
    rw [show ((i + 1 : Nat) : Int) = (i : Int) + 1 by omega] at this
    rw [this, List.all_cons]
    unfold gp
    grind
theorem rl0 (l : List S54) (hl : l.length ≤ 16) (X Y Z : Int) : ∀ (m i k : Nat), i + m = l.length → m + 20 < k → gangsawref44_Lie.l0 k l i X Y Z = some (if (l.drop i).all ge = false then 1 else if l.all (gp X Y Z) = false then 12 else 0) := by
  intro m
  induction m with
  | zero =>
    intro i k hm hk
    obtain ⟨k, rfl⟩ : ∃ q, k = q + 1 := ⟨k - 1, by omega⟩
    simp only [gangsawref44_Lie.l0]
    rw [if_neg (by omega), List.drop_of_length_le (by omega)]
    have := rl1 l hl X Y Z l.length 0 k (by omega) (by omega)
    rw [show ((0 : Nat) : Int) = 0 from rfl, List.drop_zero] at this
    rw [this]; rfl
  | succ m ih =>
    intro i k hm hk
    obtain ⟨k, rfl⟩ : ∃ q, k = q + 1 := ⟨k - 1, by omega⟩
    simp only [gangsawref44_Lie.l0, ris_f, Option.bind_some]
    rw [if_pos (by omega), if_pos (by omega), wr (x := (i : Int) + 1) (by omega), drop_rd l i (by omega)]
    have := ih (i + 1) k (by omega) (by omega)
    rw [show ((i + 1 : Nat) : Int) = (i : Int) + 1 by omega] at this
    rw [this, List.all_cons]
    unfold ge
    grind
theorem rlie_k (X Y Z : Int) (l : List S54) {k : Nat} (hk : 40 ≤ k) : gangsawref44_Lie.f k X Y Z l = some (pl X Y Z l) := by
  unfold gangsawref44_Lie.f pl
  by_cases h : (l.length : Int) > 16
  · rw [if_pos h, if_pos h]
  · rw [if_neg h, if_neg h]
    exact rl0 l (by omega) X Y Z l.length 0 k (by omega) (by omega)
end Go.Proofs.Ytmmmmgdafifpiaa.XA
