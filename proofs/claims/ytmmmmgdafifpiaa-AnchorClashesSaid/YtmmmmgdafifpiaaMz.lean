import Derived.Test.YtmmmmgdafifpiaaXAx0
import Derived.Test.YtmmmmgdafifpiaaXAx3
import Derived.Test.YtmmmmgdafifpiaaXAx6
import Derived.Test.YtmmmmgdafifpiaaXAx9
import Derived.Test.YtmmmmgdafifpiaaXAx14
import Derived.Test.YtmmmmgdafifpiaaXAx18
import Derived.Test.YtmmmmgdafifpiaaXAx20
import Derived.Test.YtmmmmgdafifpiaaXAx21
import Derived.Test.YtmmmmgdafifpiaaXAx23
import Derived.Test.YtmmmmgdafifpiaaXAx31
import Derived.Test.YtmmmmgdafifpiaaXAx32
namespace Go.Proofs.Ytmmmmgdafifpiaa.XA
open Go.RowKit Go.Proofs.Ytmmmmgdafifpiaa.Opens Go.Proofs.YtmmmmgdafifpiaaW.PrintWords Go.Proofs.YtmmmmgdafifpiaaW.PrintLast Go.Proofs.YtmmmmgdafifpiaaW.PrintMore
set_option linter.unusedVariables false
set_option linter.unusedSimpArgs false

set_option linter.unusedSimpArgs false
theorem awake_100 : gangsawlaw44_awake.f 200 = some true := by decide +kernel
theorem aw {k : Nat} (h : 200 ≤ k) : gangsawlaw44_awake.f k = some true := at_rounds (g := gangsawlaw44_awake.f) (fun k => gangsawlaw44_awake.mono k) h awake_100

theorem wr {x : Int} (h : -9223372036854775808 ≤ x ∧ x ≤ 9223372036854775807) : wrap64 x = x := by unfold wrap64; omega
theorem in_f (a b c : Int) : anchor_in.f a b c = some (decide (b ≤ a ∧ a ≤ c)) := by
  unfold anchor_in.f; by_cases h : b ≤ a <;> simp [h]
def fc (X Y Z f : Int) : Int × Int := if wrap64 (Int.tdiv f 2) = 0 then (Y, Z) else if wrap64 (Int.tdiv f 2) = 1 then (X, Z) else (X, Y)
theorem face_f (X Y Z f : Int) : anchor_face.f X Y Z f = some (fc X Y Z f) := by
  unfold anchor_face.f fc; split <;> (try split) <;> rfl
theorem rface_f (X Y Z f : Int) : gangsawref44_Face.f X Y Z f = some (fc X Y Z f) := by
  unfold gangsawref44_Face.f fc; split <;> (try split) <;> rfl
def Sz (X Y Z : Int) : Prop := 1 ≤ X ∧ X ≤ 1000000 ∧ 1 ≤ Y ∧ Y ≤ 1000000 ∧ 1 ≤ Z ∧ Z ≤ 1000000
instance (X Y Z : Int) : Decidable (Sz X Y Z) := by unfold Sz; infer_instance
theorem sized_f (X Y Z : Int) : anchor_sized.f X Y Z = some (decide (Sz X Y Z)) := by
  unfold anchor_sized.f Sz; simp only [in_f, Option.bind_some]; grind
theorem rsized_f (X Y Z : Int) : gangsawref44_Size.f X Y Z = some (decide (Sz X Y Z)) := by
  unfold gangsawref44_Size.f gangsawref44_sized.f Sz; grind
theorem ris_f (f : Int) : gangsawref44_Is.f f = some (decide (0 ≤ f ∧ f ≤ 5)) := by
  unfold gangsawref44_Is.f; grind
theorem fc_bounds {X Y Z : Int} (h : Sz X Y Z) (f : Int) : 1 ≤ (fc X Y Z f).1 ∧ (fc X Y Z f).1 ≤ 1000000 ∧ 1 ≤ (fc X Y Z f).2 ∧ (fc X Y Z f).2 ≤ 1000000 := by
  unfold Sz at h; unfold fc; split <;> (try split) <;> simp only <;> omega
theorem drop_rd (l : List S54) (i : Nat) (h : i < l.length) : l.drop i = rd_T54 l i :: l.drop (i + 1) := by
  rw [List.drop_eq_getElem_cons h]
  congr 1
  simp [rd_T54, List.getD_eq_getElem?_getD, List.getElem?_eq_getElem h]
theorem rd_mem (l : List S54) (i : Nat) (h : i < l.length) : rd_T54 l i ∈ l := by
  have : rd_T54 l i = l[i] := by simp [rd_T54, List.getD_eq_getElem?_getD, List.getElem?_eq_getElem h]
  rw [this]; exact List.getElem_mem h
def ge (a : S54) : Bool := decide ((0 ≤ a.f0 ∧ a.f0 ≤ 5) ∧ 0 ≤ a.f2 ∧ a.f2 ≤ 10000)
def gp (X Y Z : Int) (a : S54) : Bool := decide ((0 ≤ a.f1.f0 ∧ a.f1.f0 ≤ (fc X Y Z a.f0).1) ∧ 0 ≤ a.f1.f1 ∧ a.f1.f1 ≤ (fc X Y Z a.f0).2)
def pl (X Y Z : Int) (l : List S54) : Int := if (l.length : Int) > 16 then 7 else if l.all ge = false then 1 else if l.all (gp X Y Z) = false then 12 else 0
theorem pl1 (l : List S54) (hl : l.length ≤ 16) (X Y Z : Int) : ∀ (m i k : Nat), i + m = l.length → m < k → anchor_placed.l1 k l (l.length : Int) i X Y Z = some (if (l.drop i).all (gp X Y Z) = false then 12 else 0) := by
  intro m
  induction m with
  | zero =>
    intro i k hm hk
    obtain ⟨k, rfl⟩ : ∃ q, k = q + 1 := ⟨k - 1, by omega⟩
    simp only [anchor_placed.l1]
    rw [if_neg (by omega), List.drop_of_length_le (by omega)]; rfl
  | succ m ih =>
    intro i k hm hk
    obtain ⟨k, rfl⟩ : ∃ q, k = q + 1 := ⟨k - 1, by omega⟩
    simp only [anchor_placed.l1, in_f, face_f, Option.bind_some]
    rw [if_pos (by omega), if_pos (by omega), if_pos (by omega), wr (x := (i : Int) + 1) (by omega), drop_rd l i (by omega)]
    have := ih (i + 1) k (by omega) (by omega)
    rw [show ((i + 1 : Nat) : Int) = (i : Int) + 1 by omega] at this
    rw [this, List.all_cons]
    unfold gp
    grind
theorem pl0 (l : List S54) (hl : l.length ≤ 16) (X Y Z : Int) : ∀ (m i k : Nat), i + m = l.length → m + 20 < k → anchor_placed.l0 k l l (l.length : Int) i X Y Z = some (if (l.drop i).all ge = false then 1 else if l.all (gp X Y Z) = false then 12 else 0) := by
  intro m
  induction m with
  | zero =>
    intro i k hm hk
    obtain ⟨k, rfl⟩ : ∃ q, k = q + 1 := ⟨k - 1, by omega⟩
    simp only [anchor_placed.l0]
    rw [if_neg (by omega), List.drop_of_length_le (by omega)]
    have := pl1 l hl X Y Z l.length 0 k (by omega) (by omega)
    rw [show ((0 : Nat) : Int) = 0 from rfl, List.drop_zero] at this
    rw [this]; rfl
  | succ m ih =>
    intro i k hm hk
    obtain ⟨k, rfl⟩ : ∃ q, k = q + 1 := ⟨k - 1, by omega⟩
    simp only [anchor_placed.l0, in_f, Option.bind_some]
    rw [if_pos (by omega), if_pos (by omega), if_pos (by omega), wr (x := (i : Int) + 1) (by omega), drop_rd l i (by omega)]
    have := ih (i + 1) k (by omega) (by omega)
    rw [show ((i + 1 : Nat) : Int) = (i : Int) + 1 by omega] at this
    rw [this, List.all_cons]
    unfold ge
    grind
theorem placed_k (X Y Z : Int) (l : List S54) {k : Nat} (hk : 40 ≤ k) : anchor_placed.f k X Y Z l = some (pl X Y Z l) := by
  unfold anchor_placed.f pl
  by_cases h : (l.length : Int) > 16
  · rw [if_pos h, if_pos h]
  · rw [if_neg h, if_neg h]
    exact pl0 l (by omega) X Y Z l.length 0 k (by omega) (by omega)
theorem rl1 (l : List S54) (hl : l.length ≤ 16) (X Y Z : Int) : ∀ (m i k : Nat), i + m = l.length → m < k → gangsawref44_Lie.l1 k l i X Y Z = some (if (l.drop i).all (gp X Y Z) = false then 12 else 0) := by
  intro m
  induction m with
  | zero =>
    intro i k hm hk
    obtain ⟨k, rfl⟩ : ∃ q, k = q + 1 := ⟨k - 1, by omega⟩
    simp only [gangsawref44_Lie.l1]
    rw [if_neg (by omega), List.drop_of_length_le (by omega)]; rfl
  | succ m ih =>
    intro i k hm hk
    obtain ⟨k, rfl⟩ : ∃ q, k = q + 1 := ⟨k - 1, by omega⟩
    simp only [gangsawref44_Lie.l1, rface_f, Option.bind_some]
    rw [if_pos (by omega), if_pos (by omega), wr (x := (i : Int) + 1) (by omega), drop_rd l i (by omega)]
    have := ih (i + 1) k (by omega) (by omega)
    rw [show ((i + 1 : Nat) : Int) = (i : Int) + 1 by omega] at this
    rw [this, List.all_cons]
    unfold gp
    grind
theorem rl0 (l : List S54) (hl : l.length ≤ 16) (X Y Z : Int) : ∀ (m i k : Nat), i + m = l.length → m + 20 < k → gangsawref44_Lie.l0 k l i X Y Z = some (if (l.drop i).all ge = false then 1 else if l.all (gp X Y Z) = false then 12 else 0) := by
  intro m
  induction m with
  | zero =>
    intro i k hm hk
    obtain ⟨k, rfl⟩ : ∃ q, k = q + 1 := ⟨k - 1, by omega⟩
    simp only [gangsawref44_Lie.l0]
    rw [if_neg (by omega), List.drop_of_length_le (by omega)]
    have := rl1 l hl X Y Z l.length 0 k (by omega) (by omega)
    rw [show ((0 : Nat) : Int) = 0 from rfl, List.drop_zero] at this
    rw [this]; rfl
  | succ m ih =>
    intro i k hm hk
    obtain ⟨k, rfl⟩ : ∃ q, k = q + 1 := ⟨k - 1, by omega⟩
    simp only [gangsawref44_Lie.l0, ris_f, Option.bind_some]
    rw [if_pos (by omega), if_pos (by omega), wr (x := (i : Int) + 1) (by omega), drop_rd l i (by omega)]
    have := ih (i + 1) k (by omega) (by omega)
    rw [show ((i + 1 : Nat) : Int) = (i : Int) + 1 by omega] at this
    rw [this, List.all_cons]
    unfold ge
    grind
theorem rlie_k (X Y Z : Int) (l : List S54) {k : Nat} (hk : 40 ≤ k) : gangsawref44_Lie.f k X Y Z l = some (pl X Y Z l) := by
  unfold gangsawref44_Lie.f pl
  by_cases h : (l.length : Int) > 16
  · rw [if_pos h, if_pos h]
  · rw [if_neg h, if_neg h]
    exact rl0 l (by omega) X Y Z l.length 0 k (by omega) (by omega)
def Sm (a : S54) : Prop := 0 ≤ a.f1.f0 ∧ a.f1.f0 ≤ 1000000 ∧ 0 ≤ a.f1.f1 ∧ a.f1.f1 ≤ 1000000 ∧ 0 ≤ a.f2 ∧ a.f2 ≤ 10000
theorem sm_of {X Y Z : Int} (hS : Sz X Y Z) {l : List S54} (h : pl X Y Z l = 0) : l.length ≤ 16 ∧ (∀ a ∈ l, Sm a) ∧ l.all ge = true ∧ l.all (gp X Y Z) = true := by
  unfold pl at h
  split at h
  · omega
  split at h
  · omega
  split at h
  · omega
  rename_i h1 h2 h3
  have h2' : l.all ge = true := by simpa using h2
  have h3' : l.all (gp X Y Z) = true := by simpa using h3
  refine ⟨by omega, fun a ha => ?_, h2', h3'⟩
  have e1 := List.all_eq_true.1 h2' a ha
  have e2 := List.all_eq_true.1 h3' a ha
  unfold ge at e1; unfold gp at e2
  have := fc_bounds hS a.f0
  simp only [decide_eq_true_eq] at e1 e2
  unfold Sm; omega
theorem rd_get (l : List S54) (i : Nat) (h : i < l.length) : rd_T54 l i = l[i] := by
  simp [rd_T54, List.getD_eq_getElem?_getD, List.getElem?_eq_getElem h]
theorem msame0 (xs : List S54) (hl : xs.length ≤ 40) : ∀ (m i k : Nat), i + m = xs.length → m < k → gangsawref44_Same.l0 k xs xs i = some true := by
  intro m
  induction m with
  | zero =>
    intro i k hm hk
    obtain ⟨k, rfl⟩ : ∃ q, k = q + 1 := ⟨k - 1, by omega⟩
    simp only [gangsawref44_Same.l0]
    rw [if_neg (by omega)]
  | succ m ih =>
    intro i k hm hk
    obtain ⟨k, rfl⟩ : ∃ q, k = q + 1 := ⟨k - 1, by omega⟩
    have := ih (i + 1) k (by omega) (by omega)
    rw [show ((i + 1 : Nat) : Int) = (i : Int) + 1 by omega] at this
    simp only [gangsawref44_Same.l0]
    rw [if_pos (by omega), if_pos (by omega), if_pos (by omega), wr (by omega), this]
    simp
theorem msame_k {xs : List S54} (hl : xs.length ≤ 40) {k : Nat} (hk : 50 ≤ k) : gangsawref44_Same.f k xs xs = some true := by
  unfold gangsawref44_Same.f
  rw [if_pos rfl]
  exact msame0 xs hl xs.length 0 k (by omega) (by omega)
def mir (X : Int) (a : S54) : S54 := if a.f0 < 2 then ⟨1 - a.f0, a.f1, a.f2⟩ else ⟨a.f0, ⟨X - a.f1.f0, a.f1.f1⟩, a.f2⟩
theorem fcv (X Y Z c q : Int) (h : wrap64 (Int.tdiv c 2) = q) : fc X Y Z c = if q = 0 then (Y, Z) else if q = 1 then (X, Z) else (X, Y) := by unfold fc; rw [h]
theorem fc_12 (X Y Z f : Int) (h : 0 ≤ f ∧ f < 2) : fc X Y Z (1 - f) = fc X Y Z f ∧ fc X Y Z f = (Y, Z) := by
  have d0 := fcv X Y Z 0 0 (by decide +kernel)
  have d1 := fcv X Y Z 1 0 (by decide +kernel)
  have : f = 0 ∨ f = 1 := by omega
  rcases this with rfl | rfl
  · rw [show (1 : Int) - 0 = 1 from rfl, d0, d1]; exact ⟨rfl, rfl⟩
  · rw [show (1 : Int) - 1 = 0 from rfl, d0, d1]; exact ⟨rfl, rfl⟩
theorem fc_2 (X Y Z f : Int) (h : 2 ≤ f ∧ f ≤ 5) : (fc X Y Z f).1 = X := by
  have : f = 2 ∨ f = 3 ∨ f = 4 ∨ f = 5 := by omega
  rcases this with rfl | rfl | rfl | rfl
  · rw [fcv X Y Z 2 1 (by decide +kernel)]; rfl
  · rw [fcv X Y Z 3 1 (by decide +kernel)]; rfl
  · rw [fcv X Y Z 4 2 (by decide +kernel)]; rfl
  · rw [fcv X Y Z 5 2 (by decide +kernel)]; rfl
theorem mirror0 {X Y Z : Int} (hZ : Sz X Y Z) {l : List S54} (h : pl X Y Z l = 0) : ∀ (m i k : Nat), i + m = l.length → m < k → anchor_Mirror.l0 k ((l.take i).map (mir X)) l (l.length : Int) i X Y Z = some (l.map (mir X), 0) := by
  obtain ⟨hl, hS, h2, _⟩ := sm_of hZ h
  intro m
  induction m with
  | zero =>
    intro i k hm hk
    obtain ⟨k, rfl⟩ : ∃ q, k = q + 1 := ⟨k - 1, by omega⟩
    simp only [anchor_Mirror.l0]
    rw [if_neg (by omega), List.take_of_length_le (by omega)]
  | succ m ih =>
    intro i k hm hk
    obtain ⟨k, rfl⟩ : ∃ q, k = q + 1 := ⟨k - 1, by omega⟩
    have := ih (i + 1) k (by omega) (by omega)
    rw [show ((i + 1 : Nat) : Int) = (i : Int) + 1 by omega, List.take_succ_eq_append_getElem (by omega), List.map_append, ← rd_get l i (by omega), List.map_cons, List.map_nil] at this
    have hm := rd_mem l i (by omega)
    have hg := List.all_eq_true.1 h2 _ hm
    have hs := hS _ hm
    unfold ge at hg
    rw [decide_eq_true_eq] at hg
    unfold Sm at hs
    unfold Sz at hZ
    simp only [anchor_Mirror.l0, face_f, Option.bind_some]
    rw [if_pos (by omega), if_pos (by omega), if_pos (by omega), wr (x := (i : Int) + 1) (by omega)]
    by_cases q : (rd_T54 l i).f0 < 2
    · rw [if_pos q, if_pos (by simp; omega), wr (by omega), ← this]
      simp only [mir, if_pos q]
    · rw [if_neg q, if_pos (by simp; omega), fc_2 X Y Z _ (by omega), wr (by omega), ← this]
      simp only [mir, if_neg q]
theorem Mirror_k (X Y Z : Int) (l : List S54) {k : Nat} (hk : 50 ≤ k) : anchor_Mirror.f k X Y Z l = some (if ¬ Sz X Y Z then ([], 1) else if pl X Y Z l = 0 then (l.map (mir X), 0) else ([], pl X Y Z l)) := by
  unfold anchor_Mirror.f
  rw [sized_f, placed_k _ _ _ _ (by omega)]
  simp only [Option.bind_some]
  by_cases h1 : Sz X Y Z
  · by_cases h2 : pl X Y Z l = 0
    · have hl := (sm_of h1 h2).1
      have := mirror0 h1 h2 l.length 0 k (by omega) (by omega)
      rw [List.take_zero, List.map_nil, show ((0 : Nat) : Int) = 0 from rfl] at this
      simp [h1, h2, this]
    · simp [h1, h2]
  · simp [h1]
theorem rmirror0 {X Y Z : Int} (hZ : Sz X Y Z) {l : List S54} (h : pl X Y Z l = 0) : ∀ (m i k : Nat), i + m = l.length → m < k → gangsawref44_Mirror.l0 k l ((l.take i).map (mir X)) i X Y Z = some (l.map (mir X)) := by
  obtain ⟨hl, hS, h2, _⟩ := sm_of hZ h
  intro m
  induction m with
  | zero =>
    intro i k hm hk
    obtain ⟨k, rfl⟩ : ∃ q, k = q + 1 := ⟨k - 1, by omega⟩
    simp only [gangsawref44_Mirror.l0]
    rw [if_neg (by omega), List.take_of_length_le (by omega)]
  | succ m ih =>
    intro i k hm hk
    obtain ⟨k, rfl⟩ : ∃ q, k = q + 1 := ⟨k - 1, by omega⟩
    have := ih (i + 1) k (by omega) (by omega)
    rw [show ((i + 1 : Nat) : Int) = (i : Int) + 1 by omega, List.take_succ_eq_append_getElem (by omega), List.map_append, ← rd_get l i (by omega), List.map_cons, List.map_nil] at this
    have hm := rd_mem l i (by omega)
    have hg := List.all_eq_true.1 h2 _ hm
    have hs := hS _ hm
    unfold ge at hg
    rw [decide_eq_true_eq] at hg
    unfold Sm at hs
    unfold Sz at hZ
    simp only [gangsawref44_Mirror.l0]
    rw [if_pos (by omega), if_pos (by omega), wr (x := (i : Int) + 1) (by omega)]
    by_cases q : (rd_T54 l i).f0 < 2
    · rw [if_pos q, if_pos (by simp; omega), wr (by omega), ← this]
      simp only [mir, if_pos q]
    · rw [if_neg q, if_pos (by simp; omega), wr (by omega), ← this]
      simp only [mir, if_neg q]
theorem rMirror_k {X Y Z : Int} (hZ : Sz X Y Z) {l : List S54} (h : pl X Y Z l = 0) {k : Nat} (hk : 50 ≤ k) : gangsawref44_Mirror.f k X Y Z l = some (l.map (mir X)) := by
  have hl := (sm_of hZ h).1
  have := rmirror0 hZ h l.length 0 k (by omega) (by omega)
  exact this
end Go.Proofs.Ytmmmmgdafifpiaa.XA
