import Derived.Test.YtmmmmgdafifpiaaXAx0
import Derived.Test.YtmmmmgdafifpiaaXAx14
import Derived.Test.YtmmmmgdafifpiaaXAx31
import Derived.Test.YtmmmmgdafifpiaaXAx32
import Derived.Test.YtmmmmgdafifpiaaMc
namespace Go.Proofs.Ytmmmmgdafifpiaa.XA
open Go.RowKit Go.Proofs.Ytmmmmgdafifpiaa.Opens Go.Proofs.YtmmmmgdafifpiaaW.PrintWords Go.Proofs.YtmmmmgdafifpiaaW.PrintLast Go.Proofs.YtmmmmgdafifpiaaW.PrintMore
set_option linter.unusedVariables false
set_option linter.unusedSimpArgs false
theorem msame0 (xs : List S54) (hl : xs.length ≤ 40) : ∀ (m i k : Nat), i + m = xs.length → m < k → gangsawref44_Same.l0 k xs xs i = some true := by
  intro m
  induction m with
  | zero =>
    intro i k hm hk
    obtain ⟨k, rfl⟩ : ∃ q, k = q + 1 := ⟨k - 1, by omega⟩
    simp only [gangsawref44_Same.l0]
    rw [if_neg (by omega)]
  | succ m ih =>
    intro i k hm hk
    obtain ⟨k, rfl⟩ : ∃ q, k = q + 1 := ⟨k - 1, by omega⟩
    have := ih (i + 1) k (by omega) (by omega)
    rw [show ((i + 1 : Nat) : Int) = (i : Int) + 1 by omega] at this
    simp only [gangsawref44_Same.l0]
    rw [if_pos (by omega), if_pos (by omega), if_pos (by omega), wr (by omega), this]
    simp
theorem msame_k {xs : List S54} (hl : xs.length ≤ 40) {k : Nat} (hk : 50 ≤ k) : gangsawref44_Same.f k xs xs = some true := by
  unfold gangsawref44_Same.f
  rw [if_pos rfl]
  exact msame0 xs hl xs.length 0 k (by omega) (by omega)
/-- The mirror image of an anchor. -/
def mir (X : Int) (a : S54) : S54 := if a.f0 < 2 then ⟨1 - a.f0, a.f1, a.f2⟩ else ⟨a.f0, ⟨X - a.f1.f0, a.f1.f1⟩, a.f2⟩
theorem fcv (X Y Z c q : Int) (h : wrap64 (Int.tdiv c 2) = q) : fc X Y Z c = if q = 0 then (Y, Z) else if q = 1 then (X, Z) else (X, Y) := by unfold fc; rw [h]
theorem fc_12 (X Y Z f : Int) (h : 0 ≤ f ∧ f < 2) : fc X Y Z (1 - f) = fc X Y Z f ∧ fc X Y Z f = (Y, Z) := by
  have d0 := fcv X Y Z 0 0 (by decide +kernel)
  have d1 := fcv X Y Z 1 0 (by decide +kernel)
  have : f = 0 ∨ f = 1 := by omega
  rcases this with rfl | rfl
  · rw [show (1 : Int) - 0 = 1 from rfl, d0, d1]; exact ⟨rfl, rfl⟩
  · rw [show (1 : Int) - 1 = 0 from rfl, d0, d1]; exact ⟨rfl, rfl⟩
theorem fc_2 (X Y Z f : Int) (h : 2 ≤ f ∧ f ≤ 5) : (fc X Y Z f).1 = X := by
  have : f = 2 ∨ f = 3 ∨ f = 4 ∨ f = 5 := by omega
  rcases this with rfl | rfl | rfl | rfl
  · rw [fcv X Y Z 2 1 (by decide +kernel)]; rfl
  · rw [fcv X Y Z 3 1 (by decide +kernel)]; rfl
  · rw [fcv X Y Z 4 2 (by decide +kernel)]; rfl
  · rw [fcv X Y Z 5 2 (by decide +kernel)]; rfl
theorem mir_mir (X : Int) {a : S54} (h : ge a = true) : mir X (mir X a) = a := by
  unfold ge at h
  rw [decide_eq_true_eq] at h
  unfold mir
  obtain ⟨f, ⟨x, y⟩, e⟩ := a
  simp only at h ⊢
  by_cases h1 : f < 2
  · rw [if_pos h1]; simp only; rw [if_pos (by omega), show 1 - (1 - f) = f by omega]
  · rw [if_neg h1]; simp only; rw [if_neg h1, show X - (X - x) = x by omega]
theorem mir_ge (X : Int) {a : S54} (h : ge a = true) : ge (mir X a) = true := by
  unfold ge at h ⊢
  rw [decide_eq_true_eq] at h ⊢
  unfold mir
  split <;> simp only <;> omega
theorem mir_gp {X Y Z : Int} {a : S54} (h : ge a = true) : gp X Y Z (mir X a) = gp X Y Z a := by
  unfold ge at h
  rw [decide_eq_true_eq] at h
  unfold gp mir
  by_cases h1 : a.f0 < 2
  · rw [if_pos h1]; simp only; rw [(fc_12 X Y Z a.f0 (by omega)).1]
  · rw [if_neg h1]; simp only; rw [fc_2 X Y Z a.f0 (by omega)]; rw [decide_eq_decide]; omega
theorem mir_gk {X Y Z e : Int} {a : S54} (h : ge a = true) : gk X Y Z e (mir X a) = gk X Y Z e a := by
  unfold ge at h
  rw [decide_eq_true_eq] at h
  unfold gk mir
  by_cases h1 : a.f0 < 2
  · rw [if_pos h1]; simp only; rw [(fc_12 X Y Z a.f0 (by omega)).1]
  · rw [if_neg h1]; simp only; rw [fc_2 X Y Z a.f0 (by omega)]; rw [decide_eq_decide]; omega
theorem mir_cf {X s : Int} {a b : S54} (ha : ge a = true) (hb : ge b = true) : cf s (mir X a) (mir X b) = cf s a b := by
  unfold ge at ha hb
  rw [decide_eq_true_eq] at ha hb
  unfold cf mir
  by_cases h1 : a.f0 < 2 <;> by_cases h2 : b.f0 < 2
  · rw [if_pos h1, if_pos h2]; simp only; rw [decide_eq_decide, show 1 - a.f0 = 1 - b.f0 ↔ a.f0 = b.f0 by omega]
  · rw [if_pos h1, if_neg h2]; simp only; rw [decide_eq_decide, show 1 - a.f0 = b.f0 ↔ a.f0 = b.f0 by omega]
    constructor <;> (rintro ⟨h3, h4⟩; omega)
  · rw [if_neg h1, if_pos h2]; simp only; rw [decide_eq_decide, show a.f0 = 1 - b.f0 ↔ a.f0 = b.f0 by omega]
    constructor <;> (rintro ⟨h3, h4⟩; omega)
  · rw [if_neg h1, if_neg h2]; simp only; rw [show X - a.f1.f0 - (X - b.f1.f0) = -(a.f1.f0 - b.f1.f0) by omega, Int.neg_mul_neg]
theorem mir_map {X : Int} {l : List S54} (h : ∀ a ∈ l, ge a = true) : (l.map (mir X)).map (mir X) = l := by
  rw [List.map_map]
  conv => rhs; rw [← List.map_id l]
  exact List.map_congr_left fun a ha => mir_mir X (h a ha)
theorem mir_pl {X Y Z : Int} {l : List S54} (h : pl X Y Z l = 0) : pl X Y Z (l.map (mir X)) = 0 := by
  rw [pl_zero] at h ⊢
  obtain ⟨h1, h2, h3⟩ := h
  refine ⟨by simpa using h1, fun a ha => ?_, fun a ha => ?_⟩
  · obtain ⟨b, hb, rfl⟩ := List.mem_map.1 ha; exact mir_ge X (h2 b hb)
  · obtain ⟨b, hb, rfl⟩ := List.mem_map.1 ha; rw [mir_gp (h2 b hb)]; exact h3 b hb
theorem mir_ck {X Y Z e s b : Int} {l : List S54} (h : pl X Y Z l = 0) : ck X Y Z e s b (l.map (mir X)) = ck X Y Z e s b l := by
  have h2 := ((pl_zero X Y Z l).1 h).2.1
  unfold ck
  rw [mir_pl h, h]
  have e1 : (l.map (mir X)).all (gk X Y Z e) = l.all (gk X Y Z e) := by
    have : (l.map (mir X)).all (gk X Y Z e) = true ↔ l.all (gk X Y Z e) = true := by
      rw [List.all_eq_true, List.all_eq_true]
      constructor
      · intro q a ha; rw [← mir_gk (X := X) (h2 a ha)]; exact q _ (List.mem_map_of_mem ha)
      · intro q a ha; obtain ⟨b, hb, rfl⟩ := List.mem_map.1 ha; rw [mir_gk (h2 b hb)]; exact q b hb
    cases h3 : (l.map (mir X)).all (gk X Y Z e) <;> cases h4 : l.all (gk X Y Z e) <;> simp_all
  have e2 : cfs s (l.map (mir X)) (l.map (mir X)).length 0 = cfs s l l.length 0 := by
    have : cfs s (l.map (mir X)) (l.map (mir X)).length 0 = false ↔ cfs s l l.length 0 = false := by
      rw [cfs_pw, cfs_pw, List.pairwise_map]
      exact List.Pairwise.iff_of_mem fun ha hb => by rw [mir_cf (h2 _ ha) (h2 _ hb)]
    cases h3 : cfs s (l.map (mir X)) (l.map (mir X)).length 0 <;> cases h4 : cfs s l l.length 0 <;> simp_all
  unfold kp
  rw [e1, e2]
theorem mirror0 {X Y Z : Int} (hZ : Sz X Y Z) {l : List S54} (h : pl X Y Z l = 0) : ∀ (m i k : Nat), i + m = l.length → m < k → anchor_Mirror.l0 k ((l.take i).map (mir X)) l (l.length : Int) i X Y Z = some (l.map (mir X), 0) := by
  obtain ⟨hl, hS, h2, _⟩ := sm_of hZ h
  intro m
  induction m with
  | zero =>
    intro i k hm hk
    obtain ⟨k, rfl⟩ : ∃ q, k = q + 1 := ⟨k - 1, by omega⟩
    simp only [anchor_Mirror.l0]
    rw [if_neg (by omega), List.take_of_length_le (by omega)]
  | succ m ih =>
    intro i k hm hk
    obtain ⟨k, rfl⟩ : ∃ q, k = q + 1 := ⟨k - 1, by omega⟩
    have := ih (i + 1) k (by omega) (by omega)
    rw [show ((i + 1 : Nat) : Int) = (i : Int) + 1 by omega, List.take_succ_eq_append_getElem (by omega), List.map_append, ← rd_get l i (by omega), List.map_cons, List.map_nil] at this
    have hm := rd_mem l i (by omega)
    have hg := List.all_eq_true.1 h2 _ hm
    have hs := hS _ hm
    unfold ge at hg
    rw [decide_eq_true_eq] at hg
    unfold Sm at hs
    unfold Sz at hZ
    simp only [anchor_Mirror.l0, face_f, Option.bind_some]
    rw [if_pos (by omega), if_pos (by omega), if_pos (by omega), wr (x := (i : Int) + 1) (by omega)]
    by_cases q : (rd_T54 l i).f0 < 2
    · rw [if_pos q, if_pos (by simp; omega), wr (by omega), ← this]
      simp only [mir, if_pos q]
    · rw [if_neg q, if_pos (by simp; omega), fc_2 X Y Z _ (by omega), wr (by omega), ← this]
      simp only [mir, if_neg q]
theorem Mirror_k (X Y Z : Int) (l : List S54) {k : Nat} (hk : 50 ≤ k) : anchor_Mirror.f k X Y Z l = some (if ¬ Sz X Y Z then ([], 1) else if pl X Y Z l = 0 then (l.map (mir X), 0) else ([], pl X Y Z l)) := by
  unfold anchor_Mirror.f
  rw [sized_f, placed_k _ _ _ _ (by omega)]
  simp only [Option.bind_some]
  by_cases h1 : Sz X Y Z
  · by_cases h2 : pl X Y Z l = 0
    · have hl := (sm_of h1 h2).1
      have := mirror0 h1 h2 l.length 0 k (by omega) (by omega)
      rw [List.take_zero, List.map_nil, show ((0 : Nat) : Int) = 0 from rfl] at this
      simp [h1, h2, this]
    · simp [h1, h2]
  · simp [h1]
theorem rmirror0 {X Y Z : Int} (hZ : Sz X Y Z) {l : List S54} (h : pl X Y Z l = 0) : ∀ (m i k : Nat), i + m = l.length → m < k → gangsawref44_Mirror.l0 k l ((l.take i).map (mir X)) i X Y Z = some (l.map (mir X)) := by
  obtain ⟨hl, hS, h2, _⟩ := sm_of hZ h
  intro m
  induction m with
  | zero =>
    intro i k hm hk
    obtain ⟨k, rfl⟩ : ∃ q, k = q + 1 := ⟨k - 1, by omega⟩
    simp only [gangsawref44_Mirror.l0]
    rw [if_neg (by omega), List.take_of_length_le (by omega)]
  | succ m ih =>
    intro i k hm hk
    obtain ⟨k, rfl⟩ : ∃ q, k = q + 1 := ⟨k - 1, by omega⟩
    have := ih (i + 1) k (by omega) (by omega)
    rw [show ((i + 1 : Nat) : Int) = (i : Int) + 1 by omega, List.take_succ_eq_append_getElem (by omega), List.map_append, ← rd_get l i (by omega), List.map_cons, List.map_nil] at this
    have hm := rd_mem l i (by omega)
    have hg := List.all_eq_true.1 h2 _ hm
    have hs := hS _ hm
    unfold ge at hg
    rw [decide_eq_true_eq] at hg
    unfold Sm at hs
    unfold Sz at hZ
    simp only [gangsawref44_Mirror.l0]
    rw [if_pos (by omega), if_pos (by omega), wr (x := (i : Int) + 1) (by omega)]
    by_cases q : (rd_T54 l i).f0 < 2
    · rw [if_pos q, if_pos (by simp; omega), wr (by omega), ← this]
      simp only [mir, if_pos q]
    · rw [if_neg q, if_pos (by simp; omega), wr (by omega), ← this]
      simp only [mir, if_neg q]
theorem rMirror_k {X Y Z : Int} (hZ : Sz X Y Z) {l : List S54} (h : pl X Y Z l = 0) {k : Nat} (hk : 50 ≤ k) : gangsawref44_Mirror.f k X Y Z l = some (l.map (mir X)) := by
  have hl := (sm_of hZ h).1
  have := rmirror0 hZ h l.length 0 k (by omega) (by omega)
  exact this
end Go.Proofs.Ytmmmmgdafifpiaa.XA
