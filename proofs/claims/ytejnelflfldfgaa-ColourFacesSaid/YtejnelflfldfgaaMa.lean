import Derived.Test.YtejnelflfldfgaaXAx2
import Derived.Test.YtejnelflfldfgaaXAx3
import Derived.Test.YtejnelflfldfgaaXAx4
import Derived.Test.YtejnelflfldfgaaXAx5
import Derived.Test.YtejnelflfldfgaaXAx6
import Derived.Test.YtejnelflfldfgaaXAx7
import Derived.Test.YtejnelflfldfgaaXAx9
namespace Go.Proofs.Ytejnelflfldfgaa.XA
set_option linter.unusedVariables false
set_option linter.unusedSimpArgs false
open Go.RowKit Go.Proofs.Ytejnelflfldfgaa.Opens Go.Proofs.YtejnelflfldfgaaW.PrintWords Go.Proofs.YtejnelflfldfgaaW.PrintLast Go.Proofs.YtejnelflfldfgaaW.PrintMore
theorem wr {x : Int} (h : -9223372036854775808 ≤ x ∧ x ≤ 9223372036854775807) : wrap64 x = x := by unfold wrap64; omega
theorem rd_at {xs : List Int} {i : Int} (h0 : 0 ≤ i) (h1 : i < xs.length) : ∃ h : i.toNat < xs.length, rd xs i = xs[i.toNat] := by
  have h : i.toNat < xs.length := by omega
  refine ⟨h, ?_⟩
  unfold rd
  rw [List.getD_eq_getElem?_getD, List.getElem?_eq_getElem h]
  rfl
theorem rd_mem {xs : List Int} {i : Int} (h0 : 0 ≤ i) (h1 : i < xs.length) : rd xs i ∈ xs := by
  obtain ⟨h, e⟩ := rd_at h0 h1
  rw [e]; exact List.getElem_mem h
theorem mem_rd {xs : List Int} {x : Int} (h : x ∈ xs) : ∃ i : Int, 0 ≤ i ∧ i < xs.length ∧ rd xs i = x := by
  obtain ⟨n, hn, e⟩ := List.mem_iff_getElem.1 h
  refine ⟨n, by omega, by omega, ?_⟩
  obtain ⟨h', e'⟩ := rd_at (xs := xs) (i := n) (by omega) (by omega)
  rw [e', ← e]; rfl
theorem rd_ext {xs ys : List Int} (hl : xs.length = ys.length) (h : ∀ i : Int, 0 ≤ i → i < xs.length → rd xs i = rd ys i) : xs = ys := by
  apply List.ext_getElem hl
  intro n h1 h2
  have := h n (by omega) (by omega)
  obtain ⟨_, e1⟩ := rd_at (xs := xs) (i := n) (by omega) (by omega)
  obtain ⟨_, e2⟩ := rd_at (xs := ys) (i := n) (by omega) (by omega)
  rw [e1, e2] at this
  exact this
theorem rd_reverse {xs : List Int} {i : Int} (h0 : 0 ≤ i) (h1 : i < xs.length) : rd xs.reverse i = rd xs (xs.length - 1 - i) := by
  obtain ⟨_, e1⟩ := rd_at (xs := xs.reverse) (i := i) h0 (by rw [List.length_reverse]; omega)
  obtain ⟨_, e2⟩ := rd_at (xs := xs) (i := xs.length - 1 - i) (by omega) (by omega)
  rw [e1, e2, List.getElem_reverse]
  congr 1
  omega
theorem rd_set {xs : List Int} {i j v : Int} (h0 : 0 ≤ i) (h1 : i < xs.length) (hj0 : 0 ≤ j) (hj : j < xs.length) : rd (xs.set i.toNat v) j = if j = i then v else rd xs j := by
  obtain ⟨_, e1⟩ := rd_at (xs := xs.set i.toNat v) (i := j) hj0 (by rw [List.length_set]; omega)
  obtain ⟨_, e2⟩ := rd_at (xs := xs) (i := j) hj0 hj
  rw [e1, e2, List.getElem_set]
  by_cases e : j = i
  · subst e; simp
  · rw [if_neg (by omega), if_neg e]
theorem rd_append_left {xs ys : List Int} {i : Int} (h0 : 0 ≤ i) (h1 : i < xs.length) : rd (xs ++ ys) i = rd xs i := by
  obtain ⟨_, e1⟩ := rd_at (xs := xs ++ ys) (i := i) h0 (by rw [List.length_append]; omega)
  obtain ⟨_, e2⟩ := rd_at (xs := xs) (i := i) h0 h1
  rw [e1, e2, List.getElem_append_left]

/-! ### Check -/
def okB (xs : List Int) : Bool := xs.all fun x => decide (0 ≤ x ∧ x ≤ 1000)
theorem okB_rd {xs : List Int} (h : okB xs = true) {i : Int} (h0 : 0 ≤ i) (h1 : i < xs.length) : 0 ≤ rd xs i ∧ rd xs i ≤ 1000 := by
  unfold okB at h
  rw [List.all_eq_true] at h
  simpa using h _ (rd_mem h0 h1)
theorem okB_of {xs : List Int} (h : ∀ i : Int, 0 ≤ i → i < xs.length → 0 ≤ rd xs i ∧ rd xs i ≤ 1000) : okB xs = true := by
  unfold okB
  rw [List.all_eq_true]
  intro x hx
  obtain ⟨i, h0, h1, e⟩ := mem_rd hx
  have := h i h0 h1
  rw [e] at this
  simpa using this
theorem okB_not {xs : List Int} (h : okB xs = false) : ∃ i : Int, 0 ≤ i ∧ i < xs.length ∧ ¬ (0 ≤ rd xs i ∧ rd xs i ≤ 1000) := by
  by_cases q : ∃ i : Int, 0 ≤ i ∧ i < xs.length ∧ ¬ (0 ≤ rd xs i ∧ rd xs i ≤ 1000)
  · exact q
  · have : okB xs = true := okB_of fun i h0 h1 => Classical.byContradiction fun c => q ⟨i, h0, h1, c⟩
    rw [this] at h; cases h
def chk (xs : List Int) : Int := if 1 ≤ xs.length ∧ xs.length ≤ 64 then (if okB xs = true then 0 else 6) else 1
theorem min0 (xs : List Int) (hl : xs.length ≤ 64) : ∀ (m : Nat) (i acc : Int) (k : Nat), 0 ≤ i → i + m = xs.length → m < k →
    ∃ r, slices_Min_int_int.l0 k xs acc i = some r ∧ (r < 0 ↔ acc < 0 ∨ ∃ j, i ≤ j ∧ j < xs.length ∧ rd xs j < 0) := by
  intro m
  induction m with
  | zero =>
    intro i acc k h0 hm hk
    obtain ⟨k, rfl⟩ : ∃ q, k = q + 1 := ⟨k - 1, by omega⟩
    simp only [slices_Min_int_int.l0]
    rw [if_neg (by omega)]
    refine ⟨acc, rfl, fun h => .inl h, ?_⟩
    rintro (h | ⟨j, h1, h2, _⟩)
    · exact h
    · omega
  | succ m ih =>
    intro i acc k h0 hm hk
    obtain ⟨k, rfl⟩ : ∃ q, k = q + 1 := ⟨k - 1, by omega⟩
    simp only [slices_Min_int_int.l0]
    rw [if_pos (by omega), if_pos h0, wr (x := i + 1) (by omega)]
    obtain ⟨r, h1, h2⟩ := ih (i + 1) (mn acc (rd xs i)) k (by omega) (by omega) (by omega)
    refine ⟨r, h1, h2.trans ⟨?_, ?_⟩⟩
    · rintro (h | ⟨j, q1, q2, q3⟩)
      · unfold mn at h
        split at h
        · exact .inr ⟨i, by omega, by omega, h⟩
        · exact .inl h
      · exact .inr ⟨j, by omega, q2, q3⟩
    · rintro (h | ⟨j, q1, q2, q3⟩)
      · left; unfold mn; split <;> omega
      · by_cases e : j = i
        · subst e; left; unfold mn; split <;> omega
        · exact .inr ⟨j, by omega, q2, q3⟩
theorem max0 (xs : List Int) (hl : xs.length ≤ 64) : ∀ (m : Nat) (i acc : Int) (k : Nat), 0 ≤ i → i + m = xs.length → m < k →
    ∃ r, slices_Max_int_int.l0 k xs acc i = some r ∧ (r > 1000 ↔ acc > 1000 ∨ ∃ j, i ≤ j ∧ j < xs.length ∧ rd xs j > 1000) := by
  intro m
  induction m with
  | zero =>
    intro i acc k h0 hm hk
    obtain ⟨k, rfl⟩ : ∃ q, k = q + 1 := ⟨k - 1, by omega⟩
    simp only [slices_Max_int_int.l0]
    rw [if_neg (by omega)]
    refine ⟨acc, rfl, fun h => .inl h, ?_⟩
    rintro (h | ⟨j, h1, h2, _⟩)
    · exact h
    · omega
  | succ m ih =>
    intro i acc k h0 hm hk
    obtain ⟨k, rfl⟩ : ∃ q, k = q + 1 := ⟨k - 1, by omega⟩
    simp only [slices_Max_int_int.l0]
    rw [if_pos (by omega), if_pos h0, wr (x := i + 1) (by omega)]
    obtain ⟨r, h1, h2⟩ := ih (i + 1) (mx acc (rd xs i)) k (by omega) (by omega) (by omega)
    refine ⟨r, h1, h2.trans ⟨?_, ?_⟩⟩
    · rintro (h | ⟨j, q1, q2, q3⟩)
      · unfold mx at h
        split at h
        · exact .inr ⟨i, by omega, by omega, h⟩
        · exact .inl h
      · exact .inr ⟨j, by omega, q2, q3⟩
    · rintro (h | ⟨j, q1, q2, q3⟩)
      · left; unfold mx; split <;> omega
      · by_cases e : j = i
        · subst e; left; unfold mx; split <;> omega
        · exact .inr ⟨j, by omega, q2, q3⟩
theorem check_f (xs : List Int) (j : Nat) : colour_Check.f (100 + j) xs = some (chk xs) := by
  unfold colour_Check.f chk
  rw [show 100 + j = 99 + j + 1 by omega]
  simp only [colour_Check.j0]
  by_cases h1 : (xs.length : Int) < 1
  · simp only [if_pos h1, if_true]
    rw [if_neg (by omega)]
  · rw [if_neg h1]
    by_cases h2 : (xs.length : Int) > 64
    · rw [if_pos (by simpa using h2), if_neg (by omega)]
    · rw [if_neg (by simpa using h2), if_pos (by omega)]
      unfold slices_Min_int_int.f slices_Max_int_int.f
      rw [if_neg h1, if_neg h1, if_pos (by omega), if_pos (by omega)]
      obtain ⟨a, e1, p1⟩ := min0 xs (by omega) (xs.length - 1) 1 (rd xs 0) (99 + j) (by omega) (by omega) (by omega)
      obtain ⟨b, e2, p2⟩ := max0 xs (by omega) (xs.length - 1) 1 (rd xs 0) (99 + j) (by omega) (by omega) (by omega)
      rw [e1, e2]
      simp only [Option.bind_some]
      by_cases ok : okB xs = true
      · have z : ∀ i : Int, 0 ≤ i → i < xs.length → 0 ≤ rd xs i ∧ rd xs i ≤ 1000 := fun i => okB_rd ok
        have n1 : ¬ a < 0 := by
          intro h
          rcases p1.1 h with h | ⟨j, q1, q2, q3⟩
          · have := z 0 (by omega) (by omega); omega
          · have := z j (by omega) (by omega); omega
        have n2 : ¬ b > 1000 := by
          intro h
          rcases p2.1 h with h | ⟨j, q1, q2, q3⟩
          · have := z 0 (by omega) (by omega); omega
          · have := z j (by omega) (by omega); omega
        rw [if_neg n1, if_neg n2, if_pos ok]
      · obtain ⟨i, q1, q2, q3⟩ := okB_not (by simpa using ok)
        rw [if_neg ok]
        by_cases n1 : a < 0
        · rw [if_pos n1]
        · rw [if_neg n1]
          have n2 : b > 1000 := by
            apply p2.2
            by_cases e : i = 0
            · subst e
              left
              by_cases u : rd xs 0 < 0
              · exact absurd (p1.2 (.inl u)) n1
              · omega
            · right
              refine ⟨i, by omega, by omega, ?_⟩
              by_cases u : rd xs i < 0
              · exact absurd (p1.2 (.inr ⟨i, by omega, by omega, u⟩)) n1
              · omega
          rw [if_pos n2]

/-! ### Mirror -/
theorem clone_f (xs : List Int) (hl : xs.length ≤ 1000) : slices_Clone_int_int.f xs = some xs := by
  unfold slices_Clone_int_int.f
  simp only [Option.bind_some, List.length_nil, List.nil_append]
  rw [if_pos (by omega)]
theorem rev0 (xs : List Int) (hl : xs.length ≤ 1000) : ∀ (m : Nat) (i : Int) (ys : List Int) (k : Nat), 0 ≤ i → 2 * i + m = xs.length + 1 ∨ (m = 0 ∧ 2 * i = xs.length + 1) → m < k → ys.length = xs.length →
    (∀ j : Int, 0 ≤ j → j < xs.length → rd ys j = if j < i ∨ j > xs.length - 1 - i then rd xs (xs.length - 1 - j) else rd xs j) → slices_Reverse_int_int.l0 k ys i (xs.length - 1 - i) = some xs.reverse := by
  intro m
  induction m using Nat.strongRecOn with
  | _ m ih =>
    intro i ys k h0 hm hk hy hinv
    obtain ⟨k, rfl⟩ : ∃ q, k = q + 1 := ⟨k - 1, by omega⟩
    simp only [slices_Reverse_int_int.l0]
    by_cases c : i < xs.length - 1 - i
    · have c1 : (0 : Int) ≤ xs.length - 1 - i := by omega
      have c2 : (xs.length : Int) - 1 - i < (ys.length : Int) := by omega
      have c3 : i < (ys.length : Int) := by omega
      simp only [c, c1, c2, c3, h0, if_true]
      rw [wr (x := i + 1) (by omega), wr (x := (xs.length : Int) - 1 - i - 1) (by omega), show (xs.length : Int) - 1 - i - 1 = xs.length - 1 - (i + 1) by omega]
      refine ih (m - 2) (by omega) (i + 1) _ k (by omega) (by omega) (by omega) (by simp [hy]) ?_
      intro j hj0 hj1
      rw [rd_set c1 (by rw [List.length_set]; exact c2) hj0 (by rw [List.length_set]; omega), rd_set h0 c3 hj0 (by omega)]
      have e1 := hinv i h0 (by omega)
      have e2 := hinv (xs.length - 1 - i) c1 (by omega)
      have e3 := hinv j hj0 hj1
      rw [if_neg (by omega)] at e1 e2
      by_cases q1 : j = xs.length - 1 - i
      · subst q1
        rw [if_pos rfl, if_pos (by omega), e1, show (xs.length : Int) - 1 - (xs.length - 1 - i) = i by omega]
      · rw [if_neg q1]
        by_cases q2 : j = i
        · subst q2
          rw [if_pos rfl, if_pos (by omega), e2]
        · rw [if_neg q2, e3]
          by_cases q3 : j < i ∨ j > xs.length - 1 - i
          · rw [if_pos q3, if_pos (by omega)]
          · rw [if_neg q3, if_neg (by omega)]
    · rw [if_neg c]
      congr 1
      apply rd_ext (by rw [hy, List.length_reverse])
      intro j hj0 hj1
      rw [hinv j hj0 (by omega), rd_reverse hj0 (by omega)]
      by_cases q3 : j < i ∨ j > xs.length - 1 - i
      · rw [if_pos q3]
      · rw [if_neg q3, show j = xs.length - 1 - j by omega, show (xs.length : Int) - 1 - (xs.length - 1 - j) = j by omega]
        congr 1
        omega
theorem mirror_f (xs : List Int) (hl : xs.length ≤ 90) (j : Nat) : colour_mirror.f (100 + j) xs = some xs.reverse := by
  unfold colour_mirror.f slices_Reverse_int_int.f
  rw [clone_f xs (by omega)]
  simp only [Option.bind_some]
  rw [wr (by omega)]
  have := rev0 xs (by omega) (xs.length + 1) 0 xs (100 + j) (by omega) (by omega) (by omega) rfl (fun j h0 h1 => by rw [if_neg (by omega)])
  rw [show (xs.length : Int) - 1 - 0 = xs.length - 1 by omega] at this
  rw [this]
  rfl
theorem Mirror_f (xs : List Int) (j : Nat) : colour_Mirror.f (100 + j) xs = some (if chk xs = 0 then (xs.reverse, 0) else ([], chk xs)) := by
  unfold colour_Mirror.f
  rw [check_f]
  simp only [Option.bind_some]
  by_cases h : chk xs = 0
  · have hl : xs.length ≤ 64 := by unfold chk at h; split at h <;> omega
    rw [if_pos h, if_pos h, mirror_f xs (by omega)]
    rfl
  · rw [if_neg h, if_neg h]
theorem rsame0 (xs ys : List Int) (hl : xs.length ≤ 1000) (he : xs.length = ys.length) : ∀ (m : Nat) (i : Int) (k : Nat), 0 ≤ i → i + m = xs.length → m < k →
    ∃ b, gangsawref35_Same.l0 k xs ys i = some b ∧ (b = true ↔ ∀ j : Nat, i ≤ j → j < xs.length → rd xs j = rd ys j) := by
  intro m
  induction m with
  | zero =>
    intro i k h0 hm hk
    obtain ⟨k, rfl⟩ : ∃ q, k = q + 1 := ⟨k - 1, by omega⟩
    simp only [gangsawref35_Same.l0]
    rw [if_neg (by omega)]
    refine ⟨true, rfl, fun _ j h1 h2 => by omega, fun _ => rfl⟩
  | succ m ih =>
    intro i k h0 hm hk
    obtain ⟨k, rfl⟩ : ∃ q, k = q + 1 := ⟨k - 1, by omega⟩
    simp only [gangsawref35_Same.l0]
    obtain ⟨b, hb, hc⟩ := ih (i + 1) k (by omega) (by omega) (by omega)
    rw [if_pos (by omega), if_pos h0, if_pos (by omega), wr (x := i + 1) (by omega), hb]
    by_cases e : rd xs i = rd ys i
    · rw [if_pos e]
      refine ⟨b, rfl, hc.trans ⟨fun h j h1 h2 => ?_, fun h j h1 h2 => h j (by omega) h2⟩⟩
      by_cases q : (j : Int) = i
      · rw [q]; exact e
      · exact h j (by omega) h2
    · rw [if_neg e]
      refine ⟨false, rfl, fun h => by simp at h, fun h => ?_⟩
      have := h i.toNat (by omega) (by omega)
      rw [show ((i.toNat : Nat) : Int) = i by omega] at this
      exact absurd this e
theorem rsame_f (xs ys : List Int) (hl : xs.length ≤ 1000) (j : Nat) : gangsawref35_Same.f (1100 + j) xs ys = some (decide (xs = ys)) := by
  unfold gangsawref35_Same.f
  by_cases h : (xs.length : Int) = ys.length
  · rw [if_pos h]
    obtain ⟨b, hb, hc⟩ := rsame0 xs ys hl (by omega) xs.length 0 (1100 + j) (by omega) (by omega) (by omega)
    rw [hb]
    congr 1
    rw [Bool.eq_iff_iff, hc, decide_eq_true_eq]
    constructor
    · intro H
      exact rd_ext (by omega) (fun j h0 hj => by have := H j.toNat (by omega) (by omega); rwa [show ((j.toNat : Nat) : Int) = j by omega] at this)
    · rintro rfl; intros; rfl
  · rw [if_neg h]
    congr 1
    symm
    rw [decide_eq_false_iff_not]
    rintro rfl
    exact h rfl
end Go.Proofs.Ytejnelflfldfgaa.XA
