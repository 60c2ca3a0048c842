import Derived.Test.YtejnelflfldfgaaXAx14
import Derived.Test.YtejnelflfldfgaaMe
namespace Go.Proofs.Ytejnelflfldfgaa.Pure
open Go.RowKit Go.Proofs.Ytejnelflfldfgaa.Opens Go.Proofs.Ytejnelflfldfgaa.XA Go.Proofs.YtejnelflfldfgaaW.PrintWords Go.Proofs.YtejnelflfldfgaaW.PrintLast
theorem sl0 (xs s : List Int) (hl : xs.length ≤ 64) : ∀ (m : Nat) (a b i : Int) (k : Nat), 0 ≤ i → i + m = xs.length →
    ∃ a' b', gangsawlaw35_ColourSmooths.l0 (m + 1 + k) xs s a b i = gangsawlaw35_ColourSmooths.l1 k s a' b' 0 ∧ a' ≤ a ∧ b ≤ b' ∧ ∀ j : Int, i ≤ j → j < xs.length → a' ≤ rd xs j ∧ rd xs j ≤ b' := by
  intro m
  induction m with
  | zero =>
    intro a b i k h0 hm
    rw [show 0 + 1 + k = k + 1 by omega]
    simp only [gangsawlaw35_ColourSmooths.l0]
    rw [if_neg (by omega)]
    exact ⟨a, b, rfl, by omega, by omega, fun j h1 h2 => by omega⟩
  | succ m ih =>
    intro a b i k h0 hm
    rw [show m + 1 + 1 + k = (m + 1 + k) + 1 by omega]
    simp only [gangsawlaw35_ColourSmooths.l0]
    rw [if_pos (by omega), if_pos h0, wr (by omega)]
    obtain ⟨a', b', e, p1, p2, p3⟩ := ih (mn a (rd xs i)) (mx b (rd xs i)) (i + 1) k (by omega) (by omega)
    have q1 : mn a (rd xs i) ≤ a ∧ mn a (rd xs i) ≤ rd xs i := by unfold mn; split <;> omega
    have q2 : b ≤ mx b (rd xs i) ∧ rd xs i ≤ mx b (rd xs i) := by unfold mx; split <;> omega
    refine ⟨a', b', e, by omega, by omega, fun j h1 h2 => ?_⟩
    by_cases z : j = i
    · subst z; omega
    · exact p3 j (by omega) h2
theorem sl1 (s : List Int) (hl : s.length ≤ 64) (a b : Int) (h : ∀ j : Int, 0 ≤ j → j < s.length → a ≤ rd s j ∧ rd s j ≤ b) : ∀ (m : Nat) (i : Int) (k : Nat), 0 ≤ i → i + m = s.length → m < k →
    gangsawlaw35_ColourSmooths.l1 k s a b i = some true := by
  intro m
  induction m with
  | zero =>
    intro i k h0 hm hk
    obtain ⟨k, rfl⟩ : ∃ q, k = q + 1 := ⟨k - 1, by omega⟩
    simp only [gangsawlaw35_ColourSmooths.l1]
    rw [if_neg (by omega)]
  | succ m ih =>
    intro i k h0 hm hk
    obtain ⟨k, rfl⟩ : ∃ q, k = q + 1 := ⟨k - 1, by omega⟩
    simp only [gangsawlaw35_ColourSmooths.l1]
    have := h i h0 (by omega)
    rw [if_pos (by omega), if_pos h0, if_neg (by omega), if_neg (by omega), wr (by omega)]
    exact ih _ k (by omega) (by omega) (by omega)
theorem smo_reverse {xs : List Int} (g : XA.Good xs) : smo xs.reverse = (smo xs).reverse := by
  apply rd_ext (by simp [smo_len])
  intro i h0 h1
  rw [smo_len, List.length_reverse] at h1
  rw [rd_reverse h0 (by rw [smo_len]; omega), smo_rd _ h0 (by rw [List.length_reverse]; omega), smo_len, smo_rd _ (by omega) (by omega)]
  have hw : w0 xs.reverse i = w0 xs (xs.length - 1 - i) := by
    unfold w0
    rw [List.length_reverse, rd_reverse h0 h1]
    by_cases a : 1 ≤ i
    · rw [if_pos a, rd_reverse (by omega) (by omega), if_pos (c := (xs.length : Int) - 1 - i + 1 < xs.length) (by omega), show (xs.length : Int) - 1 - (i - 1) = xs.length - 1 - i + 1 by omega]
      by_cases b : i + 1 < xs.length
      · rw [if_pos b, rd_reverse (by omega) (by omega), if_pos (by omega), show (xs.length : Int) - 1 - (i + 1) = xs.length - 1 - i - 1 by omega]
        omega
      · rw [if_neg b, if_neg (by omega)]; omega
    · rw [if_neg a, if_neg (c := (xs.length : Int) - 1 - i + 1 < xs.length) (by omega)]
      by_cases b : i + 1 < xs.length
      · rw [if_pos b, rd_reverse (by omega) (by omega), if_pos (by omega), show (xs.length : Int) - 1 - (i + 1) = xs.length - 1 - i - 1 by omega]
        omega
      · rw [if_neg b, if_neg (by omega)]
  have hn : wn xs.reverse i = wn xs (xs.length - 1 - i) := by
    unfold wn
    rw [List.length_reverse]
    split <;> split <;> split <;> split <;> omega
  unfold sm
  rw [hw, hn]
theorem ColourSmooths : gangsawlaw35_ColourSmooths.Pure := by
  intro a ha
  refine ⟨2002, ?_⟩
  unfold gangsawlaw35_ColourSmooths.f
  rw [aw (by omega)]
  simp only [Option.bind_some, if_true]
  by_cases h1 : (a.length : Int) > 80
  · rw [if_pos h1]
  rw [if_neg h1, Smooth_k _ (by omega)]
  simp only [Option.bind_some]
  by_cases h : chk a = 0
  · have g := (good_iff a).1 h
    have h64 := g.hi
    have h65 := g.lo
    rw [if_pos h]
    simp only [if_true]
    rw [show ((a.length : Int) == 0) = false by rw [beq_eq_false_iff_ne]; omega]
    simp only [gangsawlaw35_ColourSmooths.j0]
    rw [if_neg (by simp), Mirror_k _ (by omega), Mirror_k _ (by omega), if_pos h, if_pos ((good_iff _).2 (good_smo g))]
    simp only [Option.bind_some]
    rw [Smooth_k _ (by omega), if_pos ((good_iff _).2 (good_reverse g))]
    simp only [Option.bind_some, if_true]
    rw [rsame_k _ _ (by rw [smo_len]; simp; omega) (by omega), smo_reverse g, smo_len]
    simp only [Option.bind_some, decide_true, if_true]
    rw [show ((a.length : Int) != (a.length : Int)) = false by simp]
    simp only [gangsawlaw35_ColourSmooths.j1]
    rw [if_neg (by simp), if_pos (by omega)]
    obtain ⟨z, hz⟩ : ∃ z, 2000 = a.length + 1 + z := ⟨1999 - a.length, by omega⟩
    rw [hz]
    obtain ⟨a', b', e, p1, p2, p3⟩ := sl0 a (smo a) h64 a.length (rd a 0) (rd a 0) 0 z (by omega) (by omega)
    rw [e]
    have r0 := okB_rd g.ok (i := 0) (by omega) (by omega)
    refine sl1 (smo a) (by rw [smo_len]; exact h64) a' b' (fun j j0 j1 => ?_) (smo a).length 0 z (by omega) (by omega) (by rw [smo_len]; omega)
    rw [smo_len] at j1
    rw [smo_rd a j0 j1]
    refine sm_bd (by omega) (fun x hx => ?_) g.ok j0 j1
    obtain ⟨i, i0, i1, rfl⟩ := mem_rd hx
    exact p3 i i0 i1
  · rw [if_neg h]
    simp only [if_neg h, gangsawlaw35_ColourSmooths.j0]
    rfl
end Go.Proofs.Ytejnelflfldfgaa.Pure
