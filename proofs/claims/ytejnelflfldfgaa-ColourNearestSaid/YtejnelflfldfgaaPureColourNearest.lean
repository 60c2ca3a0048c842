import Derived.Test.YtejnelflfldfgaaXAx11
import Derived.Test.YtejnelflfldfgaaMc
namespace Go.Proofs.Ytejnelflfldfgaa.Pure
open Go.RowKit Go.Proofs.Ytejnelflfldfgaa.Opens Go.Proofs.Ytejnelflfldfgaa.XA Go.Proofs.YtejnelflfldfgaaW.PrintWords Go.Proofs.YtejnelflfldfgaaW.PrintLast
section
variable (a : List Int) (c : Int) (l : List S47)
def Col (j : Int) : Prop := (rd_T47 l j).f4 = c
def Fr (j : Int) : List Int := (rd_T47 l j).f5
theorem phA (hl : l.length ≤ 256) : ∀ (m : Nat) (i : Int) (k k' : Nat), 0 ≤ i → i + m = l.length → 100 ≤ k → 100 ≤ k' →
    (∃ e, colour_Nearest.l0 (m + 1 + k) a c l l l.length i = some (0, e) ∧ gangsawref35_Nearest.l0 (m + 1 + k') a c l i = some (0, e)) ∨
    ((∀ j : Int, i ≤ j → j < l.length → Col c l j → chk (Fr l j) = 0) ∧ colour_Nearest.l0 (m + 1 + k) a c l l l.length i = colour_Nearest.l1 k a c (-1) 0 l l.length 0 ∧
      gangsawref35_Nearest.l0 (m + 1 + k') a c l i = gangsawref35_Nearest.l1 k' a c l (-1) 0) := by
  intro m
  induction m with
  | zero =>
    intro i k k' h0 hm hk hk'
    rw [show 0 + 1 + k = k + 1 by omega, show 0 + 1 + k' = k' + 1 by omega]
    simp only [colour_Nearest.l0, gangsawref35_Nearest.l0]
    rw [if_neg (by omega), if_neg (by omega)]
    exact .inr ⟨fun j h1 h2 => by omega, rfl, rfl⟩
  | succ m ih =>
    intro i k k' h0 hm hk hk'
    rw [show m + 1 + 1 + k = (m + 1 + k) + 1 by omega, show m + 1 + 1 + k' = (m + 1 + k') + 1 by omega]
    have A1 : colour_Nearest.l0 (m + 1 + k + 1) a c l l l.length i = if (rd_T47 l i).f4 = c then (if chk (rd_T47 l i).f5 = 0 then colour_Nearest.l0 (m + 1 + k) a c l l l.length (i + 1) else some (0, chk (rd_T47 l i).f5)) else colour_Nearest.l0 (m + 1 + k) a c l l l.length (i + 1) := by
      simp only [colour_Nearest.l0]
      rw [if_pos (by omega), if_pos h0, if_pos (by omega), wr (by omega), check_k _ (by omega)]
      simp only [Option.bind_some]
    have A2 : gangsawref35_Nearest.l0 (m + 1 + k' + 1) a c l i = if (rd_T47 l i).f4 = c then (if chk (rd_T47 l i).f5 = 0 then gangsawref35_Nearest.l0 (m + 1 + k') a c l (i + 1) else some (0, chk (rd_T47 l i).f5)) else gangsawref35_Nearest.l0 (m + 1 + k') a c l (i + 1) := by
      simp only [gangsawref35_Nearest.l0]
      rw [if_pos (by omega), if_pos h0, wr (by omega), rcheck_k _ (by omega)]
      simp only [Option.bind_some]
    rw [A1, A2]
    by_cases q : (rd_T47 l i).f4 = c
    · rw [if_pos q, if_pos q]
      by_cases z : chk (rd_T47 l i).f5 = 0
      · rw [if_pos z, if_pos z]
        rcases ih (i + 1) k k' (by omega) (by omega) hk hk' with h | ⟨h1, h2, h3⟩
        · exact .inl h
        · refine .inr ⟨fun j j1 j2 j3 => ?_, h2, h3⟩
          by_cases e : j = i
          · subst e; exact z
          · exact h1 j (by omega) j2 j3
      · rw [if_neg z, if_neg z]
        exact .inl ⟨_, rfl, rfl⟩
    · rw [if_neg q, if_neg q]
      rcases ih (i + 1) k k' (by omega) (by omega) hk hk' with h | ⟨h1, h2, h3⟩
      · exact .inl h
      · refine .inr ⟨fun j j1 j2 j3 => ?_, h2, h3⟩
        by_cases e : j = i
        · subst e; exact absurd j3 q
        · exact h1 j (by omega) j2 j3
theorem phB (hl : l.length ≤ 256) (b : Int) : ∀ (m : Nat) (i : Int) (k : Nat), 0 ≤ i → i + m = l.length →
    ((∃ j : Int, i ≤ j ∧ j < l.length ∧ Col c l j ∧ (Fr l j).length ≠ a.length) ∧ gangsawref35_Nearest.l1 (m + 1 + k) a c l b i = some (0, 1)) ∨
    ((∀ j : Int, i ≤ j → j < l.length → Col c l j → (Fr l j).length = a.length) ∧ gangsawref35_Nearest.l1 (m + 1 + k) a c l b i = gangsawref35_Nearest.l2 k a c l b 0) := by
  intro m
  induction m with
  | zero =>
    intro i k h0 hm
    rw [show 0 + 1 + k = k + 1 by omega]
    simp only [gangsawref35_Nearest.l1]
    rw [if_neg (by omega)]
    exact .inr ⟨fun j h1 h2 => by omega, rfl⟩
  | succ m ih =>
    intro i k h0 hm
    rw [show m + 1 + 1 + k = (m + 1 + k) + 1 by omega]
    simp only [gangsawref35_Nearest.l1]
    rw [if_pos (by omega), if_pos h0, wr (by omega)]
    by_cases q : (rd_T47 l i).f4 = c
    · rw [if_pos q]
      by_cases z : (((rd_T47 l i).f5).length : Int) = a.length
      · rw [if_pos z]
        rcases ih (i + 1) k (by omega) (by omega) with ⟨⟨j, j1, j2⟩, h⟩ | ⟨h1, h2⟩
        · exact .inl ⟨⟨j, by omega, j2⟩, h⟩
        · refine .inr ⟨fun j j1 j2 j3 => ?_, h2⟩
          by_cases e : j = i
          · subst e; unfold Fr; omega
          · exact h1 j (by omega) j2 j3
      · rw [if_neg z]
        exact .inl ⟨⟨i, by omega, by omega, q, by unfold Fr; omega⟩, rfl⟩
    · rw [if_neg q]
      rcases ih (i + 1) k (by omega) (by omega) with ⟨⟨j, j1, j2⟩, h⟩ | ⟨h1, h2⟩
      · exact .inl ⟨⟨j, by omega, j2⟩, h⟩
      · refine .inr ⟨fun j j1 j2 j3 => ?_, h2⟩
        by_cases e : j = i
        · subst e; exact absurd j3 q
        · exact h1 j (by omega) j2 j3
theorem phD (hl : l.length ≤ 256) (ga : XA.Good a) (hg : ∀ j : Int, 0 ≤ j → j < l.length → Col c l j → chk (Fr l j) = 0) : ∀ (m : Nat) (i b L : Int) (k : Nat), 0 ≤ i → i + m = l.length → 100 ≤ k →
    (∃ j : Int, i ≤ j ∧ j < l.length ∧ Col c l j ∧ (Fr l j).length ≠ a.length) → colour_Nearest.l1 (m + 1 + k) a c b L l l.length i = some (0, 1) := by
  intro m
  induction m with
  | zero =>
    rintro i b L k h0 hm hk ⟨j, h1, h2, _⟩
    omega
  | succ m ih =>
    rintro i b L k h0 hm hk ⟨j, j1, j2, j3, j4⟩
    rw [show m + 1 + 1 + k = (m + 1 + k) + 1 by omega]
    simp only [colour_Nearest.l1]
    rw [if_pos (by omega), if_pos h0, if_pos (by omega), wr (by omega), Mismatch_k _ _ (by omega)]
    simp only [Option.bind_some]
    have nx : j ≠ i → ∀ b L, colour_Nearest.l1 (m + 1 + k) a c b L l l.length (i + 1) = some (0, 1) := fun e b L => ih (i + 1) b L k (by omega) (by omega) hk ⟨j, by omega, j2, j3, j4⟩
    by_cases q : (rd_T47 l i).f4 = c
    · rw [if_pos q]
      have gi := (good_iff _).1 (hg i h0 (by omega) q)
      by_cases z : (Fr l i).length = a.length
      · have t0 : two a (rd_T47 l i).f5 = 0 := (two_iff _ _).2 ⟨ga, gi, z.symm⟩
        have e : j ≠ i := by rintro rfl; exact j4 z
        rw [if_pos t0]
        simp only [if_true]
        rw [nx e, nx e]
        split
        · rfl
        · split <;> rfl
      · have t1 : two a (rd_T47 l i).f5 = 1 := by
          unfold two
          rw [if_pos ((good_iff a).2 ga), if_pos (show chk (rd_T47 l i).f5 = 0 from (good_iff _).2 gi), if_neg (fun w => z w.symm)]
        rw [t1]
        rfl
    · rw [if_neg q]
      exact nx (by rintro rfl; exact q j3) b L
theorem phC (hl : l.length ≤ 256) (ga : XA.Good a) (hg : ∀ j : Int, 0 ≤ j → j < l.length → Col c l j → XA.Good (Fr l j) ∧ (Fr l j).length = a.length) : ∀ (m : Nat) (i b L : Int) (k k' : Nat), 0 ≤ i → i + m = l.length → 100 ≤ k → 100 ≤ k' →
    (b < 0 ∨ (0 ≤ b ∧ b < l.length ∧ Col c l b ∧ L = (mo a 0 (Fr l b) 0 0 0).1)) →
    ∃ r, colour_Nearest.l1 (m + 1 + k) a c b L l l.length i = some r ∧ gangsawref35_Nearest.l2 (m + 1 + k') a c l b i = some r := by
  intro m
  induction m with
  | zero =>
    intro i b L k k' h0 hm hk hk' hb
    rw [show 0 + 1 + k = k + 1 by omega, show 0 + 1 + k' = k' + 1 by omega]
    have A1 : colour_Nearest.l1 (k + 1) a c b L l l.length i = if b < 0 then some (0, 9) else some (b, 0) := by
      simp only [colour_Nearest.l1]
      rw [if_neg (by omega)]
    have A2 : gangsawref35_Nearest.l2 (k' + 1) a c l b i = if b < 0 then some (0, 9) else some (b, 0) := by
      simp only [gangsawref35_Nearest.l2]
      rw [if_neg (by omega)]
    rw [A1, A2]
    by_cases z : b < 0
    · rw [if_pos z]; exact ⟨_, rfl, rfl⟩
    · rw [if_neg z]; exact ⟨_, rfl, rfl⟩
  | succ m ih =>
    intro i b L k k' h0 hm hk hk' hb
    rw [show m + 1 + 1 + k = (m + 1 + k) + 1 by omega, show m + 1 + 1 + k' = (m + 1 + k') + 1 by omega]
    have A1 : colour_Nearest.l1 (m + 1 + k + 1) a c b L l l.length i = if (rd_T47 l i).f4 = c then ((some (if two a (rd_T47 l i).f5 = 0 then ((mo a 0 (rd_T47 l i).f5 0 0 0).1, 0) else (0, two a (rd_T47 l i).f5))).bind fun bt176 : Int × Int => (if bt176.2 = 0 then (if b < 0 then (colour_Nearest.l1 (m + 1 + k) a c i bt176.1 l l.length (i + 1)) else (if bt176.1 < L then (colour_Nearest.l1 (m + 1 + k) a c i bt176.1 l l.length (i + 1)) else (colour_Nearest.l1 (m + 1 + k) a c b L l l.length (i + 1)))) else (some (0, bt176.2)))) else colour_Nearest.l1 (m + 1 + k) a c b L l l.length (i + 1) := by
      simp only [colour_Nearest.l1]
      rw [if_pos (by omega), if_pos h0, if_pos (by omega), wr (by omega), Mismatch_k _ _ (by omega)]
    have A2 : gangsawref35_Nearest.l2 (m + 1 + k' + 1) a c l b i = if (rd_T47 l i).f4 = c then (if b < 0 then (gangsawref35_Nearest.l2 (m + 1 + k') a c l i (i + 1)) else ((gangsawref35_Mismatch.f (m + 1 + k') a ((rd_T47 l i).f5)).bind fun t358 => (if 0 ≤ b then (if b < (l.length : Int) then ((gangsawref35_Mismatch.f (m + 1 + k') a ((rd_T47 l b).f5)).bind fun t360 => (if t358 < t360 then (gangsawref35_Nearest.l2 (m + 1 + k') a c l i (i + 1)) else (gangsawref35_Nearest.l2 (m + 1 + k') a c l b (i + 1)))) else (none)) else (none)))) else gangsawref35_Nearest.l2 (m + 1 + k') a c l b (i + 1) := by
      simp only [gangsawref35_Nearest.l2]
      rw [if_pos (by omega), if_pos h0, wr (by omega)]
    rw [A1, A2]
    simp only [Option.bind_some]
    by_cases q : (rd_T47 l i).f4 = c
    · rw [if_pos q, if_pos q]
      obtain ⟨gi, zi⟩ : XA.Good (rd_T47 l i).f5 ∧ (rd_T47 l i).f5.length = a.length := hg i h0 (by omega) q
      have t0 : two a (rd_T47 l i).f5 = 0 := (two_iff _ _).2 ⟨ga, gi, zi.symm⟩
      rw [if_pos t0]
      simp only [if_true]
      by_cases hb0 : b < 0
      · rw [if_pos hb0, if_pos hb0]
        exact ih (i + 1) i _ k k' (by omega) (by omega) hk hk' (.inr ⟨h0, by omega, q, rfl⟩)
      · rw [if_neg hb0, if_neg hb0, rMismatch_k ga gi zi.symm (by omega)]
        obtain ⟨b0, b1, b2, b3⟩ := hb.resolve_left hb0
        obtain ⟨gb, zb⟩ : XA.Good (rd_T47 l b).f5 ∧ (rd_T47 l b).f5.length = a.length := hg b b0 b1 b2
        have b3 : L = (mo a 0 (rd_T47 l b).f5 0 0 0).1 := b3
        rw [rMismatch_k ga gb zb.symm (by omega)]
        simp only [Option.bind_some]
        rw [if_pos b0, if_pos b1, ← b3]
        by_cases s : (mo a 0 (rd_T47 l i).f5 0 0 0).1 < L
        · rw [if_pos s, if_pos s]
          exact ih (i + 1) i _ k k' (by omega) (by omega) hk hk' (.inr ⟨h0, by omega, q, rfl⟩)
        · rw [if_neg s, if_neg s]
          exact ih (i + 1) b L k k' (by omega) (by omega) hk hk' hb
    · rw [if_neg q, if_neg q]
      exact ih (i + 1) b L k k' (by omega) (by omega) hk hk' hb
theorem nearest : ∀ k : Nat, 1000 ≤ k → ∃ r, colour_Nearest.f k a c l = some r ∧ gangsawref35_Nearest.f k a c l = some r := by
  intro k hk
  unfold colour_Nearest.f gangsawref35_Nearest.f
  by_cases hl : (l.length : Int) > 256
  · rw [if_pos hl, if_pos hl]; exact ⟨_, rfl, rfl⟩
  rw [if_neg hl, if_neg hl, check_k _ (by omega), rcheck_k _ (by omega)]
  simp only [Option.bind_some]
  by_cases h : chk a = 0
  · rw [if_pos h, if_pos h]
    have ga := (good_iff a).1 h
    obtain ⟨k, rfl⟩ : ∃ z, k = l.length + 1 + (l.length + 1 + (l.length + 1 + z)) := ⟨k - 3 * l.length - 3, by omega⟩
    rcases phA a c l (by omega) l.length 0 _ _ (by omega) (by omega) (by omega : 100 ≤ l.length + 1 + (l.length + 1 + k)) (by omega : 100 ≤ l.length + 1 + (l.length + 1 + k)) with ⟨e, h1, h2⟩ | ⟨h1, h2, h3⟩
    · exact ⟨_, h1, h2⟩
    · rw [h2, h3]
      rcases phB a c l (by omega) (-1) l.length 0 (l.length + 1 + k) (by omega) (by omega) with ⟨b1, b2⟩ | ⟨b1, b2⟩
      · exact ⟨_, phD a c l (by omega) ga h1 l.length 0 _ _ _ (by omega) (by omega) (by omega) b1, b2⟩
      · rw [b2]
        exact phC a c l (by omega) ga (fun j j0 j1 j2 => ⟨(good_iff _).1 (h1 j j0 j1 j2), b1 j j0 j1 j2⟩) l.length 0 (-1) 0 (l.length + 1 + k) k (by omega) (by omega) (by omega) (by omega) (.inl (by omega))
  · rw [if_neg h, if_neg h]; exact ⟨_, rfl, rfl⟩
end
theorem cmp (a : List Int) (c : Int) (l : List S47) (i : Int) (k : Nat) (hk : 1000 ≤ k) : gangsawlaw35_ColourNearest.j2 (k + 1) a c l i false = some true := by
  simp only [gangsawlaw35_ColourNearest.j2]
  obtain ⟨r, h1, h2⟩ := nearest a c l k hk
  rw [if_neg (by simp), h1, h2]
  simp
theorem lp (a : List Int) (c : Int) (l : List S47) (hl : l.length ≤ 30) : ∀ (m : Nat) (i : Int) (k : Nat), 0 ≤ i → i + m = l.length → 1000 + 2 * m + 2 < k →
    gangsawlaw35_ColourNearest.l0 k a c l i = some true := by
  intro m
  induction m with
  | zero =>
    intro i k h0 hm hk
    obtain ⟨k, rfl⟩ : ∃ q, k = q + 2 := ⟨k - 2, by omega⟩
    rw [show k + 2 = (k + 1) + 1 by omega]
    unfold gangsawlaw35_ColourNearest.l0
    rw [if_neg (by omega)]
    exact cmp a c l i k (by omega)
  | succ m ih =>
    intro i k h0 hm hk
    obtain ⟨k, rfl⟩ : ∃ q, k = q + 2 := ⟨k - 2, by omega⟩
    rw [show k + 2 = (k + 1) + 1 by omega]
    unfold gangsawlaw35_ColourNearest.l0
    rw [if_pos (by omega), decide_eq_true (by omega)]
    unfold gangsawlaw35_ColourNearest.j2
    rw [if_pos rfl, if_pos h0, if_pos (by omega), wr (by omega)]
    have := ih (i + 1) k (by omega) (by omega) (by omega)
    unfold gangsawref35_Short.f
    split
    · simp only [Option.bind_some]
      split
      · exact this
      · rfl
    · rfl
theorem ColourNearest : gangsawlaw35_ColourNearest.Pure := by
  intro a c l ha hc hl
  refine ⟨2003, ?_⟩
  unfold gangsawlaw35_ColourNearest.f
  rw [aw (by omega)]
  simp only [Option.bind_some, if_true]
  by_cases h1 : (a.length : Int) > 80
  · rw [if_pos h1]; rfl
  rw [if_neg h1]
  have j0f : gangsawlaw35_ColourNearest.j0 2003 a c l false = gangsawlaw35_ColourNearest.l0 2002 a c l 0 := rfl
  by_cases h2 : (l.length : Int) > 30
  · rw [if_pos h2]
    by_cases h3 : (l.length : Int) ≤ 256
    · rw [decide_eq_true h3]; rfl
    · rw [decide_eq_false h3, j0f]
      unfold gangsawlaw35_ColourNearest.l0
      rw [if_pos (by omega), decide_eq_false (by omega)]
      exact cmp a c l 0 2000 (by omega)
  · rw [if_neg h2, j0f]
    exact lp a c l (by omega) l.length 0 _ (by omega) (by omega) (by omega)
end Go.Proofs.Ytejnelflfldfgaa.Pure
