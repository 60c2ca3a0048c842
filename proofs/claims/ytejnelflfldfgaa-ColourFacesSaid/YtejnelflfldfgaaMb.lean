import Derived.Test.YtejnelflfldfgaaXAx10
import Derived.Test.YtejnelflfldfgaaXAx11
import Derived.Test.YtejnelflfldfgaaXAx12
import Derived.Test.YtejnelflfldfgaaXAx13
import Derived.Test.YtejnelflfldfgaaXAx14
import Derived.Test.YtejnelflfldfgaaMa
namespace Go.Proofs.Ytejnelflfldfgaa.XA
set_option linter.unusedVariables false
set_option linter.unusedSimpArgs false
open Go.RowKit Go.Proofs.Ytejnelflfldfgaa.Opens Go.Proofs.YtejnelflfldfgaaW.PrintWords Go.Proofs.YtejnelflfldfgaaW.PrintLast Go.Proofs.YtejnelflfldfgaaW.PrintMore
structure Good (a : List Int) : Prop where
  lo : 1 ≤ a.length
  hi : a.length ≤ 64
  ok : okB a = true
theorem good_iff (a : List Int) : chk a = 0 ↔ Good a := by
  unfold chk
  constructor
  · intro h
    split at h
    · next q =>
      split at h
      · next p => exact ⟨q.1, q.2, p⟩
      · omega
    · omega
  · rintro ⟨h1, h2, h3⟩
    rw [if_pos ⟨h1, h2⟩, if_pos h3]
theorem chk_ne (a : List Int) (h : ¬ Good a) : chk a ≠ 0 := fun q => h ((good_iff a).1 q)
def two (a b : List Int) : Int := if chk a = 0 then (if chk b = 0 then (if a.length = b.length then 0 else 1) else chk b) else chk a
theorem two_iff (a b : List Int) : two a b = 0 ↔ Good a ∧ Good b ∧ a.length = b.length := by
  unfold two
  by_cases h1 : chk a = 0
  · rw [if_pos h1]
    by_cases h2 : chk b = 0
    · rw [if_pos h2]
      have g1 := (good_iff a).1 h1
      have g2 := (good_iff b).1 h2
      constructor
      · intro h; refine ⟨g1, g2, ?_⟩; split at h <;> omega
      · rintro ⟨_, _, h⟩; rw [if_pos h]
    · rw [if_neg h2]
      exact ⟨fun h => absurd h h2, fun h => absurd ((good_iff b).2 h.2.1) h2⟩
  · rw [if_neg h1]
    exact ⟨fun h => absurd h h1, fun h => absurd ((good_iff a).2 h.1) h1⟩
theorem both_f (a b : List Int) (j : Nat) : colour_both.f (100 + j) a b = some (two a b) := by
  unfold colour_both.f two
  rw [check_f, check_f]
  simp only [Option.bind_some]
  by_cases h1 : chk a = 0
  · rw [if_pos h1, if_pos h1]
    by_cases h2 : chk b = 0
    · rw [if_pos h2, if_pos h2]
      by_cases h3 : a.length = b.length
      · rw [if_pos h3, if_pos (by omega)]
      · rw [if_neg h3, if_neg (by omega)]
    · rw [if_neg h2, if_neg h2]
  · rw [if_neg h1, if_neg h1]
def ab (x y : Int) : Int := if x > y then x - y else y - x
def mo (a : List Int) (b : Int) : List Int → Int → Int → Int → Int × Int
  | [], _, s, n => (s, n)
  | y :: ys, i, s, n => if 0 ≤ i + b ∧ i + b < a.length then mo a b ys (i + 1) (s + ab (rd a (i + b)) y) (n + 1) else mo a b ys (i + 1) s n
theorem okB_cons {y : Int} {ys : List Int} (h : okB (y :: ys) = true) : (0 ≤ y ∧ y ≤ 1000) ∧ okB ys = true := by
  unfold okB at *
  simp only [List.all_cons, Bool.and_eq_true, decide_eq_true_eq] at h
  exact h
theorem mm_mo (a : List Int) (ha : Good a) (b : Int) (hb : -64 ≤ b ∧ b ≤ 64) : ∀ (ys : List Int) (i s n : Int), okB ys = true → 0 ≤ i → i + ys.length ≤ 64 → 0 ≤ s → s ≤ 1000 * i → 0 ≤ n → n ≤ i →
    mm a b ys i s n = mo a b ys i s n
  | [], i, s, n, _, _, _, _, _, _, _ => rfl
  | y :: ys, i, s, n, hy, h0, hi, hs0, hs, hn0, hn => by
    obtain ⟨hy1, hy2⟩ := okB_cons hy
    simp only [List.length_cons] at hi
    unfold mm mo
    rw [wr (x := i + b) (by omega)]
    by_cases h : 0 ≤ i + b ∧ i + b < a.length
    · rw [if_pos h, if_pos h]
      have hr := okB_rd ha.ok h.1 h.2
      have e : mx (wrap64 (rd a (i + b) - y)) (wrap64 (y - rd a (i + b))) = ab (rd a (i + b)) y := by
        rw [wr (by omega), wr (by omega)]; unfold mx ab; split <;> split <;> omega
      have hab : 0 ≤ ab (rd a (i + b)) y ∧ ab (rd a (i + b)) y ≤ 1000 := by unfold ab; split <;> omega
      rw [e, wr (by omega), wr (by omega)]
      exact mm_mo a ha b hb ys _ _ _ hy2 (by omega) (by omega) (by omega) (by omega) (by omega) (by omega)
    · rw [if_neg h, if_neg h]
      exact mm_mo a ha b hb ys _ _ _ hy2 (by omega) (by omega) (by omega) (by omega) (by omega) (by omega)
theorem mo_bd (a : List Int) (ha : Good a) (b : Int) : ∀ (ys : List Int) (i s n : Int), okB ys = true →
    s ≤ (mo a b ys i s n).1 ∧ (mo a b ys i s n).1 ≤ s + 1000 * ys.length ∧ n ≤ (mo a b ys i s n).2 ∧ (mo a b ys i s n).2 ≤ n + ys.length ∧
    ((∃ j : Int, i ≤ j ∧ j < i + ys.length ∧ 0 ≤ j + b ∧ j + b < a.length) → n < (mo a b ys i s n).2)
  | [], i, s, n, _ => by
    simp only [mo, List.length_nil]
    refine ⟨by omega, by omega, by omega, by omega, ?_⟩
    rintro ⟨j, h1, h2, _⟩; omega
  | y :: ys, i, s, n, hy => by
    obtain ⟨hy1, hy2⟩ := okB_cons hy
    unfold mo
    simp only [List.length_cons]
    by_cases h : 0 ≤ i + b ∧ i + b < a.length
    · rw [if_pos h]
      have hr := okB_rd ha.ok h.1 h.2
      have hab : 0 ≤ ab (rd a (i + b)) y ∧ ab (rd a (i + b)) y ≤ 1000 := by unfold ab; split <;> omega
      obtain ⟨q1, q2, q3, q4, q5⟩ := mo_bd a ha b ys (i + 1) (s + ab (rd a (i + b)) y) (n + 1) hy2
      refine ⟨by omega, by omega, by omega, by omega, fun _ => by omega⟩
    · rw [if_neg h]
      obtain ⟨q1, q2, q3, q4, q5⟩ := mo_bd a ha b ys (i + 1) s n hy2
      refine ⟨by omega, by omega, by omega, by omega, ?_⟩
      rintro ⟨j, h1, h2, h3, h4⟩
      apply q5
      refine ⟨j, ?_, by omega, h3, h4⟩
      by_cases e : j = i
      · subst e; exact absurd ⟨h3, h4⟩ h
      · omega
def off (a b : List Int) (d : Int) : Int := Int.tdiv (1000 * (mo a d b 0 0 0).1) (mo a d b 0 0 0).2
theorem mo_pos {a b : List Int} (ha : Good a) (hb : Good b) (hl : a.length = b.length) {d : Int} (h : -(a.length : Int) < d ∧ d < a.length) : 0 < (mo a d b 0 0 0).2 := by
  refine (mo_bd a ha d b 0 0 0 hb.ok).2.2.2.2 ?_
  by_cases q : 0 ≤ d
  · exact ⟨0, by omega, by omega, by omega, by omega⟩
  · exact ⟨-d, by omega, by omega, by omega, by omega⟩
theorem tdiv_bd {x y : Int} (hx : 0 ≤ x) (hy : 0 < y) : 0 ≤ Int.tdiv x y ∧ Int.tdiv x y ≤ x := by
  rw [Int.tdiv_eq_ediv_of_nonneg hx]
  refine ⟨Int.ediv_nonneg hx (by omega), ?_⟩
  exact Int.ediv_le_self y hx
theorem off_bd {a b : List Int} (ha : Good a) (hb : Good b) (hl : a.length = b.length) {d : Int} (h : -(a.length : Int) < d ∧ d < a.length) : 0 ≤ off a b d ∧ off a b d ≤ 64000000 := by
  have := mo_bd a ha d b 0 0 0 hb.ok
  have hp := mo_pos ha hb hl h
  have h64 := hb.hi
  have := tdiv_bd (x := 1000 * (mo a d b 0 0 0).1) (y := (mo a d b 0 0 0).2) (by omega) hp
  unfold off
  omega
theorem mismatch_f {a b : List Int} (ha : Good a) (hb : Good b) {d : Int} (h : -64 ≤ d ∧ d ≤ 64) : colour_mismatch.f a b d = some (mo a d b 0 0 0) := by
  unfold colour_mismatch.f
  rw [mm_mo a ha d h b 0 0 0 hb.ok (by omega) (by have := hb.hi; omega) (by omega) (by omega) (by omega) (by omega)]
theorem mean_f {a b : List Int} (ha : Good a) (hb : Good b) (hl : a.length = b.length) {d : Int} (h : -(a.length : Int) < d ∧ d < a.length) : colour_mean.f a b d = some (off a b d) := by
  have h64 := ha.hi
  unfold colour_mean.f
  rw [mismatch_f ha hb (by omega)]
  simp only [Option.bind_some]
  have hp := mo_pos ha hb hl h
  have hq := mo_bd a ha d b 0 0 0 hb.ok
  have h65 := hb.hi
  have ho := off_bd ha hb hl h
  unfold off at *
  rw [if_neg (by omega), wr (x := 1000 * _) (by omega), wr (by omega)]
theorem Mismatch_f (a b : List Int) (j : Nat) : colour_Mismatch.f (100 + j) a b = some (if two a b = 0 then ((mo a 0 b 0 0 0).1, 0) else (0, two a b)) := by
  unfold colour_Mismatch.f
  rw [both_f]
  simp only [Option.bind_some]
  by_cases h : two a b = 0
  · obtain ⟨ha, hb, hl⟩ := (two_iff a b).1 h
    rw [if_pos h, if_pos h, mismatch_f ha hb (by omega)]
    rfl
  · rw [if_neg h, if_neg h]
theorem Offset_f (a b : List Int) (d : Int) (j : Nat) : colour_Offset.f (100 + j) a b d = some (if two a b = 0 then (if d ≤ -(a.length : Int) then (0, 6) else if d ≥ a.length then (0, 6) else (off a b d, 0)) else (0, two a b)) := by
  unfold colour_Offset.f
  rw [both_f]
  simp only [Option.bind_some]
  by_cases h : two a b = 0
  · obtain ⟨ha, hb, hl⟩ := (two_iff a b).1 h
    have h64 := ha.hi
    rw [if_pos h, if_pos h, wr (by omega)]
    by_cases h1 : d ≤ -(a.length : Int)
    · rw [if_pos h1, if_pos h1]
    · rw [if_neg h1, if_neg h1]
      by_cases h2 : d ≥ (a.length : Int)
      · rw [if_pos h2, if_pos h2]
      · rw [if_neg h2, if_neg h2, mean_f ha hb hl (by omega)]
        rfl
  · rw [if_neg h, if_neg h]
/-- Align's search: m displacements left, the next one d, the best till now B with the mean L. -/
def al (a b : List Int) : Nat → Int → Int → Int → Int × Int
  | 0, d, B, L => (B, L)
  | m + 1, d, B, L =>
    if off a b d < L then (if off a b (-d) < off a b d then al a b m (d + 1) (-d) (off a b (-d)) else al a b m (d + 1) d (off a b d))
    else (if off a b (-d) < L then al a b m (d + 1) (-d) (off a b (-d)) else al a b m (d + 1) B L)
theorem align0 {a b : List Int} (ha : Good a) (hb : Good b) (hl : a.length = b.length) (most : Int) (hm : most < a.length) : ∀ (m : Nat) (d B L : Int) (k : Nat), 1 ≤ d → d + m = most + 1 → 4 * m < k →
    colour_Align.l0 k a b most B L d = some ((al a b m d B L).1, (al a b m d B L).2, 0) := by
  have h64 := ha.hi
  intro m
  induction m with
  | zero =>
    intro d B L k h1 h2 hk
    obtain ⟨k, rfl⟩ : ∃ q, k = q + 1 := ⟨k - 1, by omega⟩
    simp only [colour_Align.l0]
    rw [if_neg (by omega)]
    rfl
  | succ m ih =>
    intro d B L k h1 h2 hk
    obtain ⟨k, rfl⟩ : ∃ q, k = q + 4 := ⟨k - 4, by omega⟩
    have l1b : ∀ B L : Int, colour_Align.l1 (k + 2) a b most B L d [d, -d] 2 1 = if off a b (-d) < L then colour_Align.l0 k a b most (-d) (off a b (-d)) (d + 1) else colour_Align.l0 k a b most B L (d + 1) := by
      intro B L
      simp only [colour_Align.l1]
      rw [show (([d, -d] : List Int).length : Int) = 2 from rfl, show rd [d, -d] 1 = -d from rfl, wr (x := 1 + 1) (by omega), if_pos (by omega), if_pos (by omega), if_pos (by omega), mean_f ha hb hl (d := -d) (by omega)]
      simp only [Option.bind_some, show ¬ ((1 : Int) + 1 < 2) by omega, if_false]
      rw [wr (x := d + 1) (by omega)]
    have l1a : colour_Align.l1 (k + 3) a b most B L d [d, -d] 2 0 = if off a b d < L then colour_Align.l1 (k + 2) a b most d (off a b d) d [d, -d] 2 1 else colour_Align.l1 (k + 2) a b most B L d [d, -d] 2 1 := by
      rw [show k + 3 = k + 2 + 1 by omega]
      rw [colour_Align.l1, show (([d, -d] : List Int).length : Int) = 2 from rfl, show rd [d, -d] 0 = d from rfl, wr (x := 0 + 1) (by omega), if_pos (by omega), if_pos (by omega), if_pos (by omega), mean_f ha hb hl (by omega)]
      rfl
    rw [show k + 4 = k + 3 + 1 by omega, colour_Align.l0, if_pos (by omega)]
    simp only [Option.bind_some]
    rw [wr (x := -d) (by omega), show (([d, -d] : List Int).length : Int) = 2 from rfl, l1a, l1b, l1b]
    unfold al
    by_cases e1 : off a b d < L
    · rw [if_pos e1, if_pos e1]
      by_cases e2 : off a b (-d) < off a b d
      · rw [if_pos e2, if_pos e2, ih _ _ _ _ (by omega) (by omega) (by omega)]
      · rw [if_neg e2, if_neg e2, ih _ _ _ _ (by omega) (by omega) (by omega)]
    · rw [if_neg e1, if_neg e1]
      by_cases e2 : off a b (-d) < L
      · rw [if_pos e2, if_pos e2, ih _ _ _ _ (by omega) (by omega) (by omega)]
      · rw [if_neg e2, if_neg e2, ih _ _ _ _ (by omega) (by omega) (by omega)]
theorem Align_f (a b : List Int) (most : Int) (j : Nat) : colour_Align.f (400 + j) a b most = some (if two a b = 0 then (if most < 0 ∨ most > (a.length : Int) - 1 then (0, 0, 6) else ((al a b most.toNat 1 0 (off a b 0)).1, (al a b most.toNat 1 0 (off a b 0)).2, 0)) else (0, 0, two a b)) := by
  unfold colour_Align.f
  rw [show 400 + j = 100 + (300 + j) by omega, both_f]
  simp only [Option.bind_some]
  by_cases h : two a b = 0
  · obtain ⟨ha, hb, hl⟩ := (two_iff a b).1 h
    have h64 := ha.hi
    have h1 := ha.lo
    rw [if_pos h, if_pos h, wr (x := (a.length : Int) - 1) (by omega), show 100 + (300 + j) = 399 + j + 1 by omega]
    simp only [colour_Align.j0]
    by_cases h1 : most < 0
    · simp only [if_pos h1, if_true]
      rw [if_pos (.inl h1)]
    · rw [if_neg h1]
      by_cases h2 : most > (a.length : Int) - 1
      · rw [if_pos (decide_eq_true h2), if_pos (.inr h2)]
      · rw [if_neg (by simpa using h2), if_neg (by omega), mean_f ha hb hl (by omega)]
        simp only [Option.bind_some]
        rw [align0 ha hb hl most (by omega) most.toNat 1 0 (off a b 0) _ (by omega) (by omega) (by omega)]
  · rw [if_neg h, if_neg h]
theorem al_spec {a b : List Int} : ∀ (m : Nat) (d B L : Int), 1 ≤ d → off a b B = L → -d < B → B < d →
    off a b (al a b m d B L).1 = (al a b m d B L).2 ∧ (al a b m d B L).2 ≤ L ∧ -(d + m) < (al a b m d B L).1 ∧ (al a b m d B L).1 < d + m ∧
    ∀ o : Int, (d ≤ o ∧ o < d + m) ∨ (d ≤ -o ∧ -o < d + m) → (al a b m d B L).2 ≤ off a b o
  | 0, d, B, L, h1, h2, h3, h4 => by
    simp only [al]
    exact ⟨h2, by omega, by omega, by omega, fun o ho => by omega⟩
  | m + 1, d, B, L, h1, h2, h3, h4 => by
    unfold al
    have key : ∀ (B' L' : Int), off a b B' = L' → -(d + 1) < B' → B' < d + 1 → L' ≤ L → L' ≤ off a b d → L' ≤ off a b (-d) →
        off a b (al a b m (d + 1) B' L').1 = (al a b m (d + 1) B' L').2 ∧ (al a b m (d + 1) B' L').2 ≤ L ∧ -(d + (m + 1 : Nat)) < (al a b m (d + 1) B' L').1 ∧ (al a b m (d + 1) B' L').1 < d + (m + 1 : Nat) ∧
        ∀ o : Int, (d ≤ o ∧ o < d + (m + 1 : Nat)) ∨ (d ≤ -o ∧ -o < d + (m + 1 : Nat)) → (al a b m (d + 1) B' L').2 ≤ off a b o := by
      intro B' L' q1 q2 q3 q4 q5 q6
      obtain ⟨p1, p2, p3, p4, p5⟩ := al_spec m (d + 1) B' L' (by omega) q1 (by omega) (by omega)
      refine ⟨p1, by omega, by omega, by omega, fun o ho => ?_⟩
      by_cases e1 : o = d
      · subst e1; omega
      · by_cases e2 : o = -d
        · subst e2; omega
        · exact p5 o (by omega)
    by_cases e1 : off a b d < L
    · rw [if_pos e1]
      by_cases e2 : off a b (-d) < off a b d
      · rw [if_pos e2]; exact key _ _ rfl (by omega) (by omega) (by omega) (by omega) (by omega)
      · rw [if_neg e2]; exact key _ _ rfl (by omega) (by omega) (by omega) (by omega) (by omega)
    · rw [if_neg e1]
      by_cases e2 : off a b (-d) < L
      · rw [if_pos e2]; exact key _ _ rfl (by omega) (by omega) (by omega) (by omega) (by omega)
      · rw [if_neg e2]; exact key _ _ h2 (by omega) (by omega) (by omega) (by omega) (by omega)
end Go.Proofs.Ytejnelflfldfgaa.XA
