import Derived.Test.YtejnelflfldfgaaXAx13
import Derived.Test.YtejnelflfldfgaaMc
namespace Go.Proofs.Ytejnelflfldfgaa.Pure
open Go.RowKit Go.Proofs.Ytejnelflfldfgaa.Opens Go.Proofs.Ytejnelflfldfgaa.XA Go.Proofs.YtejnelflfldfgaaW.PrintWords Go.Proofs.YtejnelflfldfgaaW.PrintLast
theorem mo_n (a : List Int) : ∀ (ys : List Int) (i s n : Int), 0 ≤ i → i + ys.length ≤ a.length → (mo a 0 ys i s n).2 = n + ys.length
  | [], i, s, n, _, _ => by simp [mo]
  | y :: ys, i, s, n, h0, h1 => by
    simp only [List.length_cons] at h1 ⊢
    rw [mo_cons, if_pos (by omega), mo_n a ys _ _ _ (by omega) (by omega)]
    omega
theorem ColourBest : gangsawlaw35_ColourBest.Pure := by
  intro a b d o ha hb hd ho
  have hd' := gInt_i64 hd
  have ho' := gInt_i64 ho
  refine ⟨2001, ?_⟩
  unfold gangsawlaw35_ColourBest.f
  rw [aw (by omega)]
  simp only [Option.bind_some, if_true]
  by_cases h1 : (a.length : Int) > 80
  · rw [if_pos h1]; rfl
  rw [if_neg h1]
  by_cases h2 : (b.length : Int) > 80
  · rw [decide_eq_true h2]; rfl
  rw [decide_eq_false h2]
  simp only [gangsawlaw35_ColourBest.j0]
  rw [if_neg (by simp), Align_k _ _ _ (by omega)]
  by_cases h : two a b = 0
  · obtain ⟨ga, gb, hl⟩ := (two_iff a b).1 h
    have h64 := ga.hi
    have h65 := ga.lo
    rw [if_pos h]
    by_cases q1 : d < 0 ∨ d > (a.length : Int) - 1
    · rw [if_pos q1]; rfl
    · rw [if_neg q1]
      obtain ⟨p1, p2, p3, p4, p5⟩ := al_spec (a := a) (b := b) d.toNat 1 0 (off a b 0) (by omega) rfl (by omega) (by omega)
      generalize al a b d.toNat 1 0 (off a b 0) = r at *
      obtain ⟨B, L⟩ := r
      simp only [Option.bind_some, if_true]
      simp only at p1 p2 p3 p4 p5
      have hz : (mo a 0 b 0 0 0).2 = a.length := by rw [mo_n a b 0 0 0 (by omega) (by omega)]; omega
      have hb0 := off_bd ga gb hl (d := 0) (by omega)
      have hb1 := mo_bd a ga 0 b 0 0 0 gb.ok
      have e0 : off a b 0 = wrap64 (Int.tdiv (wrap64 (1000 * (mo a 0 b 0 0 0).1)) (a.length : Int)) := by
        unfold off at *
        rw [hz] at *
        rw [wr (x := 1000 * _) (by omega), wr (by omega)]
      have o1 : colour_Offset.f 2000 a b B = some (L, 0) := by rw [Offset_k _ _ _ (by omega), if_pos h, if_neg (by omega), if_neg (by omega), p1]
      have o2 : colour_Offset.f 2000 a b 0 = some (off a b 0, 0) := by rw [Offset_k _ _ _ (by omega), if_pos h, if_neg (by omega), if_neg (by omega)]
      have o3 : colour_Mismatch.f 2000 a b = some ((mo a 0 b 0 0 0).1, 0) := by rw [Mismatch_k _ _ (by omega), if_pos h]
      rw [o1, o2, o3]
      simp only [Option.bind_some, if_true]
      rw [wr (x := -d) (by omega), if_neg (by omega), if_neg (by omega), if_neg (by omega), if_pos e0, decide_eq_false (by omega)]
      simp only [gangsawlaw35_ColourBest.j1]
      rw [if_neg (by simp), wr (x := -d) (by omega)]
      have o4 : ∀ q : ¬ o < -d ∧ ¬ o > d, colour_Offset.f 1999 a b o = some (off a b o, 0) := by intro q; rw [Offset_k _ _ _ (by omega), if_pos h, if_neg (by omega), if_neg (by omega)]
      by_cases s1 : o < -d
      · rw [if_pos s1]
      rw [if_neg s1]
      by_cases s2 : o > d
      · rw [if_pos s2]
      rw [if_neg s2, o4 ⟨s1, s2⟩]
      simp only [Option.bind_some, if_true]
      congr 1
      apply decide_eq_true
      by_cases s3 : o = 0
      · rw [s3]; exact p2
      · exact p5 o (by omega)
  · rw [if_neg h]
    simp only [Option.bind_some]
    rw [if_neg h]
    rfl
end Go.Proofs.Ytejnelflfldfgaa.Pure
