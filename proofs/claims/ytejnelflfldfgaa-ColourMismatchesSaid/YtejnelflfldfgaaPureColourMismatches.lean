import Derived.Test.YtejnelflfldfgaaXAx8
import Derived.Test.YtejnelflfldfgaaMc
namespace Go.Proofs.Ytejnelflfldfgaa.Pure
open Go.RowKit Go.Proofs.Ytejnelflfldfgaa.Opens Go.Proofs.Ytejnelflfldfgaa.XA Go.Proofs.YtejnelflfldfgaaW.PrintWords Go.Proofs.YtejnelflfldfgaaW.PrintLast
theorem ColourMismatches : gangsawlaw35_ColourMismatches.Pure := by
  intro a b d ha hb hd
  have hd' := gInt_i64 hd
  refine ⟨2001, ?_⟩
  unfold gangsawlaw35_ColourMismatches.f
  rw [aw (by omega)]
  simp only [Option.bind_some, if_true]
  by_cases h1 : (a.length : Int) > 80
  · rw [if_pos h1]; rfl
  rw [if_neg h1]
  by_cases h2 : (b.length : Int) > 80
  · rw [decide_eq_true h2]; rfl
  rw [decide_eq_false h2]
  simp only [gangsawlaw35_ColourMismatches.j0]
  rw [if_neg (by simp), Mismatch_k _ _ (by omega), Offset_k _ _ _ (by omega), rtwo_k _ _ (by omega)]
  simp only [Option.bind_some]
  by_cases h : two a b = 0
  · obtain ⟨ga, gb, hl⟩ := (two_iff a b).1 h
    have h64 := ga.hi
    rw [if_pos h, if_pos h, if_pos h, if_pos rfl, rMismatch_k ga gb hl (by omega)]
    simp only [Option.bind_some]
    rw [show ((mo a 0 b 0 0 0).1 != (mo a 0 b 0 0 0).1) = false by simp]
    simp only [gangsawlaw35_ColourMismatches.j1]
    rw [if_neg (by simp), wr (by omega)]
    by_cases q1 : d ≤ -(a.length : Int)
    · simp only [if_pos q1, if_true]; rfl
    · simp only [if_neg q1]
      by_cases q2 : d ≥ (a.length : Int)
      · simp only [if_pos q2, if_true]; rfl
      · simp only [if_neg q2, if_true]
        rw [roff_k ga gb hl (by omega) (by omega)]
        simp
  · simp only [if_neg h, if_true]
    rfl
end Go.Proofs.Ytejnelflfldfgaa.Pure
