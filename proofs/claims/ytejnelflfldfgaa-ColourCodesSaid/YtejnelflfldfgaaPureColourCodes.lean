import Derived.Test.YtejnelflfldfgaaXAx7
import Derived.Test.YtejnelflfldfgaaMf
namespace Go.Proofs.Ytejnelflfldfgaa.Pure
open Go.RowKit Go.Proofs.Ytejnelflfldfgaa.Opens Go.Proofs.Ytejnelflfldfgaa.XA Go.Proofs.YtejnelflfldfgaaW.PrintWords Go.Proofs.YtejnelflfldfgaaW.PrintLast
theorem ColourCodes : gangsawlaw35_ColourCodes.Pure := by
  intro a ha
  refine ⟨2001, ?_⟩
  unfold gangsawlaw35_ColourCodes.f
  rw [aw (by omega)]
  simp only [Option.bind_some, if_true]
  by_cases h1 : (a.length : Int) > 80
  · rw [if_pos h1]
  rw [if_neg h1, rcheck_k _ (by omega), Mirror_k _ (by omega), Smooth_k _ (by omega), check_k _ (by omega)]
  simp only [Option.bind_some, if_true]
  by_cases h : chk a = 0
  · have g := (good_iff a).1 h
    rw [if_pos h, if_pos h, h]
    simp only [if_true, gangsawlaw35_ColourCodes.j0]
    rw [if_neg (by simp), rMirror_k _ (by omega) (by omega)]
    simp only [Option.bind_some]
    rw [rsame_k _ _ (by simp; omega) (by omega), rSmooth_k g (by omega)]
    simp only [Option.bind_some, decide_true, if_true]
    rw [rsame_k _ _ (by rw [smo_len]; omega) (by omega)]
    simp
  · rw [if_neg h, if_neg h]
    simp only [if_true, gangsawlaw35_ColourCodes.j0]
    rw [if_neg (by simp), if_neg h]
    simp
end Go.Proofs.Ytejnelflfldfgaa.Pure
