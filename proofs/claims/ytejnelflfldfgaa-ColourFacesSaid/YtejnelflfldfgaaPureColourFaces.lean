/- For all slabs, Face and Between of package colour return what the reference says. No condition. -/
import Derived.Test.YtejnelflfldfgaaXAx15
import Derived.Test.YtejnelflfldfgaaXAx16
import Derived.Test.YtejnelflfldfgaaXAx21
import Derived.Test.YtejnelflfldfgaaXAx24
import Derived.Test.YtejnelflfldfgaaXAx25
import Derived.Test.YtejnelflfldfgaaMg
namespace Go.Proofs.Ytejnelflfldfgaa.Pure
open Go.RowKit Go.Proofs.Ytejnelflfldfgaa.Opens Go.Proofs.Ytejnelflfldfgaa.XA Go.Proofs.YtejnelflfldfgaaW.PrintWords Go.Proofs.YtejnelflfldfgaaW.PrintLast
set_option linter.unusedVariables false
/-- The code of a face. -/
def cd (f b : List Int) (t : Bool) : List Int := if t = true then b.reverse else f
theorem chk_rev (a : List Int) : chk a.reverse = chk a := by
  unfold chk
  rw [List.length_reverse, okB_reverse]
theorem Face_k (a0 a1 : ByteArray) (a2 a3 a4 a5 a6 a7 a8 a9 : Int) (f b : List Int) (t : Bool) {k : Nat} (hk : 100 ≤ k) : colour_Face.f k a0 a1 a2 a3 a4 a5 a6 a7 a8 a9 f b t = some (if chk (cd f b t) = 0 then (cd f b t, 0) else ([], chk (cd f b t))) := by
  unfold colour_Face.f cd
  cases t with
  | true =>
    simp only [if_true, Mirror_k b hk, Option.bind_some, chk_rev]
  | false =>
    simp only [Bool.false_eq_true, if_false, check_k f hk, Option.bind_some]
    by_cases h : chk f = 0
    · have := ((good_iff f).1 h).hi
      rw [if_pos h, if_pos h, clone_f f (by omega)]; rfl
    · rw [if_neg h, if_neg h]
theorem rFace_k (a0 a1 : ByteArray) (a2 a3 a4 a5 a6 a7 a8 a9 : Int) (f b : List Int) (t : Bool) (hb : b.length ≤ 1000) {k : Nat} (hk : 1100 ≤ k) : gangsawref35_Face.f k a0 a1 a2 a3 a4 a5 a6 a7 a8 a9 f b t = some (if chk (cd f b t) = 0 then (cd f b t, 0) else ([], chk (cd f b t))) := by
  unfold gangsawref35_Face.f cd
  cases t with
  | true =>
    simp only [if_true, rMirror_k b hb hk, rcheck_k _ (show 100 ≤ k by omega), Option.bind_some]
    split <;> rfl
  | false =>
    simp only [Bool.false_eq_true, if_false, rcheck_k f (show 100 ≤ k by omega), Option.bind_some]
    split <;> rfl
theorem ColourFaces : gangsawlaw35_ColourFaces.Pure := by
  intro a0 a1 a2 a3 a4 a5 a6 a7 a8 a9 f b t b0 b1 b2 b3 b4 b5 b6 b7 b8 b9 f' b' t' h1 h2
  refine ⟨2005, ?_⟩
  unfold gangsawlaw35_ColourFaces.f gangsawref35_Short.f
  rw [aw (by omega)]
  simp only [Option.bind_some, if_true, gangsawlaw35_ColourFaces.j0]
  by_cases q1 : (f.length : Int) ≤ 80 ∧ (b.length : Int) ≤ 80
  · by_cases q2 : (f'.length : Int) ≤ 80 ∧ (b'.length : Int) ≤ 80
    · simp only [q1, q2, if_true, decide_true, Option.bind_some, Bool.not_true, Bool.false_eq_true, if_false]
      rw [Face_k _ _ _ _ _ _ _ _ _ _ _ _ _ (by omega), rFace_k _ _ _ _ _ _ _ _ _ _ _ _ _ (by omega) (by omega)]
      simp only [Option.bind_some, if_true]
      have hs : ∀ x : List Int × Int, x = (if chk (cd f b t) = 0 then (cd f b t, 0) else ([], chk (cd f b t))) → x.1.length ≤ 1000 := by
        intro x hx
        split at hx
        · subst hx; unfold cd; split <;> simp <;> omega
        · subst hx; simp
      rw [rsame_k _ _ (hs _ rfl) (by omega)]
      simp only [Option.bind_some, decide_true, Bool.not_true, gangsawlaw35_ColourFaces.j1, Bool.false_eq_true, if_false]
      unfold colour_Between.f
      rw [Face_k _ _ _ _ _ _ _ _ _ _ _ _ _ (by omega), Face_k _ _ _ _ _ _ _ _ _ _ _ _ _ (by omega), rFace_k _ _ _ _ _ _ _ _ _ _ _ _ _ (by omega) (by omega)]
      simp only [Option.bind_some]
      by_cases c1 : chk (cd f b t) = 0
      · by_cases c2 : chk (cd f' b' t') = 0
        · simp only [c1, c2, if_true, Mismatch_k _ _ (show 100 ≤ 2003 by omega), Option.bind_some, gangsawlaw35_ColourFaces.j2, gangsawlaw35_ColourFaces.j3]
          have g1 := (good_iff _).1 c1
          have g2 := (good_iff _).1 c2
          by_cases c3 : (cd f b t).length = (cd f' b' t').length
          · have c4 : two (cd f b t) (cd f' b' t') = 0 := (two_iff _ _).2 ⟨g1, g2, c3⟩
            simp only [c4, c3, if_true, bne_self_eq_false, Bool.false_eq_true, if_false, rMismatch_k g1 g2 c3 (show 100 ≤ 2001 by omega), Option.bind_some, beq_self_eq_true]
          · have c4 : two (cd f b t) (cd f' b' t') = 1 := by unfold two; simp [c1, c2, c3]
            have c5 : ((cd f b t).length : Int) ≠ ((cd f' b' t').length : Int) := by omega
            simp [c4, c5]
        · simp [c1, c2, gangsawlaw35_ColourFaces.j2, gangsawlaw35_ColourFaces.j3]
      · simp [c1, gangsawlaw35_ColourFaces.j2, gangsawlaw35_ColourFaces.j3]
    · by_cases q3 : (f'.length : Int) ≤ 80
      · have q4 : ¬ (b'.length : Int) ≤ 80 := fun q => q2 ⟨q3, q⟩
        simp [q1, q3, q4]
      · simp [q1, q3]
  · by_cases q3 : (f.length : Int) ≤ 80
    · have q4 : ¬ (b.length : Int) ≤ 80 := fun q => q1 ⟨q3, q⟩
      simp [q3, q4]
    · simp [q3]
end Go.Proofs.Ytejnelflfldfgaa.Pure
