import Derived.Test.YtejnelflfldfgaaXAx15
import Derived.Test.YtejnelflfldfgaaMc
namespace Go.Proofs.Ytejnelflfldfgaa.Pure
set_option linter.unusedVariables false
set_option linter.unusedSimpArgs false
open Go.RowKit Go.Proofs.Ytejnelflfldfgaa.Opens Go.Proofs.Ytejnelflfldfgaa.XA Go.Proofs.YtejnelflfldfgaaW.PrintWords Go.Proofs.YtejnelflfldfgaaW.PrintLast
def ds : List Int → List Int → Int
  | x :: xs, y :: ys => ab x y + ds xs ys
  | _, _ => 0
theorem ab_symm (x y : Int) : ab x y = ab y x := by unfold ab; split <;> split <;> omega
theorem ds_symm : ∀ (a b : List Int), ds a b = ds b a
  | x :: xs, y :: ys => by unfold ds; rw [ab_symm, ds_symm xs ys]
  | [], [] => rfl
  | [], _ :: _ => rfl
  | _ :: _, [] => rfl
theorem mo_ds (a : List Int) : ∀ (ys : List Int) (i s n : Int), 0 ≤ i → i + ys.length ≤ a.length → (mo a 0 ys i s n).1 = s + ds (a.drop i.toNat) ys
  | [], i, s, n, _, _ => by
    simp only [mo]
    cases a.drop i.toNat <;> simp [ds]
  | y :: ys, i, s, n, h0, h1 => by
    simp only [List.length_cons] at h1
    rw [mo_cons, if_pos (by omega), mo_ds a ys _ _ _ (by omega) (by omega), drop_rd h0 (by omega), Int.add_zero]
    simp only [ds]
    omega
theorem mo_ds0 (a b : List Int) (h : a.length = b.length) : (mo a 0 b 0 0 0).1 = ds a b := by
  rw [mo_ds a b 0 0 0 (by omega) (by omega)]
  simp
theorem chk_reverse (a : List Int) : chk a.reverse = chk a := by
  unfold chk okB
  rw [List.length_reverse, List.all_reverse]
theorem two_symm (a b : List Int) (h : two a b = 0) : two b a = 0 := by
  obtain ⟨ga, gb, hl⟩ := (two_iff a b).1 h
  exact (two_iff b a).2 ⟨gb, ga, hl.symm⟩
def face (f b : List Int) (t : Bool) : List Int × Int := if t = true then (if chk b = 0 then (b.reverse, 0) else ([], chk b)) else (if chk f = 0 then (f, 0) else ([], chk f))
theorem face_k (a0 a1 : ByteArray) (a2 a3 a4 a5 a6 a7 a8 a9 : Int) (f b : List Int) (t : Bool) {k : Nat} (hk : 100 ≤ k) : colour_Face.f k a0 a1 a2 a3 a4 a5 a6 a7 a8 a9 f b t = some (face f b t) := by
  unfold colour_Face.f face
  by_cases h : t = true
  · rw [if_pos h, if_pos h, Mirror_k _ hk]
    rfl
  · rw [if_neg h, if_neg h, check_k _ hk]
    simp only [Option.bind_some]
    by_cases z : chk f = 0
    · have g := ((good_iff f).1 z).hi
      rw [if_pos z, if_pos z, clone_f _ (by omega)]
      rfl
    · rw [if_neg z, if_neg z]
def btw (x y : List Int × Int) : Int × Int := if x.2 = 0 then (if y.2 = 0 then (if two x.1 y.1 = 0 then ((mo x.1 0 y.1 0 0 0).1, 0) else (0, two x.1 y.1)) else (0, y.2)) else (0, x.2)
theorem between_k (a0 a1 : ByteArray) (a2 a3 a4 a5 a6 a7 a8 a9 : Int) (f b : List Int) (t : Bool) (c0 c1 : ByteArray) (c2 c3 c4 c5 c6 c7 c8 c9 : Int) (f' b' : List Int) (t' : Bool) {k : Nat} (hk : 100 ≤ k) :
    colour_Between.f k a0 a1 a2 a3 a4 a5 a6 a7 a8 a9 f b t c0 c1 c2 c3 c4 c5 c6 c7 c8 c9 f' b' t' = some (btw (face f b t) (face f' b' t')) := by
  unfold colour_Between.f btw
  rw [face_k _ _ _ _ _ _ _ _ _ _ _ _ _ hk, face_k _ _ _ _ _ _ _ _ _ _ _ _ _ hk]
  simp only [Option.bind_some]
  by_cases h1 : (face f b t).2 = 0
  · rw [if_pos h1, if_pos h1]
    by_cases h2 : (face f' b' t').2 = 0
    · rw [if_pos h2, if_pos h2, Mismatch_k _ _ hk]
      rfl
    · rw [if_neg h2, if_neg h2]
  · rw [if_neg h1, if_neg h1]
theorem btw_symm (x y : List Int × Int) (h : (btw x y).2 = 0) : (btw y x).2 = 0 ∧ (btw y x).1 = (btw x y).1 := by
  unfold btw at *
  by_cases h1 : x.2 = 0
  · rw [if_pos h1] at h ⊢
    by_cases h2 : y.2 = 0
    · rw [if_pos h2] at h ⊢
      rw [if_pos h2, if_pos h1]
      by_cases h3 : two x.1 y.1 = 0
      · obtain ⟨ga, gb, hl⟩ := (two_iff _ _).1 h3
        rw [if_pos h3, if_pos (two_symm _ _ h3), mo_ds0 _ _ hl, mo_ds0 _ _ hl.symm, ds_symm]
        exact ⟨rfl, rfl⟩
      · rw [if_neg h3] at h; exact absurd h h3
    · rw [if_neg h2] at h; exact absurd h h2
  · rw [if_neg h1] at h; exact absurd h h1
theorem ColourTurns : gangsawlaw35_ColourTurns.Pure := by
  intro a0 a1 a2 a3 a4 a5 a6 a7 a8 a9 f b c0 c1 c2 c3 c4 c5 c6 c7 c8 c9 f' b' g g'
  refine ⟨2003, ?_⟩
  unfold gangsawlaw35_ColourTurns.f
  rw [aw (by omega)]
  simp only [Option.bind_some, if_true]
  unfold gangsawref35_Short.f
  have J1 : ∀ b f b0 b1, gangsawlaw35_ColourTurns.j0 2003 true a0 a1 a2 a3 a4 a5 a6 a7 a8 a9 b f c0 c1 c2 c3 c4 c5 c6 c7 c8 c9 b0 b1 = some true := fun _ _ _ _ => rfl
  have J0 : gangsawlaw35_ColourTurns.j0 2003 false a0 a1 a2 a3 a4 a5 a6 a7 a8 a9 f b c0 c1 c2 c3 c4 c5 c6 c7 c8 c9 f' b' = some true := by
    simp only [gangsawlaw35_ColourTurns.j0]
    rw [if_neg (by simp), Mirror_k _ (by omega)]
    simp only [Option.bind_some]
    by_cases h : chk f = 0
    · have gf := (good_iff f).1 h
      have h64 := gf.hi
      rw [if_pos h]
      simp only [if_true]
      have F0 : face f f.reverse false = (f, 0) := by unfold face; rw [if_neg (by simp), if_pos h]
      have F1 : face f f.reverse true = (f, 0) := by unfold face; rw [if_pos rfl, chk_reverse, if_pos h, List.reverse_reverse]
      rw [face_k _ _ _ _ _ _ _ _ _ _ _ _ _ (by omega), face_k _ _ _ _ _ _ _ _ _ _ _ _ _ (by omega), F0, F1]
      simp only [Option.bind_some, if_true]
      rw [rsame_k _ _ (by omega) (by omega)]
      simp only [Option.bind_some, decide_true, if_true]
      rw [show (!true) = false from rfl]
      simp only [gangsawlaw35_ColourTurns.j1]
      rw [if_neg (by simp), between_k _ _ _ _ _ _ _ _ _ _ _ _ _ _ _ _ _ _ _ _ _ _ _ _ _ _ (by omega), between_k _ _ _ _ _ _ _ _ _ _ _ _ _ _ _ _ _ _ _ _ _ _ _ _ _ _ (by omega), between_k _ _ _ _ _ _ _ _ _ _ _ _ _ _ _ _ _ _ _ _ _ _ _ _ _ _ (by omega), F0, F1]
      simp only [Option.bind_some, if_true]
      by_cases z : (btw (f, 0) (face f' b' false)).2 = 0
      · obtain ⟨e1, e2⟩ := btw_symm _ _ z
        rw [if_pos z, if_pos e1, e2]
        simp
      · rw [if_neg z]
    · rw [if_neg h]
      simp only [if_neg h]
      rfl
  split
  · simp only [Option.bind_some]
    split
    · split
      · simp only [Option.bind_some]
        cases h : decide ((b'.length : Int) ≤ 80)
        · rfl
        · exact J0
      · rfl
    · rfl
  · rfl
end Go.Proofs.Ytejnelflfldfgaa.Pure
