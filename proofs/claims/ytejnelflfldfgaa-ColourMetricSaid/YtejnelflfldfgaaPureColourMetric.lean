import Derived.Test.YtejnelflfldfgaaXAx12
import Derived.Test.YtejnelflfldfgaaMc
namespace Go.Proofs.Ytejnelflfldfgaa.Pure
open Go.RowKit Go.Proofs.Ytejnelflfldfgaa.Opens Go.Proofs.Ytejnelflfldfgaa.XA Go.Proofs.YtejnelflfldfgaaW.PrintWords Go.Proofs.YtejnelflfldfgaaW.PrintLast
def ds : List Int → List Int → Int
  | x :: xs, y :: ys => ab x y + ds xs ys
  | _, _ => 0
theorem ab0 (x y : Int) : 0 ≤ ab x y := by unfold ab; split <;> omega
theorem ab_symm (x y : Int) : ab x y = ab y x := by unfold ab; split <;> split <;> omega
theorem ab_tri (x y z : Int) : ab x y ≤ ab x z + ab z y := by unfold ab; split <;> split <;> split <;> omega
theorem ab_zero (x y : Int) : ab x y = 0 ↔ x = y := by unfold ab; split <;> omega
theorem ds0 : ∀ (a b : List Int), 0 ≤ ds a b
  | x :: xs, y :: ys => by have := ab0 x y; have := ds0 xs ys; unfold ds; omega
  | [], _ => by simp [ds]
  | _ :: _, [] => by simp [ds]
theorem ds_symm : ∀ (a b : List Int), ds a b = ds b a
  | x :: xs, y :: ys => by unfold ds; rw [ab_symm, ds_symm xs ys]
  | [], [] => rfl
  | [], _ :: _ => rfl
  | _ :: _, [] => rfl
theorem ds_tri : ∀ (a b c : List Int), a.length = c.length → c.length = b.length → ds a b ≤ ds a c + ds c b
  | [], b, c, _, _ => by have := ds0 [] c; have := ds0 c b; simp only [ds]; omega
  | x :: xs, [], c, h1, h2 => by simp only [List.length_cons, List.length_nil] at h1 h2; omega
  | x :: xs, y :: ys, [], h1, h2 => by simp at h1
  | x :: xs, y :: ys, z :: zs, h1, h2 => by
    simp only [List.length_cons] at h1 h2
    have := ds_tri xs ys zs (by omega) (by omega)
    have := ab_tri x y z
    simp only [ds]
    omega
theorem ds_zero : ∀ (a b : List Int), a.length = b.length → (ds a b = 0 ↔ a = b)
  | [], [], _ => by simp [ds]
  | [], _ :: _, h => by simp at h
  | _ :: _, [], h => by simp at h
  | x :: xs, y :: ys, h => by
    simp only [List.length_cons] at h
    have i := ds_zero xs ys (by omega)
    have z := ab_zero x y
    have := ab0 x y
    have := ds0 xs ys
    simp only [ds, List.cons.injEq]
    rw [← i, ← z]
    omega
theorem ds_append : ∀ (a b c d : List Int), a.length = b.length → ds (a ++ c) (b ++ d) = ds a b + ds c d
  | [], [], c, d, _ => by simp [ds]
  | [], _ :: _, _, _, h => by simp at h
  | _ :: _, [], _, _, h => by simp at h
  | x :: xs, y :: ys, c, d, h => by
    simp only [List.length_cons] at h
    simp only [List.cons_append, ds]
    rw [ds_append xs ys c d (by omega)]
    omega
theorem ds_reverse : ∀ (a b : List Int), a.length = b.length → ds a.reverse b.reverse = ds a b
  | [], [], _ => rfl
  | [], _ :: _, h => by simp at h
  | _ :: _, [], h => by simp at h
  | x :: xs, y :: ys, h => by
    simp only [List.length_cons] at h
    rw [List.reverse_cons, List.reverse_cons, ds_append _ _ _ _ (by simp; omega), ds_reverse xs ys (by omega)]
    simp only [ds]
    omega
theorem mo_ds (a : List Int) : ∀ (ys : List Int) (i s n : Int), 0 ≤ i → i + ys.length ≤ a.length → (mo a 0 ys i s n).1 = s + ds (a.drop i.toNat) ys
  | [], i, s, n, _, _ => by
    simp only [mo]
    cases a.drop i.toNat <;> simp [ds]
  | y :: ys, i, s, n, h0, h1 => by
    simp only [List.length_cons] at h1
    rw [mo_cons, if_pos (by omega), mo_ds a ys _ _ _ (by omega) (by omega), drop_rd h0 (by omega), Int.add_zero]
    simp only [ds]
    omega
theorem mo_ds0 (a b : List Int) (h : a.length = b.length) : (mo a 0 b 0 0 0).1 = ds a b := by
  rw [mo_ds a b 0 0 0 (by omega) (by omega)]
  simp
theorem okB_reverse (a : List Int) : okB a.reverse = okB a := by unfold okB; rw [List.all_reverse]
theorem good_reverse {a : List Int} (h : XA.Good a) : XA.Good a.reverse := ⟨by rw [List.length_reverse]; exact h.lo, by rw [List.length_reverse]; exact h.hi, by rw [okB_reverse]; exact h.ok⟩
theorem ds_le (a b : List Int) (ha : XA.Good a) (hb : XA.Good b) (h : a.length = b.length) : ds a b ≤ 64000 := by
  have := mo_bd a ha 0 b 0 0 0 hb.ok
  rw [mo_ds0 a b h] at this
  have := hb.hi
  omega
theorem ColourMetric : gangsawlaw35_ColourMetric.Pure := by
  intro a b c ha hb hc
  refine ⟨2003, ?_⟩
  unfold gangsawlaw35_ColourMetric.f
  rw [aw (by omega)]
  simp only [Option.bind_some, if_true]
  by_cases h1 : (a.length : Int) > 80
  · rw [if_pos h1]; rfl
  rw [if_neg h1]
  by_cases h2 : (b.length : Int) > 80
  · rw [if_pos h2]; rfl
  rw [if_neg h2]
  by_cases h3 : (c.length : Int) > 80
  · rw [decide_eq_true h3]; rfl
  rw [decide_eq_false h3]
  simp only [gangsawlaw35_ColourMetric.j0]
  rw [if_neg (by simp), Mismatch_k _ _ (by omega), Mismatch_k _ _ (by omega)]
  simp only [Option.bind_some]
  by_cases h : two a b = 0
  · obtain ⟨ga, gb, hl⟩ := (two_iff a b).1 h
    have hr : two b a = 0 := (two_iff b a).2 ⟨gb, ga, hl.symm⟩
    have h64 := ga.hi
    rw [if_pos h, if_pos hr, mo_ds0 a b hl, mo_ds0 b a hl.symm, ds_symm b a]
    have d0 := ds0 a b
    simp only [if_true]
    rw [if_neg (by omega), rsame_k _ _ (by omega) (by omega)]
    simp only [Option.bind_some]
    have e : ((ds a b == 0) != decide (a = b)) = false := by
      have := ds_zero a b hl
      by_cases q : a = b
      · rw [decide_eq_true q, this.2 q]; rfl
      · rw [decide_eq_false q, show (ds a b == 0) = false by rw [beq_eq_false_iff_ne]; exact fun z => q (this.1 z)]; rfl
    rw [e]
    simp only [gangsawlaw35_ColourMetric.j1]
    have ra := good_reverse ga
    have rb := good_reverse gb
    have rl : a.reverse.length = b.reverse.length := by simp [hl]
    rw [if_neg (by simp), Mirror_k _ (by omega), Mirror_k _ (by omega), if_pos ((good_iff a).2 ga), if_pos ((good_iff b).2 gb)]
    simp only [Option.bind_some]
    rw [Mirror_k _ (by omega), if_pos ((good_iff _).2 ra), Mismatch_k _ _ (by omega), if_pos ((two_iff _ _).2 ⟨ra, rb, rl⟩), mo_ds0 _ _ rl, ds_reverse a b hl]
    simp only [Option.bind_some, if_true, List.reverse_reverse]
    rw [rsame_k _ _ (by omega) (by omega)]
    simp only [Option.bind_some, gangsawlaw35_ColourMetric.j2]
    rw [if_neg (by simp), Mismatch_k _ _ (by omega), Mismatch_k _ _ (by omega)]
    simp only [Option.bind_some]
    by_cases t1 : two a c = 0
    · obtain ⟨_, gc, hl1⟩ := (two_iff a c).1 t1
      have t2 : two c b = 0 := (two_iff c b).2 ⟨gc, gb, by omega⟩
      rw [if_pos t1, if_pos t2, mo_ds0 a c hl1, mo_ds0 c b (by omega)]
      simp only [if_true]
      have := ds_tri a b c hl1 (by omega)
      have := ds_le a c ga gc hl1
      have := ds_le c b gc gb (by omega)
      have := ds0 a c
      have := ds0 c b
      rw [wr (by omega), decide_eq_true (by omega)]
    · rw [if_neg t1]
      simp only [if_neg t1]
  · have hr : two b a ≠ 0 := fun q => by
      obtain ⟨gb, ga, hl⟩ := (two_iff b a).1 q
      exact h ((two_iff a b).2 ⟨ga, gb, hl.symm⟩)
    rw [if_neg h, if_neg hr]
    simp only [if_neg h, if_true]
    simp [hr]
end Go.Proofs.Ytejnelflfldfgaa.Pure
