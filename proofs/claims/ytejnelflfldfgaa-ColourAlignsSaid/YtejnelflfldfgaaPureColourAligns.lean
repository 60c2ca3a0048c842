import Derived.Test.YtejnelflfldfgaaXAx9
import Derived.Test.YtejnelflfldfgaaMc
namespace Go.Proofs.Ytejnelflfldfgaa.Pure
open Go.RowKit Go.Proofs.Ytejnelflfldfgaa.Opens Go.Proofs.Ytejnelflfldfgaa.XA Go.Proofs.YtejnelflfldfgaaW.PrintWords Go.Proofs.YtejnelflfldfgaaW.PrintLast
theorem ralign0 {a b : List Int} (ha : XA.Good a) (hb : XA.Good b) (hl : a.length = b.length) (most : Int) (hm : most < a.length) : ∀ (m : Nat) (d B L : Int) (k : Nat), 1 ≤ d → d + m = most + 1 → m + 100 < k →
    gangsawref35_Align.l0 k a b most B L d = some (al a b m d B L) := by
  have h64 := ha.hi
  intro m
  induction m with
  | zero =>
    intro d B L k h1 h2 hk
    obtain ⟨k, rfl⟩ : ∃ q, k = q + 1 := ⟨k - 1, by omega⟩
    simp only [gangsawref35_Align.l0]
    rw [if_neg (by omega)]
    rfl
  | succ m ih =>
    intro d B L k h1 h2 hk
    obtain ⟨k, rfl⟩ : ∃ q, k = q + 1 := ⟨k - 1, by omega⟩
    simp only [gangsawref35_Align.l0]
    rw [if_pos (by omega), wr (x := -d) (by omega), wr (x := d + 1) (by omega), roff_k ha hb hl (by omega) (by omega), roff_k ha hb hl (d := -d) (by omega) (by omega)]
    simp only [Option.bind_some]
    unfold al
    by_cases e1 : off a b d < L
    · rw [if_pos e1, if_pos e1]
      by_cases e2 : off a b (-d) < off a b d
      · rw [if_pos e2, if_pos e2, ih _ _ _ _ (by omega) (by omega) (by omega)]
      · rw [if_neg e2, if_neg e2, ih _ _ _ _ (by omega) (by omega) (by omega)]
    · rw [if_neg e1, if_neg e1]
      by_cases e2 : off a b (-d) < L
      · rw [if_pos e2, if_pos e2, ih _ _ _ _ (by omega) (by omega) (by omega)]
      · rw [if_neg e2, if_neg e2, ih _ _ _ _ (by omega) (by omega) (by omega)]
theorem ralign_k {a b : List Int} (ha : XA.Good a) (hb : XA.Good b) (hl : a.length = b.length) (most : Int) (h0 : 0 ≤ most) (hm : most < a.length) {k : Nat} (hk : 400 ≤ k) :
    gangsawref35_Align.f k a b most = some (al a b most.toNat 1 0 (off a b 0)) := by
  have h64 := ha.hi
  unfold gangsawref35_Align.f
  rw [roff_k ha hb hl (by omega) (by omega)]
  simp only [Option.bind_some]
  exact ralign0 ha hb hl most hm _ _ _ _ _ (by omega) (by omega) (by omega)
theorem ColourAligns : gangsawlaw35_ColourAligns.Pure := by
  intro a b d ha hb hd
  have hd' := gInt_i64 hd
  refine ⟨2001, ?_⟩
  unfold gangsawlaw35_ColourAligns.f
  rw [aw (by omega)]
  simp only [Option.bind_some, if_true]
  by_cases h1 : (a.length : Int) > 80
  · rw [if_pos h1]; rfl
  rw [if_neg h1]
  by_cases h2 : (b.length : Int) > 80
  · rw [decide_eq_true h2]; rfl
  rw [decide_eq_false h2]
  simp only [gangsawlaw35_ColourAligns.j0]
  rw [if_neg (by simp), Align_k _ _ _ (by omega), rtwo_k _ _ (by omega)]
  simp only [Option.bind_some]
  by_cases h : two a b = 0
  · obtain ⟨ga, gb, hl⟩ := (two_iff a b).1 h
    have h64 := ga.hi
    rw [if_pos h, if_pos h]
    by_cases q1 : d < 0
    · rw [if_pos q1, if_pos (.inl q1)]
      simp only [gangsawlaw35_ColourAligns.j1]
      rfl
    · rw [if_neg q1]
      by_cases q2 : d ≥ (a.length : Int)
      · rw [if_pos (.inr (by omega)), decide_eq_true q2]
        simp only [gangsawlaw35_ColourAligns.j1]
        rfl
      · rw [if_neg (by omega), decide_eq_false q2]
        simp only [gangsawlaw35_ColourAligns.j1]
        rw [if_neg (by simp), if_pos h, ralign_k ga gb hl d (by omega) (by omega) (by omega)]
        simp
  · rw [if_neg h, if_neg h]
    simp only [gangsawlaw35_ColourAligns.j1]
    rw [if_neg (by simp), if_neg h]
    simp
end Go.Proofs.Ytejnelflfldfgaa.Pure
