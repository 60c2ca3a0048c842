import Derived.Test.YtglkcinmohjblaaDoorNd
import Derived.Test.YtglkcinmohjblaaDoorXAx52
namespace Go.Proofs.YtglkcinmohjblaaDoor.Pure
set_option linter.unusedVariables false
set_option linter.unusedSimpArgs false
open Go.RowKit Go.Proofs.YtglkcinmohjblaaDoor.Opens Go.Proofs.YtglkcinmohjblaaDoor.XA Go.Proofs.YtglkcinmohjblaaDoorW.PrintWords Go.Proofs.YtglkcinmohjblaaDoorW.PrintLast Go.Proofs.YtglkcinmohjblaaDoorW.PrintMore
theorem rdL10 (p s : List (List S39)) (e : List S39) : rd_L10 (p ++ e :: s) (p.length : Int) = e := by simp [rd_L10, List.getD_eq_getElem?_getD]
theorem rdL12 (p s : List (List S68)) (e : List S68) : rd_L12 (p ++ e :: s) (p.length : Int) = e := by simp [rd_L12, List.getD_eq_getElem?_getD]
theorem lruns0 {l : List S62} (a b : Int) (R : List (List S39)) (hR : R.length ≤ 1000) {r : Bool} (hr : Ev (fun k => (m_Runs.f k l b).bind fun bt642 => (lw_BookmatchRuns.j13 k a b R bt642.1 bt642.2)) r) : ∀ (s p : List (List S39)), R = p ++ s → (∀ x ∈ s, x.length ≤ 1000) →
    Ev (fun k => lw_BookmatchRuns.l0 k l a b R (R.map (List.map th)) (p.length : Int)) r
  | [], p, hp, _ => by
    refine Ev.step (fun k => ?_) hr
    simp only [lw_BookmatchRuns.l0]
    rw [if_neg (by rw [hp]; simp)]
  | x :: s, p, hp, hx => by
    have hla : R.length = p.length + s.length + 1 := by rw [hp]; simp; omega
    have hx0 := hx x (by simp)
    have e1 : rd_L10 R (p.length : Int) = x := by rw [hp]; exact rdL10 p s x
    have e2 : rd_L12 (R.map (List.map th)) (p.length : Int) = x.map th := by
      have := rdL12 (p.map (List.map th)) (s.map (List.map th)) (x.map th)
      rw [List.length_map] at this
      rw [hp, List.map_append, List.map_cons]; exact this
    have ih := lruns0 a b R hR hr s (p ++ [x]) (by rw [hp, app_snoc]) (fun y hy => hx y (by simp [hy]))
    refine Ev.step (f := fun k => lw_BookmatchRuns.j12 k l a b R (R.map (List.map th)) (p.length : Int)) (fun k => by
      simp only [lw_BookmatchRuns.l0]
      rw [if_pos (by omega)]) ?_
    refine Ev.step (f := fun k => (lw_theirs.f k x).bind fun t637 => (rf_Same.f k t637 (x.map th)).bind fun t641 => (if t641 = true then (lw_BookmatchRuns.l0 k l a b R (R.map (List.map th)) ((p ++ [x]).length : Int)) else (some false))) (fun k => by
      simp only [lw_BookmatchRuns.j12]
      rw [if_pos (by omega), if_pos (by omega), e1]
      simp only [if_pos (show (p.length : Int) < ((R.map (List.map th)).length : Int) by rw [List.length_map]; omega)]
      rw [e2, wr (by omega), len_snoc]) ?_
    refine Ev.bind (theirs_ev x hx0) ?_
    refine Ev.bind (same_ev _ (by rw [List.length_map]; exact hx0)) ?_
    simp only [if_true]
    exact ih
theorem runsR_row {l : List S62} (h : Ok l) (L : Int) : ∀ (f : Nat) (b : Int), 0 ≤ b → ∀ x ∈ runsR l L f b, x.length ≤ 1000
  | 0, b, _, x, hx => by simp [runsR] at hx
  | f + 1, b, h0, x, hx => by
    have n2 := h.n2
    simp only [runsR] at hx
    by_cases q : b < l.length
    · rw [if_pos q] at hx
      rcases List.mem_cons.1 hx with rfl | hx
      · have := ext_le l L b (l.length - 1 - b).toNat 0
        rw [segR_len]; unfold len1; omega
      · exact runsR_row h L f _ (by omega) x hx
    · rw [if_neg q] at hx; simp at hx
theorem runsR_len (l : List S62) (L : Int) : ∀ (f : Nat) (b : Int), (runsR l L f b).length ≤ f
  | 0, b => by simp [runsR]
  | f + 1, b => by
    simp only [runsR]
    split
    · have := runsR_len l L f (b + len1 l L b + 1)
      simp only [List.length_cons]; omega
    · simp
theorem Runs_ev (l : List S62) (a b : Int) : Ev (fun k => lw_BookmatchRuns.f k l a b) true := by
  obtain ⟨c, hc, _, _⟩ := few_ev l 10 (by omega)
  unfold lw_BookmatchRuns.f
  refine Ev.bind (f := fun k t459 => (lw_BookmatchRuns.j0 k l a b (!t459))) hc ?_
  cases c with
  | false =>
    exact Ev.step (fun k => by simp only [lw_BookmatchRuns.j0, Bool.not_false, if_true]) awk1
  | true =>
    apply Ev.step
    focus (intro k; simp only [lw_BookmatchRuns.j0, Bool.not_true, Bool.false_eq_true, if_false]; rfl)
    apply Ev.step
    focus (intro k; simp only [lw_BookmatchRuns.j1]; rfl)
    refine Ev.bind (f := fun k bt627 => (lw_BookmatchRuns.j2 k l a b bt627.1 bt627.2)) (runs_ev l a) ?_
    by_cases h : ck l = 0
    · have hk := ok_of h
      have n2 := hk.n2
      simp only [if_pos h]
      by_cases q : a < 0
      · simp only [if_pos q]
        apply Ev.step
        focus (intro k; simp only [lw_BookmatchRuns.j2]; rfl)
        refine Ev.bind (rck_ev l) ?_
        rw [h]
        apply Ev.step
        focus (intro k; simp only [lw_BookmatchRuns.j3, if_true]; rw [decide_eq_true q])
        apply Ev.step
        focus (intro k; simp only [lw_BookmatchRuns.j4, if_true]; rfl)
        apply Ev.step
        focus (intro k; simp only [lw_BookmatchRuns.j5, if_true, if_neg i10, List.length_nil, Int.natCast_zero]; rfl)
        refine awk ?_
        simp only [if_true]
        exact Ev.const1 fun k => by simp [lw_BookmatchRuns.j6]
      · simp only [if_neg q]
        have hlen := runsR_len l a l.length 0
        apply Ev.step
        focus (intro k; simp only [lw_BookmatchRuns.j2]; rfl)
        refine Ev.bind (rck_ev l) ?_
        rw [h]
        apply Ev.step
        focus (intro k; simp only [lw_BookmatchRuns.j3, if_true]; rw [decide_eq_false q])
        apply Ev.step
        focus (intro k; simp only [lw_BookmatchRuns.j4, Bool.false_eq_true, if_false]; rfl)
        apply Ev.step
        focus (intro k; simp only [lw_BookmatchRuns.j5, if_true]; rfl)
        apply Ev.step
        focus (intro k; simp only [lw_BookmatchRuns.j7]; rfl)
        refine Ev.bind (rruns_ev hk a) ?_
        apply Ev.step
        focus (intro k; simp only [lw_BookmatchRuns.j8, if_true]; rw [show ((((runsR l a l.length 0).length : Int) != (((runsR l a l.length 0).map (List.map th)).length : Int)) = false) by simp])
        apply Ev.step
        focus (intro k; simp only [lw_BookmatchRuns.j9, Bool.false_eq_true, if_false]; rfl)
        apply Ev.step
        focus (intro k; simp only [lw_BookmatchRuns.j10]; rfl)
        refine lruns0 a b (runsR l a l.length 0) (by omega) ?_ (runsR l a l.length 0) [] rfl (runsR_row hk a l.length 0 (Int.le_refl 0))
        refine Ev.bind (runs_ev l b) ?_
        simp only [if_pos h]
        by_cases q1 : b < a
        · apply Ev.step
          focus (intro k; simp only [lw_BookmatchRuns.j13, if_pos q1]; rfl)
          refine awk ?_
          exact Ev.const1 fun k => by simp [lw_BookmatchRuns.j14]
        · have hle := runs_less l (L := a) (M := b) (by omega) l.length l.length 0 0 (Int.le_refl 0) (Int.le_refl 0) (by omega)
          have q2 : ¬ b < 0 := by omega
          simp only [if_neg q2]
          apply Ev.step
          focus (intro k; simp only [lw_BookmatchRuns.j13, if_neg q1, if_true]; rfl)
          refine awk ?_
          exact Ev.const1 fun k => by simp [lw_BookmatchRuns.j14, hle]
    · simp only [if_neg h]
      apply Ev.step
      focus (intro k; simp only [lw_BookmatchRuns.j2]; rfl)
      refine Ev.bind (rck_ev l) ?_
      apply Ev.step
      focus (intro k; simp only [lw_BookmatchRuns.j3, if_neg h]; rfl)
      apply Ev.step
      focus (intro k; simp only [lw_BookmatchRuns.j4, Bool.false_eq_true, if_false]; rfl)
      apply Ev.step
      focus (intro k; simp only [lw_BookmatchRuns.j5, if_neg h, if_true, List.length_nil, Int.natCast_zero]; rfl)
      refine awk ?_
      simp only [if_true]
      exact Ev.const1 fun k => by simp [lw_BookmatchRuns.j6]
theorem BookmatchRuns : lw_BookmatchRuns.Pure := by
  intro l a b g g1 g2
  exact Ev.rounds (Runs_ev l a b)
end Go.Proofs.YtglkcinmohjblaaDoor.Pure
