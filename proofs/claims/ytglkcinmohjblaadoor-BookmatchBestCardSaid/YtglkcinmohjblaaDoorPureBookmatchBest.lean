import Derived.Test.YtglkcinmohjblaaDoorNb
import Derived.Test.YtglkcinmohjblaaDoorXAx0
import Derived.Test.YtglkcinmohjblaaDoorXAx49
namespace Go.Proofs.YtglkcinmohjblaaDoor.Pure
set_option linter.unusedVariables false
set_option linter.unusedSimpArgs false
open Go.RowKit Go.Proofs.YtglkcinmohjblaaDoor.Opens Go.Proofs.YtglkcinmohjblaaDoor.XA Go.Proofs.YtglkcinmohjblaaDoorW.PrintWords Go.Proofs.YtglkcinmohjblaaDoorW.PrintLast Go.Proofs.YtglkcinmohjblaaDoorW.PrintMore
theorem Best_ev (l : List S62) (n : Int) : Ev (fun k => lw_BookmatchBest.f k l n) true := by
  obtain ⟨b, hb, _, _⟩ := few_ev l 16 (by omega)
  unfold lw_BookmatchBest.f
  refine Ev.bind (f := fun k t459 => (lw_BookmatchBest.j0 k l n (!t459))) hb ?_
  cases b with
  | false =>
    exact Ev.step (fun k => by simp only [lw_BookmatchBest.j0, Bool.not_false, if_true]) awk1
  | true =>
    apply Ev.step
    focus (intro k; simp only [lw_BookmatchBest.j0, Bool.not_true, Bool.false_eq_true, if_false]; rfl)
    apply Ev.step
    focus (intro k; simp only [lw_BookmatchBest.j1]; rfl)
    refine Ev.bind (f := fun k bt580 => (lw_BookmatchBest.j2 k l n bt580.1 bt580.2.1 bt580.2.2)) (best_ev l n) ?_
    by_cases h : ck l = 0
    · have hk := ok_of h
      have n2 := hk.n2
      simp only [if_pos h]
      by_cases hn : n < 1 ∨ n > l.length
      · simp only [if_pos hn]
        apply Ev.step
        focus (intro k; simp only [lw_BookmatchBest.j2]; rfl)
        refine Ev.bind (rck_ev l) ?_
        rw [h]
        refine Ev.step (f := fun k => lw_BookmatchBest.j4 k l n [] 0 1 0 true) (fun k => by
          simp only [lw_BookmatchBest.j3, if_true]
          by_cases q : n < 1
          · rw [if_pos q]
          · rw [if_neg q, decide_eq_true (show n > l.length by omega)]) ?_
        apply Ev.step
        focus (intro k; simp only [lw_BookmatchBest.j4, if_true]; rfl)
        apply Ev.step
        focus (intro k; simp only [lw_BookmatchBest.j5, if_true, if_neg i10, List.length_nil, Int.natCast_zero]; rfl)
        refine awk ?_
        simp only [if_true]
        exact Ev.const1 fun k => by simp [lw_BookmatchBest.j6]
      · simp only [if_neg hn]
        apply Ev.step
        focus (intro k; simp only [lw_BookmatchBest.j2]; rfl)
        refine Ev.bind (rck_ev l) ?_
        rw [h]
        refine Ev.step (f := fun k => lw_BookmatchBest.j4 k l n (firstR l (n.toNat - 1) (bestB l n)) (bestV l (n.toNat - 1) (bestB l n)) 0 0 false) (fun k => by
          simp only [lw_BookmatchBest.j3, if_true]
          rw [if_neg (by omega), decide_eq_false (by omega)]) ?_
        apply Ev.step
        focus (intro k; simp only [lw_BookmatchBest.j4, Bool.false_eq_true, if_false]; rfl)
        apply Ev.step
        focus (intro k; simp only [lw_BookmatchBest.j5, if_true]; rfl)
        apply Ev.step
        focus (intro k; simp only [lw_BookmatchBest.j7]; rfl)
        refine Ev.bind (rbest_ev hk (by omega) (by omega)) ?_
        apply Ev.step
        focus (intro k; simp only [lw_BookmatchBest.j8, if_true]; rfl)
        refine awk ?_
        simp only [if_true]
        have pi := pick_in l (n.toNat - 1) (l.length - n).toNat 1 0 (by omega) (by omega) (by omega) (by omega)
        have hfi := firstR_in l (n.toNat - 1) (bestB l n) pi.1 pi.2
        have hfl : (firstR l (n.toNat - 1) (bestB l n)).length ≤ 1000 := by rw [firstR_len]; omega
        refine Ev.bind (theirs_ev _ hfl) ?_
        refine Ev.bind (same_ev _ (by rw [List.length_map]; exact hfl)) ?_
        simp only [if_true]
        refine Ev.bind (rcost_ev hk _ hfi hfl) ?_
        exact Ev.const1 fun k => by simp [lw_BookmatchBest.j9, cost_first]
    · simp only [if_neg h]
      apply Ev.step
      focus (intro k; simp only [lw_BookmatchBest.j2]; rfl)
      refine Ev.bind (rck_ev l) ?_
      apply Ev.step
      focus (intro k; simp only [lw_BookmatchBest.j3, if_neg h]; rfl)
      apply Ev.step
      focus (intro k; simp only [lw_BookmatchBest.j4, Bool.false_eq_true, if_false]; rfl)
      apply Ev.step
      focus (intro k; simp only [lw_BookmatchBest.j5, if_neg h, if_true, List.length_nil, Int.natCast_zero]; rfl)
      refine awk ?_
      simp only [if_true]
      exact Ev.const1 fun k => by simp [lw_BookmatchBest.j6]
theorem BookmatchBest : lw_BookmatchBest.Pure := by
  intro l n g g1
  exact Ev.rounds (Best_ev l n)
end Go.Proofs.YtglkcinmohjblaaDoor.Pure
