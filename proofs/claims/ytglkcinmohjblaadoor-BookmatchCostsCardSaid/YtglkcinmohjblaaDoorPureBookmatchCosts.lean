import Derived.Test.YtglkcinmohjblaaDoorNe
import Derived.Test.YtglkcinmohjblaaDoorXAx41
namespace Go.Proofs.YtglkcinmohjblaaDoor.Pure
set_option linter.unusedVariables false
set_option linter.unusedSimpArgs false
open Go.RowKit Go.Proofs.YtglkcinmohjblaaDoor.Opens Go.Proofs.YtglkcinmohjblaaDoor.XA Go.Proofs.YtglkcinmohjblaaDoorW.PrintWords Go.Proofs.YtglkcinmohjblaaDoorW.PrintLast Go.Proofs.YtglkcinmohjblaaDoorW.PrintMore
theorem Costs_ev (l : List S62) (R : List S68) : Ev (fun k => lw_BookmatchCosts.f k l R) true := by
  obtain ⟨b, hb, _, hb2⟩ := few_ev l 20 (by omega)
  have out : Ev (fun k => lw_BookmatchCosts.j0 k l R true) true := Ev.step (fun k => by simp only [lw_BookmatchCosts.j0, if_true]) awk1
  unfold lw_BookmatchCosts.f
  refine Ev.bind hb ?_
  cases b with
  | false => simp only [Bool.false_eq_true, if_false]; exact out
  | true =>
    have hn := hb2 rfl
    simp only [if_true]
    by_cases q0 : (R.length : Int) > 70
    · rw [decide_eq_true q0]; exact out
    · rw [decide_eq_false q0]
      apply Ev.step
      focus (intro k; simp only [lw_BookmatchCosts.j0, Bool.false_eq_true, if_false]; rfl)
      apply Ev.step
      focus (intro k; simp only [lw_BookmatchCosts.j1]; rfl)
      refine Ev.bind (ours_ev R (by omega)) ?_
      refine Ev.bind (Cost_ev l (R.map ho) (by rw [List.length_map]; omega)) ?_
      by_cases h : ck l = 0
      · have hk := ok_of h
        simp only [if_pos h]
        by_cases q : okRow (l.length : Int) (R.map ho) [] = true
        · simp only [if_pos q]
          apply Ev.step
          focus (intro k; simp only [lw_BookmatchCosts.j2]; rfl)
          refine Ev.bind (rck_ev l) ?_
          rw [h]
          apply Ev.step
          focus (intro k; simp only [lw_BookmatchCosts.j3, if_true]; rfl)
          refine Ev.bind (rrow_ev l R (by omega) (by omega)) ?_
          rw [q]
          apply Ev.step
          focus (intro k; simp only [lw_BookmatchCosts.j4, Bool.not_true, Bool.false_eq_true, if_false]; rfl)
          apply Ev.step
          focus (intro k; simp only [lw_BookmatchCosts.j5, if_true]; rfl)
          apply Ev.step
          focus (intro k; simp only [lw_BookmatchCosts.j7, if_true]; rfl)
          refine awk ?_
          simp only [if_true]
          have hc := rcost_ev hk (R.map ho) (okRow_in _ _ _ q) (by rw [List.length_map]; omega)
          rw [th_ho] at hc
          refine Ev.bind hc ?_
          exact Ev.const1 fun k => by simp [lw_BookmatchCosts.j8]
        · simp only [if_neg q]
          apply Ev.step
          focus (intro k; simp only [lw_BookmatchCosts.j2]; rfl)
          refine Ev.bind (rck_ev l) ?_
          rw [h]
          apply Ev.step
          focus (intro k; simp only [lw_BookmatchCosts.j3, if_true]; rfl)
          refine Ev.bind (rrow_ev l R (by omega) (by omega)) ?_
          rw [Bool.eq_false_iff.2 q]
          apply Ev.step
          focus (intro k; simp only [lw_BookmatchCosts.j4, Bool.not_false, if_true]; rfl)
          apply Ev.step
          focus (intro k; simp only [lw_BookmatchCosts.j5, if_true, if_neg i10]; rfl)
          refine awk ?_
          simp only [if_true]
          exact Ev.const1 fun k => by simp [lw_BookmatchCosts.j6]
      · simp only [if_neg h]
        apply Ev.step
        focus (intro k; simp only [lw_BookmatchCosts.j2]; rfl)
        refine Ev.bind (rck_ev l) ?_
        apply Ev.step
        focus (intro k; simp only [lw_BookmatchCosts.j3, if_neg h]; rfl)
        apply Ev.step
        focus (intro k; simp only [lw_BookmatchCosts.j4, Bool.false_eq_true, if_false]; rfl)
        apply Ev.step
        focus (intro k; simp only [lw_BookmatchCosts.j5, if_neg h, if_true]; rfl)
        refine awk ?_
        simp only [if_true]
        exact Ev.const1 fun k => by simp [lw_BookmatchCosts.j6]
theorem BookmatchCosts : lw_BookmatchCosts.Pure := by
  intro l r g g1
  exact Ev.rounds (Costs_ev l r)
end Go.Proofs.YtglkcinmohjblaaDoor.Pure
