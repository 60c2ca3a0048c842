import Derived.Test.YtecbmcheojolnaaNO
import Derived.Test.YtecbmcheojolnaaXAx23
import Derived.Test.YtecbmcheojolnaaXAx33
namespace Go.Proofs.Ytecbmcheojolnaa.Pure
open Go.RowKit Go.Proofs.Ytecbmcheojolnaa.Opens Go.Proofs.Ytecbmcheojolnaa.XA Go.Proofs.YtecbmcheojolnaaW.PrintWords Go.Proofs.YtecbmcheojolnaaW.PrintLast Go.Proofs.YtecbmcheojolnaaW.PrintMore
set_option linter.unusedVariables false
set_option linter.unusedSimpArgs false
theorem PrecedenceOrders : lw_PrecedenceOrders.Pure := by
  intro n l x g1 g2
  refine Ev.rounds ?_
  unfold lw_PrecedenceOrders.f
  rcases few_cases n l with q | ⟨q, hl, hn⟩
  · simp only [q, Option.bind_some, Bool.false_eq_true, if_false]
    (apply Ev.step; focus (intro k; simp only [lw_PrecedenceOrders.j0, if_true]; rfl))
    exact awk (Ev.now true)
  · simp only [q, Option.bind_some, if_true]
    by_cases hx : (x.length : Int) > 20
    · simp only [hx, decide_true]
      (apply Ev.step; focus (intro k; simp only [lw_PrecedenceOrders.j0, if_true]; rfl))
      exact awk (Ev.now true)
    · simp only [hx, decide_false]
      (apply Ev.step; focus (intro k; simp only [lw_PrecedenceOrders.j0, Bool.false_eq_true, if_false]; rfl))
      (apply Ev.step; focus (intro k; simp only [lw_PrecedenceOrders.j1, lw_ours.f, Option.bind_some]; rfl))
      by_cases hc : chk n l = 0
      · obtain ⟨m, E, rfl, rfl, hv⟩ := valid (by omega) hc
        refine Ev.bind (Order_sorted (sorted_ev hv)) ?_
        (apply Ev.step; focus (intro k; simp only [lw_PrecedenceOrders.j2]; rfl))
        refine Ev.bind (rCheck_ev _ _ (by omega)) ?_
        (apply Ev.step; focus (intro k; simp only [lw_PrecedenceOrders.j3, lw_ours.f, Option.bind_some]; rfl))
        refine Ev.bind (Check_ev _ _ (by omega)) ?_
        simp only [if_true]
        obtain ⟨b, hb, hbi⟩ := Is_ev hv x (by omega)
        obtain ⟨c, hc2, hci⟩ := rIs_ev hv x (by omega)
        have hbc : b = c := by rw [Bool.eq_iff_iff, hbi, hci]
        subst hbc
        refine Ev.bind hb ?_
        refine Ev.bind hc2 ?_
        (apply Ev.step; focus (intro k; simp only [lw_PrecedenceOrders.j4, bne_self_eq_false, Bool.false_eq_true, if_false]; rfl))
        (apply Ev.step; focus (intro k; simp only [lw_PrecedenceOrders.j5, hc, if_true]; rfl))
        (apply Ev.step; focus (intro k; simp only [lw_PrecedenceOrders.j7]; rfl))
        refine Ev.bind (rOrder_ev hv) ?_
        by_cases z : (Gr.order E m).length < m
        · have e : srt m E = ([], 13) := by unfold srt; rw [if_pos z]
          rw [e]
          have zz : ((toI (Gr.order E m)).length : Int) < m := by rw [toI_len]; omega
          (apply Ev.step; focus (intro k; simp only [lw_PrecedenceOrders.j8, if_pos zz]; rfl))
          refine awk ?_
          simp only [if_true]
          (apply Ev.step; focus (intro k; simp only [lw_PrecedenceOrders.j9, List.length_nil]; rfl))
          exact Ev.now _
        · have e : srt m E = (toI (Gr.order E m), 0) := by unfold srt; rw [if_neg z]
          rw [e]
          have zz : ¬ ((toI (Gr.order E m)).length : Int) < m := by rw [toI_len]; omega
          (apply Ev.step; focus (intro k; simp only [lw_PrecedenceOrders.j8, if_neg zz]; rfl))
          (apply Ev.step; focus (intro k; simp only [lw_PrecedenceOrders.j10]; rfl))
          refine awk ?_
          simp only [if_true]
          refine Ev.bind (Same_ev _ _ ?_) ?_
          · have := Gr.order_len E m
            have := hv.le
            rw [toI_len]; omega
          · simp only [decide_true]
            (apply Ev.step; focus (intro k; simp only [lw_PrecedenceOrders.j11]; rfl))
            exact Ev.now _
      · refine Ev.bind (Order_sorted (sorted_bad (by omega) hc)) ?_
        (apply Ev.step; focus (intro k; simp only [lw_PrecedenceOrders.j2]; rfl))
        refine Ev.bind (rCheck_ev _ _ (by omega)) ?_
        (apply Ev.step; focus (intro k; simp only [lw_PrecedenceOrders.j3, lw_ours.f, Option.bind_some]; rfl))
        refine Ev.bind (Check_ev _ _ (by omega)) ?_
        simp only [if_true]
        refine Ev.bind (Is_bad (by omega) hc x) ?_
        refine Ev.bind (ris_bad (by omega) hc x) ?_
        (apply Ev.step; focus (intro k; simp only [lw_PrecedenceOrders.j4, bne_self_eq_false, Bool.false_eq_true, if_false]; rfl))
        (apply Ev.step; focus (intro k; simp only [lw_PrecedenceOrders.j5, hc, if_false]; rfl))
        refine awk ?_
        simp only [if_true]
        (apply Ev.step; focus (intro k; simp only [lw_PrecedenceOrders.j6, List.length_nil]; rfl))
        exact Ev.now _
end Go.Proofs.Ytecbmcheojolnaa.Pure
