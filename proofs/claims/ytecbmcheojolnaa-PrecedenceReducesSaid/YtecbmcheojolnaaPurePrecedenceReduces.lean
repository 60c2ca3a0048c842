import Derived.Test.YtecbmcheojolnaaNR
import Derived.Test.YtecbmcheojolnaaXAx0
import Derived.Test.YtecbmcheojolnaaXAx23
import Derived.Test.YtecbmcheojolnaaXAx41
namespace Go.Proofs.Ytecbmcheojolnaa.Pure
open Go.RowKit Go.Proofs.Ytecbmcheojolnaa.Opens Go.Proofs.Ytecbmcheojolnaa.XA Go.Proofs.YtecbmcheojolnaaW.PrintWords Go.Proofs.YtecbmcheojolnaaW.PrintLast Go.Proofs.YtecbmcheojolnaaW.PrintMore
set_option linter.unusedVariables false
set_option linter.unusedSimpArgs false
theorem red_wrong (c : Int) (hc : c ≠ 0) (m : Int) (l : List S47) : Ev (fun k => lw_PrecedenceReduces.j5 k c [] c c m l 0 []) true := by
  (apply Ev.step; focus (intro k; simp only [lw_PrecedenceReduces.j5, if_neg hc, if_true]; rfl))
  refine awk ?_
  simp only [if_true]
  refine Ev.bind (SameG_ev 0 [] (by simp)) ?_
  simp only [if_true]
  (apply Ev.step; focus (intro k; simp only [lw_PrecedenceReduces.j6, List.length_nil]; rfl))
  exact Ev.now _
theorem PrecedenceReduces : lw_PrecedenceReduces.Pure := by
  intro n l g1
  refine Ev.rounds ?_
  unfold lw_PrecedenceReduces.f
  rcases few_cases n l with q | ⟨q, hl, hn⟩
  · simp only [q, Option.bind_some, Bool.not_false]
    (apply Ev.step; focus (intro k; simp only [lw_PrecedenceReduces.j0, if_true]; rfl))
    exact awk (Ev.now true)
  · simp only [q, Option.bind_some, Bool.not_true]
    (apply Ev.step; focus (intro k; simp only [lw_PrecedenceReduces.j0, Bool.false_eq_true, if_false]; rfl))
    (apply Ev.step; focus (intro k; simp only [lw_PrecedenceReduces.j1, lw_ours.f, Option.bind_some]; rfl))
    by_cases hc : chk n l = 0
    · obtain ⟨m, E, rfl, rfl, hv⟩ := valid (by omega) hc
      refine Ev.bind (Reduce_ev hv) ?_
      refine Ev.bind (Levels_ev hv) ?_
      (apply Ev.step; focus (intro k; simp only [lw_PrecedenceReduces.j2]; rfl))
      refine Ev.bind (rCheck_ev _ _ (by omega)) ?_
      (apply Ev.step; focus (intro k; simp only [lw_PrecedenceReduces.j3, hc, if_true]; rfl))
      refine Ev.bind (rOrder_ev hv) ?_
      by_cases z : (Gr.order E m).length < m
      · have zz : ((toI (Gr.order E m)).length : Int) < m := by rw [toI_len]; omega
        have e : lvs m E = ([], 13) := by unfold lvs; rw [if_pos z]
        rw [e]
        simp only [if_pos z, decide_eq_true zz]
        (apply Ev.step; focus (intro k; simp only [lw_PrecedenceReduces.j4, if_true]; rfl))
        exact red_wrong 13 (by decide) m (emb E)
      · have zz : ¬ ((toI (Gr.order E m)).length : Int) < m := by rw [toI_len]; omega
        rw [lvs_same hv z]
        simp only [if_neg z, decide_eq_false zz]
        (apply Ev.step; focus (intro k; simp only [lw_PrecedenceReduces.j4, Bool.false_eq_true, if_false]; rfl))
        (apply Ev.step; focus (intro k; simp only [lw_PrecedenceReduces.j5, if_true]; rfl))
        (apply Ev.step; focus (intro k; simp only [lw_PrecedenceReduces.j7]; rfl))
        refine awk ?_
        simp only [if_true]
        refine Ev.bind (rReduce_ev hv ((full hv).resolve_left z).2) ?_
        refine Ev.bind (SameG_ev _ _ (by rw [emb_len]; exact (red_val hv).len)) ?_
        simp only [if_true]
        refine Ev.bind (rLevels_ev hv) ?_
        refine Ev.bind (Same_ev _ _ ?_) ?_
        · have := hv.le
          rw [vI_len]; omega
        · simp only [decide_true]
          (apply Ev.step; focus (intro k; simp only [lw_PrecedenceReduces.j8]; rfl))
          exact Ev.now _
    · refine Ev.bind (Reduce_bad (by omega) hc) ?_
      refine Ev.bind (Levels_bad (by omega) hc) ?_
      (apply Ev.step; focus (intro k; simp only [lw_PrecedenceReduces.j2]; rfl))
      refine Ev.bind (rCheck_ev _ _ (by omega)) ?_
      (apply Ev.step; focus (intro k; simp only [lw_PrecedenceReduces.j3, if_neg hc]; rfl))
      (apply Ev.step; focus (intro k; simp only [lw_PrecedenceReduces.j4, Bool.false_eq_true, if_false]; rfl))
      exact red_wrong _ hc n l
end Go.Proofs.Ytecbmcheojolnaa.Pure
