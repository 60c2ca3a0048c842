import Derived.Test.YtecbmcheojolnaaNC
import Derived.Test.YtecbmcheojolnaaXAx12
import Derived.Test.YtecbmcheojolnaaXAx23
import Derived.Test.YtecbmcheojolnaaXAx38
namespace Go.Proofs.Ytecbmcheojolnaa.Pure
open Go.RowKit Go.Proofs.Ytecbmcheojolnaa.Opens Go.Proofs.Ytecbmcheojolnaa.XA Go.Proofs.YtecbmcheojolnaaW.PrintWords Go.Proofs.YtecbmcheojolnaaW.PrintLast Go.Proofs.YtecbmcheojolnaaW.PrintMore
set_option linter.unusedVariables false
set_option linter.unusedSimpArgs false
/-- From the needs on. -/
theorem cyc_tail {m : Nat} {E : List (Nat × Nat)} (hv : Val m E) (a : Int) (r : List Int × Int) (hr : ((a < 0 ∨ a ≥ m) ∧ r = ([], 6)) ∨ (∃ t : Nat, a = t ∧ t < m ∧ r = (toI (nds m E t), 0))) :
    Ev (fun k => lw_PrecedenceCycles.j8 k a r.1 r.2 false m (emb E)) true := by
  (apply Ev.step; focus (intro k; simp only [lw_PrecedenceCycles.j8, Bool.false_eq_true, if_false]; rfl))
  rcases hr with ⟨h, rfl⟩ | ⟨t, rfl, ht, rfl⟩
  · have h10 : Ev (fun k => lw_PrecedenceCycles.j10 k a ([] : List Int) 6 true m (emb E)) true := by
      (apply Ev.step; focus (intro k; simp only [lw_PrecedenceCycles.j10, if_true]; rfl))
      refine awk ?_
      simp only [if_true]
      (apply Ev.step; focus (intro k; simp only [lw_PrecedenceCycles.j11, List.length_nil]; rfl))
      exact Ev.now _
    by_cases q : a < 0
    · (apply Ev.step; focus (intro k; simp only [lw_PrecedenceCycles.j9, if_pos q]; rfl))
      exact h10
    · (apply Ev.step; focus (intro k; simp only [lw_PrecedenceCycles.j9, if_neg q, decide_eq_true (show a ≥ (m : Int) by omega)]; rfl))
      exact h10
  · (apply Ev.step; focus (intro k; simp only [lw_PrecedenceCycles.j9, if_neg (show ¬ (t : Int) < 0 by omega), decide_eq_false (show ¬ (t : Int) ≥ (m : Int) by omega)]; rfl))
    (apply Ev.step; focus (intro k; simp only [lw_PrecedenceCycles.j10, Bool.false_eq_true, if_false]; rfl))
    (apply Ev.step; focus (intro k; simp only [lw_PrecedenceCycles.j12]; rfl))
    refine awk ?_
    simp only [if_true]
    refine Ev.bind (rNeeds_ev hv ht) ?_
    refine Ev.bind (Same_ev _ _ ?_) ?_
    · have : (nds m E t).length ≤ m := by unfold nds; have := List.length_filter_le (fun a => decide (a ∈ Gr.srch E t (m + 2) 0 [])) (List.range m); rwa [List.length_range] at this
      have := hv.le
      rw [toI_len]; omega
    · simp only [decide_true]
      (apply Ev.step; focus (intro k; simp only [lw_PrecedenceCycles.j13]; rfl))
      exact Ev.now _
theorem PrecedenceCycles : lw_PrecedenceCycles.Pure := by
  intro n l a g1 g2
  refine Ev.rounds ?_
  unfold lw_PrecedenceCycles.f
  rcases few_cases n l with q | ⟨q, hl, hn⟩
  · simp only [q, Option.bind_some, Bool.not_false]
    (apply Ev.step; focus (intro k; simp only [lw_PrecedenceCycles.j0, if_true]; rfl))
    exact awk (Ev.now true)
  · simp only [q, Option.bind_some, Bool.not_true]
    (apply Ev.step; focus (intro k; simp only [lw_PrecedenceCycles.j0, Bool.false_eq_true, if_false]; rfl))
    (apply Ev.step; focus (intro k; simp only [lw_PrecedenceCycles.j1, lw_ours.f, Option.bind_some]; rfl))
    by_cases hc : chk n l = 0
    · obtain ⟨m, E, rfl, rfl, hv⟩ := valid (by omega) hc
      refine Ev.bind (Cycle_ev hv) ?_
      (apply Ev.step; focus (intro k; simp only [lw_PrecedenceCycles.j2, lw_ours.f, Option.bind_some]; rfl))
      obtain ⟨r, hr, hN⟩ : ∃ r : List Int × Int, (((a < 0 ∨ a ≥ m) ∧ r = ([], 6)) ∨ (∃ t : Nat, a = t ∧ t < m ∧ r = (toI (nds m E t), 0))) ∧ Ev (fun k => precedence_Needs.f k m (emb E) a) r := by
        by_cases z : a < 0 ∨ a ≥ m
        · exact ⟨_, .inl ⟨z, rfl⟩, Needs_range hv z⟩
        · obtain ⟨t, rfl⟩ : ∃ t : Nat, a = t := ⟨a.toNat, by omega⟩
          exact ⟨_, .inr ⟨t, rfl, by omega, rfl⟩, Needs_ev hv (by omega)⟩
      refine Ev.bind hN ?_
      have ht := cyc_tail hv a r hr
      (apply Ev.step; focus (intro k; simp only [lw_PrecedenceCycles.j3]; rfl))
      refine Ev.bind (rCheck_ev _ _ (by omega)) ?_
      (apply Ev.step; focus (intro k; simp only [lw_PrecedenceCycles.j4, hc, if_true]; rfl))
      (apply Ev.step; focus (intro k; simp only [lw_PrecedenceCycles.j6]; rfl))
      by_cases z : Gr.Cyc E
      · obtain ⟨g, w, hL⟩ := Gr.least_ex z
        obtain ⟨e1, e2, e3⟩ := bst_yes hv hL
        refine Ev.bind (rCycle_yes hv hL) ?_
        rw [e1, e2]
        have hp : 0 < (Gr.cyc E m w).length := List.length_pos_iff.2 e3
        have hq : (Gr.cyc E m w).length ≤ 1000 := by
          have h2 := Gr.least_restr hL
          have h3 := Gr.cyc_len hv.lt h2
          have h4 := Gr.sh_len hv.lt _ _ h2
          have := hv.le
          omega
        have c1 : ¬ ((toI (Gr.cyc E m w)).length : Int) = 0 := by rw [toI_len]; omega
        have c2 : ((toI (Gr.cyc E m w)).length : Int) > 0 := by rw [toI_len]; omega
        (apply Ev.step; focus (intro k; simp only [lw_PrecedenceCycles.j7, if_neg c1, if_pos c2, if_true]; rfl))
        refine Ev.bind (Same_ev _ _ (by rw [toI_len]; omega)) ?_
        simp only [decide_true, Bool.not_true]
        exact ht
      · rw [bst_no hv z]
        refine Ev.bind (rCycle_no hv z) ?_
        have c1 : ((([] : List Int).length : Nat) : Int) = 0 := rfl
        have c2 : ¬ ((([] : List Int).length : Nat) : Int) > 0 := by decide
        (apply Ev.step; focus (intro k; simp only [lw_PrecedenceCycles.j7, if_pos c1, if_neg c2, if_true]; rfl))
        exact ht
    · refine Ev.bind (Cycle_bad (by omega) hc) ?_
      (apply Ev.step; focus (intro k; simp only [lw_PrecedenceCycles.j2, lw_ours.f, Option.bind_some]; rfl))
      refine Ev.bind (Needs_bad (by omega) hc a) ?_
      (apply Ev.step; focus (intro k; simp only [lw_PrecedenceCycles.j3]; rfl))
      refine Ev.bind (rCheck_ev _ _ (by omega)) ?_
      have c1 : ((([] : List Int).length : Nat) : Int) = 0 := rfl
      (apply Ev.step; focus (intro k; simp only [lw_PrecedenceCycles.j4, if_neg hc, if_pos c1, if_true]; rfl))
      refine awk ?_
      simp only [if_true]
      (apply Ev.step; focus (intro k; simp only [lw_PrecedenceCycles.j5, List.length_nil]; rfl))
      exact Ev.now _
end Go.Proofs.Ytecbmcheojolnaa.Pure
