import Derived.Test.YtglkcinmohjblaaDoorNa
import Derived.Test.YtglkcinmohjblaaDoorXAx0
import Derived.Test.YtglkcinmohjblaaDoorXAx26
import Derived.Test.YtglkcinmohjblaaDoorXAx28
import Derived.Test.YtglkcinmohjblaaDoorXAx34
import Derived.Test.YtglkcinmohjblaaDoorXAx41
import Derived.Test.YtglkcinmohjblaaDoorXAx42
import Derived.Test.YtglkcinmohjblaaDoorXAx43
namespace Go.Proofs.YtglkcinmohjblaaDoor.Pure
set_option linter.unusedVariables false
set_option linter.unusedSimpArgs false
open Go.RowKit Go.Proofs.YtglkcinmohjblaaDoor.Opens Go.Proofs.YtglkcinmohjblaaDoor.XA Go.Proofs.YtglkcinmohjblaaDoorW.PrintWords Go.Proofs.YtglkcinmohjblaaDoorW.PrintLast Go.Proofs.YtglkcinmohjblaaDoorW.PrintMore
theorem Rows_ev (l : List S62) : Ev (fun k => lw_BookmatchRows.f k l) true := by
  obtain ⟨b, hb, _, _⟩ := few_ev l 20 (by omega)
  unfold lw_BookmatchRows.f
  refine Ev.bind (f := fun k t459 => (lw_BookmatchRows.j0 k l (!t459))) hb ?_
  cases b with
  | false =>
    exact Ev.step (fun k => by simp only [lw_BookmatchRows.j0, Bool.not_false, if_true]) awk1
  | true =>
    refine Ev.step (f := fun k => lw_BookmatchRows.j1 k l) (fun k => by simp only [lw_BookmatchRows.j0, Bool.not_true, Bool.false_eq_true, if_false]) ?_
    refine Ev.step (f := fun k => (bookmatch_Sequence.f k l).bind fun bt461 => (lw_BookmatchRows.j2 k l bt461.1 bt461.2.1 bt461.2.2)) (fun k => rfl) ?_
    refine Ev.bind (f := fun k bt461 => (lw_BookmatchRows.j2 k l bt461.1 bt461.2.1 bt461.2.2)) (seq_ev l) ?_
    by_cases h : ck l = 0
    · have hk := ok_of h
      have n1 := hk.n1
      have n2 := hk.n2
      have hfl : (firstR l (l.length - 1) 0).length ≤ 1000 := by rw [firstR_len]; omega
      have hbl : (bkR l.length 0).length ≤ 1000 := by rw [bkR_len]; omega
      have hfi := firstR_in l (l.length - 1) 0 (Int.le_refl 0) (by omega)
      have hbi := bkR_in l l.length 0 (Int.le_refl 0) (by omega)
      simp only [if_pos h]
      refine Ev.step (f := fun k => (bookmatch_Book.f k l).bind fun bt466 => (lw_BookmatchRows.j3 k l (firstR l (l.length - 1) 0) (bestV l (l.length - 1) 0) 0 bt466.1 bt466.2.1 bt466.2.2)) (fun k => rfl) ?_
      refine Ev.bind (f := fun k bt466 => (lw_BookmatchRows.j3 k l (firstR l (l.length - 1) 0) (bestV l (l.length - 1) 0) 0 bt466.1 bt466.2.1 bt466.2.2)) (book_ev l) ?_
      simp only [if_pos h]
      refine Ev.step (f := fun k => (rf_Check.f k l).bind fun t471 => (lw_BookmatchRows.j4 k l (firstR l (l.length - 1) 0) (bestV l (l.length - 1) 0) 0 (bkR l.length 0) (costR l (bkR l.length 0)) 0 t471)) (fun k => rfl) ?_
      refine Ev.bind (f := fun k t471 => (lw_BookmatchRows.j4 k l (firstR l (l.length - 1) 0) (bestV l (l.length - 1) 0) 0 (bkR l.length 0) (costR l (bkR l.length 0)) 0 t471)) (rck_ev l) ?_
      rw [h]
      refine Ev.step (f := fun k => lw_BookmatchRows.j6 k l (firstR l (l.length - 1) 0) (bestV l (l.length - 1) 0) 0 (bkR l.length 0) (costR l (bkR l.length 0)) 0) (fun k => by simp only [lw_BookmatchRows.j4, if_true]) ?_
      refine Ev.step (f := fun k => (rf_Sequence.f k l).bind fun t473 => ((rf_Book.f k l).bind fun t476 => (lw_BookmatchRows.j7 k l (firstR l (l.length - 1) 0) (bestV l (l.length - 1) 0) 0 (bkR l.length 0) (costR l (bkR l.length 0)) 0 t473 t476))) (fun k => rfl) ?_
      refine Ev.bind (f := fun k t473 => ((rf_Book.f k l).bind fun t476 => (lw_BookmatchRows.j7 k l (firstR l (l.length - 1) 0) (bestV l (l.length - 1) 0) 0 (bkR l.length 0) (costR l (bkR l.length 0)) 0 t473 t476))) (rSeq_ev hk) ?_
      refine Ev.bind (f := fun k t476 => (lw_BookmatchRows.j7 k l (firstR l (l.length - 1) 0) (bestV l (l.length - 1) 0) 0 (bkR l.length 0) (costR l (bkR l.length 0)) 0 ((firstR l (l.length - 1) 0).map th) t476)) (rbook_ev hk) ?_
      apply Ev.step
      focus (intro k; simp only [lw_BookmatchRows.j7, if_true]; rfl)
      refine awk ?_
      simp only [if_true]
      refine Ev.bind (theirs_ev _ hfl) ?_
      refine Ev.bind (same_ev _ (by rw [List.length_map]; exact hfl)) ?_
      simp only [if_true]
      refine Ev.bind (rcost_ev hk _ hfi hfl) ?_
      simp only [cost_first, if_true]
      refine Ev.bind (theirs_ev _ hbl) ?_
      refine Ev.bind (same_ev _ (by rw [List.length_map]; exact hbl)) ?_
      simp only [if_true]
      refine Ev.bind (rcost_ev hk _ hbi hbl) ?_
      exact Ev.const1 fun k => by simp [lw_BookmatchRows.j8]
    · simp only [if_neg h]
      refine Ev.step (f := fun k => (bookmatch_Book.f k l).bind fun bt466 => (lw_BookmatchRows.j3 k l [] 0 (ck l) bt466.1 bt466.2.1 bt466.2.2)) (fun k => rfl) ?_
      refine Ev.bind (f := fun k bt466 => (lw_BookmatchRows.j3 k l [] 0 (ck l) bt466.1 bt466.2.1 bt466.2.2)) (book_ev l) ?_
      simp only [if_neg h]
      refine Ev.step (f := fun k => (rf_Check.f k l).bind fun t471 => (lw_BookmatchRows.j4 k l [] 0 (ck l) [] 0 (ck l) t471)) (fun k => rfl) ?_
      refine Ev.bind (f := fun k t471 => (lw_BookmatchRows.j4 k l [] 0 (ck l) [] 0 (ck l) t471)) (rck_ev l) ?_
      apply Ev.step
      focus (intro k; simp only [lw_BookmatchRows.j4, if_neg h, if_true, List.length_nil, Int.natCast_zero]; rfl)
      refine awk ?_
      simp only [if_true]
      exact Ev.const1 fun k => by simp [lw_BookmatchRows.j5]
theorem BookmatchRows : lw_BookmatchRows.Pure := by
  intro l g
  exact Ev.rounds (Rows_ev l)
end Go.Proofs.YtglkcinmohjblaaDoor.Pure
