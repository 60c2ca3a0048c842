import Derived.Test.YtglkcinmohjblaaDoorNc
import Derived.Test.YtglkcinmohjblaaDoorXAx0
import Derived.Test.YtglkcinmohjblaaDoorXAx26
import Derived.Test.YtglkcinmohjblaaDoorXAx53
import Derived.Test.YtglkcinmohjblaaDoorXAx54
namespace Go.Proofs.YtglkcinmohjblaaDoor.Pure
set_option linter.unusedVariables false
set_option linter.unusedSimpArgs false
open Go.RowKit Go.Proofs.YtglkcinmohjblaaDoor.Opens Go.Proofs.YtglkcinmohjblaaDoor.XA Go.Proofs.YtglkcinmohjblaaDoorW.PrintWords Go.Proofs.YtglkcinmohjblaaDoorW.PrintLast Go.Proofs.YtglkcinmohjblaaDoorW.PrintMore
theorem lrev0 {l : List S62} (h : Ok l) (c : Int) : ∀ (n : Nat) (acc : List S62), n ≤ l.length → acc = (l.drop n).reverse.map mir → ∀ {r}, Ev (fun k => lw_BookmatchReversed.l1 k l c (l.reverse.map mir) [] 0) r → Ev (fun k => lw_BookmatchReversed.l0 k l c acc [] ((n : Int) - 1)) r
  | 0, acc, _, ha, r, hr => by
    refine Ev.step (f := fun k => lw_BookmatchReversed.l1 k l c (l.reverse.map mir) [] 0) (fun k => by
      simp only [lw_BookmatchReversed.l0]
      rw [if_neg (by omega), ha]; simp) hr
  | n + 1, acc, hn, ha, r, hr => by
    have n2 := h.n2
    have hl : acc.length < 977343669134 := by rw [ha]; simp; omega
    have e1 : ((n + 1 : Nat) : Int) - 1 = n := by omega
    have hm := h.g _ (rdm (l := l) (i := n) (by omega) (by omega))
    have hd : l.drop n = rd_T62 l n :: l.drop (n + 1) := by
      rw [List.drop_eq_getElem_cons (show n < l.length by omega)]
      simp [rd_T62, List.getD_eq_getElem?_getD, List.getElem?_eq_getElem (show n < l.length by omega)]
    rw [e1]
    refine Ev.step (f := fun k => lw_BookmatchReversed.j5 k l c acc [] n) (fun k => by
      simp only [lw_BookmatchReversed.l0]
      rw [if_pos (by omega)]) ?_
    refine Ev.step (f := fun k => (lw_mirror.f k (rd_T62 l n).f5).bind fun t684 => ((lw_mirror.f k (rd_T62 l n).f6).bind fun t688 => lw_BookmatchReversed.l0 k l c (acc ++ [(⟨(⟨#[]⟩ : ByteArray), (⟨#[]⟩ : ByteArray), 0, (⟨(⟨0, 0, 0⟩ : S58), (⟨0, 0, 0⟩ : S58)⟩ : S60), 0, t684, t688⟩ : S62)]) [] ((n : Int) - 1))) (fun k => by
      simp only [lw_BookmatchReversed.j5]
      rw [if_pos (by omega), if_pos (by omega), wr (by omega)]
      simp only [if_pos hl]) ?_
    refine Ev.bind (lmirror_ev _ (by have := hm.1.hi; omega)) ?_
    refine Ev.bind (lmirror_ev _ (by have := hm.2.1.hi; omega)) ?_
    exact lrev0 h c n _ (by omega) (by rw [hd, ha, List.reverse_cons, List.map_append]; rfl) hr
theorem lover0 {l : List S62} (h : Ok l) (c : Int) (O : List S62) : ∀ (s p : List S62), l = p ++ s → ∀ {r}, Ev (fun k => (bookmatch_Sequence.f k O).bind fun bt705 => (lw_BookmatchReversed.j8 k c (l.map ovr) bt705.2.1 bt705.2.2)) r → Ev (fun k => lw_BookmatchReversed.l1 k l c O (p.map ovr) (p.length : Int)) r
  | [], p, hp, r, hr => by
    refine Ev.step (fun k => ?_) hr
    simp only [lw_BookmatchReversed.l1]
    rw [if_neg (by rw [hp]; simp), show p = l by rw [hp]; simp]
  | x :: s, p, hp, r, hr => by
    have n2 := h.n2
    have hla : l.length = p.length + s.length + 1 := by rw [hp]; simp; omega
    have hx : rd_T62 l (p.length : Int) = x := by rw [hp]; exact rdT_app p s x
    have hm := h.g x (by rw [hp]; simp)
    refine Ev.step (f := fun k => lw_BookmatchReversed.j7 k l c O (p.map ovr) (p.length : Int)) (fun k => by
      simp only [lw_BookmatchReversed.l1]
      rw [if_pos (by omega)]) ?_
    refine Ev.step (f := fun k => (lw_mirror.f k x.f6).bind fun t695 => ((lw_mirror.f k x.f5).bind fun t699 => lw_BookmatchReversed.l1 k l c O (p.map ovr ++ [(⟨(⟨#[]⟩ : ByteArray), (⟨#[]⟩ : ByteArray), 0, (⟨(⟨0, 0, 0⟩ : S58), (⟨0, 0, 0⟩ : S58)⟩ : S60), 0, t695, t699⟩ : S62)]) ((p ++ [x]).length : Int))) (fun k => by
      simp only [lw_BookmatchReversed.j7]
      rw [if_pos (by omega), if_pos (by omega), wr (by omega), hx, len_snoc]
      simp only [if_pos (show (p.map ovr).length < 977343669134 by rw [List.length_map]; omega)]) ?_
    refine Ev.bind (lmirror_ev _ (by have := hm.2.1.hi; omega)) ?_
    refine Ev.bind (lmirror_ev _ (by have := hm.1.hi; omega)) ?_
    have ih := lover0 h c O s (p ++ [x]) (by rw [hp, app_snoc]) hr
    rw [List.map_append] at ih
    exact ih
theorem Reversed_ev (l : List S62) : Ev (fun k => lw_BookmatchReversed.f k l) true := by
  obtain ⟨b, hb, _, _⟩ := few_ev l 20 (by omega)
  unfold lw_BookmatchReversed.f
  refine Ev.bind (f := fun k t459 => (lw_BookmatchReversed.j0 k l (!t459))) hb ?_
  cases b with
  | false =>
    exact Ev.step (fun k => by simp only [lw_BookmatchReversed.j0, Bool.not_false, if_true]) awk1
  | true =>
    apply Ev.step
    focus (intro k; simp only [lw_BookmatchReversed.j0, Bool.not_true, Bool.false_eq_true, if_false]; rfl)
    apply Ev.step
    focus (intro k; simp only [lw_BookmatchReversed.j1]; rfl)
    refine Ev.bind (f := fun k bt671 => (lw_BookmatchReversed.j2 k l bt671.2.1 bt671.2.2)) (seq_ev l) ?_
    by_cases h : ck l = 0
    · have hk := ok_of h
      have n1 := hk.n1
      have n2 := hk.n2
      simp only [if_pos h]
      apply Ev.step
      focus (intro k; simp only [lw_BookmatchReversed.j2, if_true]; rfl)
      refine Ev.step (f := fun k => lw_BookmatchReversed.l0 k l (bestV l (l.length - 1) 0) [] [] ((l.length : Int) - 1)) (fun k => by
        simp only [lw_BookmatchReversed.j3]
        rw [wr (by omega)]) ?_
      refine lrev0 hk _ l.length [] (Nat.le_refl _) (by simp) ?_
      refine lover0 hk _ _ l [] rfl ?_
      have h1 := seq_ev (l.reverse.map mir)
      rw [if_pos (ok_ck (ok_mir hk)), show (l.reverse.map mir).length = l.length by simp, mir_best hk] at h1
      refine Ev.bind h1 ?_
      apply Ev.step
      focus (intro k; simp only [lw_BookmatchReversed.j8]; rfl)
      have h2 := seq_ev (l.map ovr)
      rw [if_pos (ok_ck (ok_ovr hk)), show (l.map ovr).length = l.length by simp, ovr_best hk] at h2
      refine Ev.bind h2 ?_
      apply Ev.step
      focus (intro k; simp only [lw_BookmatchReversed.j9, if_true]; rfl)
      refine awk ?_
      exact Ev.const1 fun k => by simp [lw_BookmatchReversed.j10]
    · simp only [if_neg h]
      apply Ev.step
      focus (intro k; simp only [lw_BookmatchReversed.j2, if_neg h]; rfl)
      exact awk1
theorem BookmatchReversed : lw_BookmatchReversed.Pure := by
  intro l g
  exact Ev.rounds (Reversed_ev l)
end Go.Proofs.YtglkcinmohjblaaDoor.Pure
