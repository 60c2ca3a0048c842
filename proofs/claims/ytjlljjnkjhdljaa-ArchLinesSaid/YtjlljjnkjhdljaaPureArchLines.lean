import Derived.Test.YtjlljjnkjhdljaaXAx0
import Derived.Test.YtjlljjnkjhdljaaXAx21
import Derived.Test.YtjlljjnkjhdljaaXAx24
import Derived.Test.YtjlljjnkjhdljaaXAx28
import Derived.Test.YtjlljjnkjhdljaaNd
namespace Go.Proofs.Ytjlljjnkjhdljaa.Pure
set_option linter.unusedVariables false
set_option linter.unusedSimpArgs false
open Go.RowKit Go.Proofs.Ytjlljjnkjhdljaa.Opens Go.Proofs.Ytjlljjnkjhdljaa.XA Go.Proofs.YtjlljjnkjhdljaaW.PrintWords Go.Proofs.YtjlljjnkjhdljaaW.PrintLast Go.Proofs.YtjlljjnkjhdljaaW.PrintMore
theorem Lines_ev (a b : List S46) : Ev (fun k => gangsawlaw40_ArchLines.f k a b) true := by
  have key : ∀ w : Bool, (w = false → a.length ≤ 70) → Ev (fun k => gangsawlaw40_ArchLines.j0 k a b w) true := fun w hw => by
    refine Ev.step (f := fun k => if w = true then ((gangsawlaw40_awake.f k).bind fun t412 => (some t412)) else (gangsawlaw40_ArchLines.j1 k a b)) (fun k => rfl) ?_
    cases w with
    | true => exact awk1
    | false =>
      have ha : a.length < 500 := by have := hw rfl; omega
      simp only [Bool.false_eq_true, if_false]
      refine Ev.step (fun k => rfl) (Ev.bind (f := fun k (bt : List (List S46) × Int) => gangsawlaw40_ArchLines.j2 k a b bt.1 bt.2) (Of_ev a b ha) ?_)
      refine Ev.step (fun k => rfl) (Ev.bind (f := fun k (bt : List (List S46) × Int) => gangsawlaw40_ArchLines.j3 k (ofR a b).1 (ofR a b).2 bt.1 bt.2) (rOf_ev a b ha) ?_)
      generalize hR : ofR a b = R
      have hs := ofR_small a b ha
      rw [hR] at hs
      refine Ev.step (f := fun k => (gangsawlaw40_awake.f k).bind fun t421 => (if t421 = true then (if R.2 = R.2 then ((gangsawref40_Same.f k R.1 R.1).bind fun t422 => (gangsawlaw40_ArchLines.j4 k t422)) else (gangsawlaw40_ArchLines.j4 k false)) else (gangsawlaw40_ArchLines.j4 k false))) (fun k => rfl) ?_
      refine awk (g := fun k t421 => (if t421 = true then (if R.2 = R.2 then ((gangsawref40_Same.f k R.1 R.1).bind fun t422 => (gangsawlaw40_ArchLines.j4 k t422)) else (gangsawlaw40_ArchLines.j4 k false)) else (gangsawlaw40_ArchLines.j4 k false))) ?_
      simp only [if_true]
      refine Ev.bind (f := fun k t422 => gangsawlaw40_ArchLines.j4 k t422) (Ev.eq (Same_ev _ _ hs.1 hs.2) ((eqLL_iff _ _).2 rfl)) ?_
      exact Ev.const1 (fun k => rfl)
  by_cases c : (a.length : Int) > 70
  · exact Ev.congr (fun k => by unfold gangsawlaw40_ArchLines.f; rw [if_pos c]) (key true (fun h => by cases h))
  · exact Ev.congr (fun k => by unfold gangsawlaw40_ArchLines.f; rw [if_neg c]) (key (decide ((b.length : Int) > 70)) (fun _ => by omega))
theorem ArchLines : gangsawlaw40_ArchLines.Pure := by
  intro l l2 g g2
  exact Ev.rounds (Lines_ev l l2)
end Go.Proofs.Ytjlljjnkjhdljaa.Pure
