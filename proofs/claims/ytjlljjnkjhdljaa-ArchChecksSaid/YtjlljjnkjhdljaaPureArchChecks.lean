import Derived.Test.YtjlljjnkjhdljaaXAx0
import Derived.Test.YtjlljjnkjhdljaaXAx19
import Derived.Test.YtjlljjnkjhdljaaXAx21
import Derived.Test.YtjlljjnkjhdljaaXAx36
import Derived.Test.YtjlljjnkjhdljaaXAx37
import Derived.Test.YtjlljjnkjhdljaaXAx38
import Derived.Test.YtjlljjnkjhdljaaXAx8
import Derived.Test.YtjlljjnkjhdljaaNa
namespace Go.Proofs.Ytjlljjnkjhdljaa.Pure
set_option linter.unusedVariables false
set_option linter.unusedSimpArgs false
open Go.RowKit Go.Proofs.Ytjlljjnkjhdljaa.Opens Go.Proofs.Ytjlljjnkjhdljaa.XA Go.Proofs.YtjlljjnkjhdljaaW.PrintWords Go.Proofs.YtjlljjnkjhdljaaW.PrintLast Go.Proofs.YtjlljjnkjhdljaaW.PrintMore
theorem Checks_ev (l : List (List S46)) : Ev (fun k => gangsawlaw40_ArchChecks.f k l) true := by
  refine Ev.bind (f := fun k t => gangsawlaw40_ArchChecks.j0 k l (!t)) (Few_ev l) ?_
  cases hf : few l with
  | false =>
    refine Ev.step (f := fun k => (gangsawlaw40_awake.f k).bind fun t => (some t : Option Bool)) (fun k => rfl) awk1
  | true =>
    have hl : l.length < 1000 := by have := (few_len hf).1; omega
    refine Ev.step (f := fun k => gangsawlaw40_ArchChecks.j1 k l) (fun k => rfl) ?_
    by_cases hc : ck l = 0
    · obtain ⟨x, s, rfl, ok⟩ := ok_of hc
      refine Ev.step (fun k => rfl) (Ev.bind (f := fun k (bt : Int × Int × Int) => gangsawlaw40_ArchChecks.j2 k _ bt.1 bt.2.1 bt.2.2) (Span_ev ok) ?_)
      refine Ev.step (fun k => rfl) (Ev.bind (f := fun k (bt : List S46 × Int) => gangsawlaw40_ArchChecks.j3 k _ _ _ _ bt.1 bt.2) (Inner_ev ok) ?_)
      refine Ev.step (fun k => rfl) (Ev.bind (f := fun k (bt : List S46 × Int) => gangsawlaw40_ArchChecks.j4 k _ _ _ _ _ _ bt.1 bt.2) (Outer_ev ok) ?_)
      refine Ev.step (fun k => rfl) (Ev.bind (f := fun k t => gangsawlaw40_ArchChecks.j5 k _ _ _ _ _ _ _ _ t) (rCheck_ev _ hl) ?_)
      rw [hc]
      refine Ev.step (f := fun k => (arch_Check.f k ((x :: s).map ql)).bind fun t => if t = 0 then gangsawlaw40_ArchChecks.j6 k ((x :: s).map ql) (spn x s) (ris x s) (lnB x s) (lnC x s) 0 false else gangsawlaw40_ArchChecks.j6 k ((x :: s).map ql) (spn x s) (ris x s) (lnB x s) (lnC x s) 0 true) (fun k => rfl) ?_
      refine Ev.bind (f := fun k t => if t = 0 then gangsawlaw40_ArchChecks.j6 k ((x :: s).map ql) (spn x s) (ris x s) (lnB x s) (lnC x s) 0 false else gangsawlaw40_ArchChecks.j6 k ((x :: s).map ql) (spn x s) (ris x s) (lnB x s) (lnC x s) 0 true) (Check_ev _ hl) ?_
      simp only [if_pos hc]
      refine Ev.step (f := fun k => gangsawlaw40_ArchChecks.j7 k ((x :: s).map ql) (spn x s) (ris x s) (lnB x s) (lnC x s) 0) (fun k => rfl) ?_
      refine Ev.step (f := fun k => gangsawlaw40_ArchChecks.j9 k ((x :: s).map ql) (spn x s) (ris x s) (lnB x s) (lnC x s)) (fun k => rfl) ?_
      refine Ev.step (fun k => rfl) (Ev.bind (f := fun k (bt : Int × Int) => gangsawlaw40_ArchChecks.j10 k _ _ _ _ _ bt.1 bt.2) (rSpan_ev ok) ?_)
      refine Ev.step (f := fun k => (gangsawlaw40_awake.f k).bind fun t640 => (if t640 = true then (if spn x s = spn x s then (if ris x s = ris x s then ((gangsawref40_Inner.f k ((x :: s).map ql)).bind fun t641 => ((gangsawref40_SameLine.f k (lnB x s) t641).bind fun t644 => (if t644 = true then ((gangsawref40_Outer.f k ((x :: s).map ql)).bind fun t645 => ((gangsawref40_SameLine.f k (lnC x s) t645).bind fun t648 => (gangsawlaw40_ArchChecks.j11 k t648))) else (gangsawlaw40_ArchChecks.j11 k false)))) else (gangsawlaw40_ArchChecks.j11 k false)) else (gangsawlaw40_ArchChecks.j11 k false)) else (gangsawlaw40_ArchChecks.j11 k false))) (fun k => rfl) ?_
      refine awk (g := fun k t640 => (if t640 = true then (if spn x s = spn x s then (if ris x s = ris x s then ((gangsawref40_Inner.f k ((x :: s).map ql)).bind fun t641 => ((gangsawref40_SameLine.f k (lnB x s) t641).bind fun t644 => (if t644 = true then ((gangsawref40_Outer.f k ((x :: s).map ql)).bind fun t645 => ((gangsawref40_SameLine.f k (lnC x s) t645).bind fun t648 => (gangsawlaw40_ArchChecks.j11 k t648))) else (gangsawlaw40_ArchChecks.j11 k false)))) else (gangsawlaw40_ArchChecks.j11 k false)) else (gangsawlaw40_ArchChecks.j11 k false)) else (gangsawlaw40_ArchChecks.j11 k false))) ?_
      simp only [if_true]
      have e1 : eqLn (lnB x s) (lnB x s) = true := (eqLn_iff _ _).2 rfl
      have e2 : eqLn (lnC x s) (lnC x s) = true := (eqLn_iff _ _).2 rfl
      have n6 := ok.n64
      refine Ev.bind (f := fun k t641 => ((gangsawref40_SameLine.f k (lnB x s) t641).bind fun t644 => (if t644 = true then ((gangsawref40_Outer.f k ((x :: s).map ql)).bind fun t645 => ((gangsawref40_SameLine.f k (lnC x s) t645).bind fun t648 => (gangsawlaw40_ArchChecks.j11 k t648))) else (gangsawlaw40_ArchChecks.j11 k false)))) (rInner_ev x s ok.len) ?_
      refine Ev.bind (f := fun k t644 => (if t644 = true then ((gangsawref40_Outer.f k ((x :: s).map ql)).bind fun t645 => ((gangsawref40_SameLine.f k (lnC x s) t645).bind fun t648 => (gangsawlaw40_ArchChecks.j11 k t648))) else (gangsawlaw40_ArchChecks.j11 k false))) (Ev.eq (SameLine_ev _ _ (by rw [lnB_len]; simp at n6; omega)) e1) ?_
      simp only [if_true]
      refine Ev.bind (f := fun k t645 => ((gangsawref40_SameLine.f k (lnC x s) t645).bind fun t648 => (gangsawlaw40_ArchChecks.j11 k t648))) (rOuter_ev x s ok.len) ?_
      refine Ev.bind (f := fun k t648 => (gangsawlaw40_ArchChecks.j11 k t648)) (Ev.eq (SameLine_ev _ _ (by rw [lnC_len]; simp at n6; omega)) e2) ?_
      exact Ev.const1 (fun k => rfl)
    · refine Ev.step (fun k => rfl) (Ev.bind (f := fun k (bt : Int × Int × Int) => gangsawlaw40_ArchChecks.j2 k _ bt.1 bt.2.1 bt.2.2) (Span_err hl hc) ?_)
      refine Ev.step (fun k => rfl) (Ev.bind (f := fun k (bt : List S46 × Int) => gangsawlaw40_ArchChecks.j3 k _ _ _ _ bt.1 bt.2) (Inner_err hl hc) ?_)
      refine Ev.step (fun k => rfl) (Ev.bind (f := fun k (bt : List S46 × Int) => gangsawlaw40_ArchChecks.j4 k _ _ _ _ _ _ bt.1 bt.2) (Outer_err hl hc) ?_)
      refine Ev.step (fun k => rfl) (Ev.bind (f := fun k t => gangsawlaw40_ArchChecks.j5 k _ _ _ _ _ _ _ _ t) (rCheck_ev _ hl) ?_)
      refine Ev.step (fun k => rfl) (Ev.bind (f := fun k t636 => (if t636 = ck l then (if ck l = ck l then (if ck l = ck l then (gangsawlaw40_ArchChecks.j6 k l 0 0 [] [] (ck l) (ck l != ck l)) else (gangsawlaw40_ArchChecks.j6 k l 0 0 [] [] (ck l) true)) else (gangsawlaw40_ArchChecks.j6 k l 0 0 [] [] (ck l) true)) else (gangsawlaw40_ArchChecks.j6 k l 0 0 [] [] (ck l) true))) (Check_ev _ hl) ?_)
      simp only [if_true, bne_self_eq_false]
      refine Ev.step (f := fun k => gangsawlaw40_ArchChecks.j7 k l 0 0 [] [] (ck l)) (fun k => rfl) ?_
      refine Ev.step (f := fun k => (gangsawlaw40_awake.f k).bind fun t => if t = true then gangsawlaw40_ArchChecks.j8 k true else gangsawlaw40_ArchChecks.j8 k false) (fun k => by simp only [gangsawlaw40_ArchChecks.j7]; rw [if_neg hc]; rfl) ?_
      refine awk (g := fun k t => if t = true then gangsawlaw40_ArchChecks.j8 k true else gangsawlaw40_ArchChecks.j8 k false) ?_
      exact Ev.const1 (fun k => rfl)
theorem ArchChecks : gangsawlaw40_ArchChecks.Pure := by
  intro l g
  exact Ev.rounds (Checks_ev l)
end Go.Proofs.Ytjlljjnkjhdljaa.Pure
