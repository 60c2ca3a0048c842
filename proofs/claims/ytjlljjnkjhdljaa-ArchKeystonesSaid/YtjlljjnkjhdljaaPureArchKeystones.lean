import Derived.Test.YtjlljjnkjhdljaaXAx0
import Derived.Test.YtjlljjnkjhdljaaXAx21
import Derived.Test.YtjlljjnkjhdljaaXAx24
import Derived.Test.YtjlljjnkjhdljaaXAx25
import Derived.Test.YtjlljjnkjhdljaaXAx26
import Derived.Test.YtjlljjnkjhdljaaXAx27
import Derived.Test.YtjlljjnkjhdljaaNb
namespace Go.Proofs.Ytjlljjnkjhdljaa.Pure
set_option linter.unusedVariables false
set_option linter.unusedSimpArgs false
open Go.RowKit Go.Proofs.Ytjlljjnkjhdljaa.Opens Go.Proofs.Ytjlljjnkjhdljaa.XA Go.Proofs.YtjlljjnkjhdljaaW.PrintWords Go.Proofs.YtjlljjnkjhdljaaW.PrintLast Go.Proofs.YtjlljjnkjhdljaaW.PrintMore
theorem Keystones_ev (l : List (List S46)) : Ev (fun k => gangsawlaw40_ArchKeystones.f k l) true := by
  refine Ev.bind (f := fun k t => gangsawlaw40_ArchKeystones.j0 k l (!t)) (Few_ev l) ?_
  cases hf : few l with
  | false =>
    refine Ev.step (f := fun k => (gangsawlaw40_awake.f k).bind fun t => (some t : Option Bool)) (fun k => rfl) awk1
  | true =>
    have hl : l.length < 1000 := by have := (few_len hf).1; omega
    refine Ev.step (f := fun k => gangsawlaw40_ArchKeystones.j1 k l) (fun k => rfl) ?_
    by_cases hc : ck l = 0
    · obtain ⟨x, s, rfl, ok⟩ := ok_of hc
      refine Ev.step (fun k => rfl) (Ev.bind (f := fun k (bt : Int × Int) => gangsawlaw40_ArchKeystones.j2 k _ bt.1 bt.2) (Keystone_ev ok) ?_)
      refine Ev.step (fun k => rfl) (Ev.bind (f := fun k (bt : Bool × Int) => gangsawlaw40_ArchKeystones.j3 k _ _ _ bt.1 bt.2) (Symmetric_ev ok) ?_)
      refine Ev.step (fun k => rfl) (Ev.bind (f := fun k (bt : Int × Int) => gangsawlaw40_ArchKeystones.j4 k _ _ _ _ _ bt.1 bt.2) (Area2_ev ok) ?_)
      refine Ev.step (fun k => rfl) (Ev.bind (f := fun k t => gangsawlaw40_ArchKeystones.j5 k _ _ _ _ _ _ _ t) (rCheck_ev _ hl) ?_)
      rw [hc]
      refine Ev.step (f := fun k => gangsawlaw40_ArchKeystones.j7 k ((x :: s).map ql) (if kyn x s < 0 then 0 else kyn x s) (if kyn x s < 0 then 9 else 0) (sym x s) 0 (aS (x :: s)) 0) (fun k => rfl) ?_
      refine Ev.step (fun k => rfl) (Ev.bind (f := fun k t => gangsawlaw40_ArchKeystones.j8 k ((x :: s).map ql) (if kyn x s < 0 then 0 else kyn x s) (if kyn x s < 0 then 9 else 0) (sym x s) 0 (aS (x :: s)) 0 t) (rKeystone_ev x s ok.len) ?_)
      have fin : Ev (fun k => ((gangsawref40_Mirror.f k ((x :: s).map ql)).bind fun t378 => ((gangsawref40_Same.f k ((x :: s).map ql) t378).bind fun t381 => (if (sym x s == t381) = true then ((gangsawref40_Areas2.f k ((x :: s).map ql)).bind fun t382 => (gangsawlaw40_ArchKeystones.j9 k (aS (x :: s) == t382))) else (gangsawlaw40_ArchKeystones.j9 k false))))) true := by
        refine Ev.bind (f := fun k t378 => ((gangsawref40_Same.f k ((x :: s).map ql) t378).bind fun t381 => (if (sym x s == t381) = true then ((gangsawref40_Areas2.f k ((x :: s).map ql)).bind fun t382 => (gangsawlaw40_ArchKeystones.j9 k (aS (x :: s) == t382))) else (gangsawlaw40_ArchKeystones.j9 k false)))) (rMirror_ev x s ok.len) ?_
        refine Ev.bind (f := fun k t381 => (if (sym x s == t381) = true then ((gangsawref40_Areas2.f k ((x :: s).map ql)).bind fun t382 => (gangsawlaw40_ArchKeystones.j9 k (aS (x :: s) == t382))) else (gangsawlaw40_ArchKeystones.j9 k false))) (Same_ev _ _ (by omega) (small_ql _)) ?_
        simp only [show (sym x s == eqLL ((x :: s).map ql) ((mirQ x s).map ql)) = true by unfold sym; simp, if_true]
        refine Ev.bind (f := fun k t382 => gangsawlaw40_ArchKeystones.j9 k (aS (x :: s) == t382)) (rAreas2_ev ok) ?_
        exact Ev.const1 (fun k => by simp [gangsawlaw40_ArchKeystones.j9])
      by_cases hk : kyn x s < 0
      · simp only [if_pos hk]
        refine Ev.step (fun k => by simp only [gangsawlaw40_ArchKeystones.j8, if_pos hk, if_true]; rfl) ?_
        refine awk (g := fun k t => if t = true then ((gangsawref40_Mirror.f k ((x :: s).map ql)).bind fun t378 => ((gangsawref40_Same.f k ((x :: s).map ql) t378).bind fun t381 => (if (sym x s == t381) = true then ((gangsawref40_Areas2.f k ((x :: s).map ql)).bind fun t382 => (gangsawlaw40_ArchKeystones.j9 k (aS (x :: s) == t382))) else (gangsawlaw40_ArchKeystones.j9 k false)))) else gangsawlaw40_ArchKeystones.j9 k false) ?_
        simp only [if_true]
        exact fin
      · simp only [if_neg hk]
        refine Ev.step (fun k => by simp only [gangsawlaw40_ArchKeystones.j8, if_neg hk, if_pos (show kyn x s ≥ 0 by omega), if_true]; rfl) ?_
        refine awk (g := fun k t => if t = true then ((gangsawref40_Mirror.f k ((x :: s).map ql)).bind fun t378 => ((gangsawref40_Same.f k ((x :: s).map ql) t378).bind fun t381 => (if (sym x s == t381) = true then ((gangsawref40_Areas2.f k ((x :: s).map ql)).bind fun t382 => (gangsawlaw40_ArchKeystones.j9 k (aS (x :: s) == t382))) else (gangsawlaw40_ArchKeystones.j9 k false)))) else gangsawlaw40_ArchKeystones.j9 k false) ?_
        simp only [if_true]
        exact fin
    · refine Ev.step (fun k => rfl) (Ev.bind (f := fun k (bt : Int × Int) => gangsawlaw40_ArchKeystones.j2 k _ bt.1 bt.2) (Keystone_err hl hc) ?_)
      refine Ev.step (fun k => rfl) (Ev.bind (f := fun k (bt : Bool × Int) => gangsawlaw40_ArchKeystones.j3 k _ _ _ bt.1 bt.2) (Symmetric_err hl hc) ?_)
      refine Ev.step (fun k => rfl) (Ev.bind (f := fun k (bt : Int × Int) => gangsawlaw40_ArchKeystones.j4 k _ _ _ _ _ bt.1 bt.2) (Area2_err hl hc) ?_)
      refine Ev.step (fun k => rfl) (Ev.bind (f := fun k t => gangsawlaw40_ArchKeystones.j5 k _ _ _ _ _ _ _ t) (rCheck_ev _ hl) ?_)
      refine Ev.step (f := fun k => (gangsawlaw40_awake.f k).bind fun t => if t = true then gangsawlaw40_ArchKeystones.j6 k true else gangsawlaw40_ArchKeystones.j6 k false) (fun k => by simp only [gangsawlaw40_ArchKeystones.j5]; rw [if_neg hc]; rfl) ?_
      refine awk (g := fun k t => if t = true then gangsawlaw40_ArchKeystones.j6 k true else gangsawlaw40_ArchKeystones.j6 k false) ?_
      exact Ev.const1 (fun k => rfl)
theorem ArchKeystones : gangsawlaw40_ArchKeystones.Pure := by
  intro l g
  exact Ev.rounds (Keystones_ev l)
end Go.Proofs.Ytjlljjnkjhdljaa.Pure
