import Derived.Test.YtjlljjnkjhdljaaXAx0
import Derived.Test.YtjlljjnkjhdljaaXAx19
import Derived.Test.YtjlljjnkjhdljaaXAx21
import Derived.Test.YtjlljjnkjhdljaaXAx24
import Derived.Test.YtjlljjnkjhdljaaXAx25
import Derived.Test.YtjlljjnkjhdljaaXAx31
import Derived.Test.YtjlljjnkjhdljaaXAx33
import Derived.Test.YtjlljjnkjhdljaaNc
namespace Go.Proofs.Ytjlljjnkjhdljaa.Pure
set_option linter.unusedVariables false
set_option linter.unusedSimpArgs false
open Go.RowKit Go.Proofs.Ytjlljjnkjhdljaa.Opens Go.Proofs.Ytjlljjnkjhdljaa.XA Go.Proofs.YtjlljjnkjhdljaaW.PrintWords Go.Proofs.YtjlljjnkjhdljaaW.PrintLast Go.Proofs.YtjlljjnkjhdljaaW.PrintMore
theorem tl_ev (x : Q) (s : List Q) (ok : Ok x s) (m : List (List S46)) (e : Int) (R : Bool) (hR : Ev (fun k => gangsawlaw40_ArchTemplates.j12 k m e ((mirQ x s).map ql)) R) : ∀ (u p : List Q), x :: s = p ++ u → Ev (fun k => gangsawlaw40_ArchTemplates.l0 k ((x :: s).map ql) (tqs (x :: s)) m e (p.length : Int)) R
  | [], p, h => by
    have hl : (tqs (x :: s)).length = p.length := by unfold tqs; rw [List.length_map, List.length_map, h]; simp
    refine Ev.step (f := fun k => (gangsawref40_Mirror.f k ((x :: s).map ql)).bind fun t => gangsawlaw40_ArchTemplates.j12 k m e t) (fun k => by simp only [gangsawlaw40_ArchTemplates.l0]; rw [hl, if_neg (by omega)]) ?_
    exact Ev.bind (f := fun k t => gangsawlaw40_ArchTemplates.j12 k m e t) (rMirror_ev x s ok.len) hR
  | q :: u, p, h => by
    have n6 := ok.len
    have hl0 : (x :: s).length = p.length + 1 + u.length := by rw [h]; simp; omega
    have hl : (tqs (x :: s)).length = p.length + 1 + u.length := by unfold tqs; rw [List.length_map, List.length_map, hl0]
    have ex : rd_L2 ((x :: s).map ql) (p.length : Int) = ql q := by rw [h]; exact rdQ_app p u q
    have et : rd_L2 (tqs (x :: s)) (p.length : Int) = ql (tq q) := by
      unfold tqs
      rw [h, List.map_append, List.map_cons, show (p.length : Int) = ((p.map tq).length : Int) by simp]
      exact rdQ_app _ _ _
    have ih := tl_ev x s ok m e R hR u (p ++ [q]) (by rw [← app_snoc]; exact h)
    rw [len_snoc] at ih
    refine Ev.step (f := fun k => gangsawlaw40_ArchTemplates.j11 k ((x :: s).map ql) (tqs (x :: s)) m e (p.length : Int)) (fun k => by simp only [gangsawlaw40_ArchTemplates.l0]; rw [hl, if_pos (by omega)]) ?_
    refine Ev.step (f := fun k => (gangsawref40_Template.f k (ql q)).bind fun t => (gangsawref40_SameLine.f k (ql (tq q)) t).bind fun t => if t = true then gangsawlaw40_ArchTemplates.l0 k ((x :: s).map ql) (tqs (x :: s)) m e ((p.length : Int) + 1) else some false) (fun k => ?_) ?_
    · simp only [gangsawlaw40_ArchTemplates.j11]
      rw [ex, et, hl, lenQ, hl0, if_pos (by omega), if_pos (by omega), if_pos (by omega), wrn _ (by omega)]
    · refine Ev.bind (f := fun k t => (gangsawref40_SameLine.f k (ql (tq q)) t).bind fun t => if t = true then gangsawlaw40_ArchTemplates.l0 k ((x :: s).map ql) (tqs (x :: s)) m e ((p.length : Int) + 1) else some false) (Ev.late 12 fun k => rtemplate_f k q) ?_
      refine Ev.bind (f := fun k t => if t = true then gangsawlaw40_ArchTemplates.l0 k ((x :: s).map ql) (tqs (x :: s)) m e ((p.length : Int) + 1) else some false) (Ev.eq (SameLine_ev _ _ (show 4 < 1000000 by decide)) ((eqLn_iff _ _).2 rfl)) ?_
      simp only [if_true]
      exact ih
theorem Templates1_ev (l : List (List S46)) : Ev (fun k => gangsawlaw40_ArchTemplates.f k l) true := by
  refine Ev.bind (f := fun k t => gangsawlaw40_ArchTemplates.j0 k l (!t)) (Few_ev l) ?_
  cases hf : few l with
  | false => refine Ev.step (f := fun k => (gangsawlaw40_awake.f k).bind fun t => (some t : Option Bool)) (fun k => rfl) awk1
  | true =>
    have hl : l.length < 1000 := by have := (few_len hf).1; omega
    refine Ev.step (f := fun k => gangsawlaw40_ArchTemplates.j1 k l) (fun k => rfl) ?_
    by_cases hc : ck l = 0
    · obtain ⟨x, s, rfl, ok⟩ := ok_of hc
      have n6 := ok.len
      refine Ev.step (fun k => rfl) (Ev.bind (f := fun k (bt : List (List S46) × Int) => gangsawlaw40_ArchTemplates.j2 k _ bt.1 bt.2) (Templates_ev ok) ?_)
      refine Ev.step (fun k => rfl) (Ev.bind (f := fun k (bt : List Int × Int) => gangsawlaw40_ArchTemplates.j3 k _ _ _ bt.1 bt.2) (Kinds_ev ok) ?_)
      refine Ev.step (fun k => rfl) (Ev.bind (f := fun k (bt : List (List S46) × Int) => gangsawlaw40_ArchTemplates.j4 k _ _ _ _ _ bt.1 bt.2) (Mirror_ev ok) ?_)
      generalize hm : (if farQ (mirQ x s) = true then (([] : List (List S46)), (6 : Int)) else ((mirQ x s).map ql, 0)) = m
      refine Ev.step (fun k => rfl) (Ev.bind (f := fun k t => gangsawlaw40_ArchTemplates.j5 k _ _ _ _ _ _ _ t) (rCheck_ev _ hl) ?_)
      rw [hc]
      refine Ev.step (f := fun k => gangsawlaw40_ArchTemplates.j7 k ((x :: s).map ql) (tqs (x :: s)) 0 (kinds (x :: s)) 0 m.1 m.2) (fun k => rfl) ?_
      refine Ev.step (f := fun k => (gangsawref40_Kinds.f k ((x :: s).map ql)).bind fun t534 => ((gangsawref40_SameInts.f k (kinds (x :: s)) t534).bind fun t537 => (gangsawlaw40_ArchTemplates.j8 k ((x :: s).map ql) (tqs (x :: s)) m.1 m.2 (!t537)))) (fun k => ?_) ?_
      · simp only [gangsawlaw40_ArchTemplates.j7, if_true]
        rw [if_pos (by unfold tqs; simp)]
      refine Ev.bind (f := fun k t534 => ((gangsawref40_SameInts.f k (kinds (x :: s)) t534).bind fun t537 => (gangsawlaw40_ArchTemplates.j8 k ((x :: s).map ql) (tqs (x :: s)) m.1 m.2 (!t537)))) (rKinds_ev ok) ?_
      refine Ev.bind (f := fun k t537 => (gangsawlaw40_ArchTemplates.j8 k ((x :: s).map ql) (tqs (x :: s)) m.1 m.2 (!t537))) (SameInts_ev _ (by unfold kinds; rw [List.length_map]; omega)) ?_
      refine Ev.step (f := fun k => gangsawlaw40_ArchTemplates.j9 k ((x :: s).map ql) (tqs (x :: s)) m.1 m.2) (fun k => rfl) ?_
      refine Ev.step (f := fun k => gangsawlaw40_ArchTemplates.l0 k ((x :: s).map ql) (tqs (x :: s)) m.1 m.2 0) (fun k => rfl) ?_
      refine tl_ev x s ok m.1 m.2 true ?_ (x :: s) [] rfl
      refine Ev.step (fun k => rfl) (Ev.bind (f := fun k t => gangsawlaw40_ArchTemplates.j13 k m.1 m.2 ((mirQ x s).map ql) (!t)) (Near_ev (mirQ x s) (by unfold mirQ; rw [List.length_reverse, List.length_map]; exact n6)) ?_)
      cases hfar : farQ (mirQ x s) with
      | true =>
        rw [hfar, if_pos rfl] at hm
        subst hm
        refine Ev.step (f := fun k => (gangsawlaw40_awake.f k).bind fun t => if t = true then gangsawlaw40_ArchTemplates.j14 k true else gangsawlaw40_ArchTemplates.j14 k false) (fun k => rfl) ?_
        refine awk (g := fun k t => if t = true then gangsawlaw40_ArchTemplates.j14 k true else gangsawlaw40_ArchTemplates.j14 k false) ?_
        exact Ev.const1 (fun k => rfl)
      | false =>
        rw [hfar, if_neg (by decide)] at hm
        subst hm
        refine Ev.step (f := fun k => gangsawlaw40_ArchTemplates.j15 k ((mirQ x s).map ql) 0 ((mirQ x s).map ql)) (fun k => rfl) ?_
        refine Ev.step (f := fun k => (gangsawlaw40_awake.f k).bind fun t => if t = true then ((gangsawref40_Same.f k ((mirQ x s).map ql) ((mirQ x s).map ql)).bind fun t550 => (gangsawlaw40_ArchTemplates.j16 k t550)) else gangsawlaw40_ArchTemplates.j16 k false) (fun k => rfl) ?_
        refine awk (g := fun k t => if t = true then ((gangsawref40_Same.f k ((mirQ x s).map ql) ((mirQ x s).map ql)).bind fun t550 => (gangsawlaw40_ArchTemplates.j16 k t550)) else gangsawlaw40_ArchTemplates.j16 k false) ?_
        simp only [if_true]
        refine Ev.bind (f := fun k t550 => gangsawlaw40_ArchTemplates.j16 k t550) (Ev.eq (Same_ev _ _ (by unfold mirQ; rw [List.length_map, List.length_reverse, List.length_map]; omega) (small_ql _)) ((eqLL_iff _ _).2 rfl)) ?_
        exact Ev.const1 (fun k => rfl)
    · refine Ev.step (fun k => rfl) (Ev.bind (f := fun k (bt : List (List S46) × Int) => gangsawlaw40_ArchTemplates.j2 k _ bt.1 bt.2) (Templates_err hl hc) ?_)
      refine Ev.step (fun k => rfl) (Ev.bind (f := fun k (bt : List Int × Int) => gangsawlaw40_ArchTemplates.j3 k _ _ _ bt.1 bt.2) (Kinds_err hl hc) ?_)
      refine Ev.step (fun k => rfl) (Ev.bind (f := fun k (bt : List (List S46) × Int) => gangsawlaw40_ArchTemplates.j4 k _ _ _ _ _ bt.1 bt.2) (Mirror_err hl hc) ?_)
      refine Ev.step (fun k => rfl) (Ev.bind (f := fun k t => gangsawlaw40_ArchTemplates.j5 k _ _ _ _ _ _ _ t) (rCheck_ev _ hl) ?_)
      refine Ev.step (f := fun k => (gangsawlaw40_awake.f k).bind fun t => if t = true then gangsawlaw40_ArchTemplates.j6 k true else gangsawlaw40_ArchTemplates.j6 k false) (fun k => by simp only [gangsawlaw40_ArchTemplates.j5]; rw [if_neg hc]; rfl) ?_
      refine awk (g := fun k t => if t = true then gangsawlaw40_ArchTemplates.j6 k true else gangsawlaw40_ArchTemplates.j6 k false) ?_
      exact Ev.const1 (fun k => rfl)
theorem ArchTemplates : gangsawlaw40_ArchTemplates.Pure := by
  intro l g
  exact Ev.rounds (Templates1_ev l)
end Go.Proofs.Ytjlljjnkjhdljaa.Pure
