import Derived.Test.YtjlljjnkjhdljaaXAx0
import Derived.Test.YtjlljjnkjhdljaaXAx21
import Derived.Test.YtjlljjnkjhdljaaXAx25
import Derived.Test.YtjlljjnkjhdljaaXAx29
import Derived.Test.YtjlljjnkjhdljaaNe
namespace Go.Proofs.Ytjlljjnkjhdljaa.Pure
set_option linter.unusedVariables false
set_option linter.unusedSimpArgs false
open Go.RowKit Go.Proofs.Ytjlljjnkjhdljaa.Opens Go.Proofs.Ytjlljjnkjhdljaa.XA Go.Proofs.YtjlljjnkjhdljaaW.PrintWords Go.Proofs.YtjlljjnkjhdljaaW.PrintLast Go.Proofs.YtjlljjnkjhdljaaW.PrintMore
theorem tm1 (L : List (List S46)) (A : Int) (ln : List S46) (n i : Int) (t : Q) (hL : rd_L2 L i = ql t) (h0 : 0 ≤ i) (h1 : i < (L.length : Int)) (k : Nat) (u v : Int) : ∀ (j : Int) (p : S46), 0 ≤ j → j < 4 → rd_T46 (ql t) j = p →
    gangsawlaw40_ArchTemplate.l1 (k + 2) L A ln n i u v j = gangsawlaw40_ArchTemplate.l1 k L A ln n i (mn u p.f0) (mn v p.f1) (wrap64 (j + 1)) := fun j p j0 j1 e => by
  have e1 : gangsawlaw40_ArchTemplate.l1 (k + 2) L A ln n i u v j = gangsawlaw40_ArchTemplate.j12 (k + 1) L A ln n i u v j := by
    simp only [gangsawlaw40_ArchTemplate.l1]
    rw [if_pos j1]
  rw [e1]
  simp only [gangsawlaw40_ArchTemplate.j12]
  rw [hL, e, if_pos h0, if_pos h1, if_pos j0, if_pos (by rw [ql4]; exact j1)]
theorem tm4 (L : List (List S46)) (A : Int) (ln : List S46) (n i : Int) (t : Q) (hL : rd_L2 L i = ql t) (h0 : 0 ≤ i) (h1 : i < (L.length : Int)) (k : Nat) :
    gangsawlaw40_ArchTemplate.l1 (k + 8) L A ln n i t.a.f0 t.a.f1 0 = gangsawlaw40_ArchTemplate.l1 k L A ln n i (lx t) (ly t) 4 := by
  rw [tm1 L A ln n i t hL h0 h1 (k + 6) _ _ 0 t.a (by omega) (by omega) rfl, show wrap64 (0 + 1) = 1 from by decide +kernel, tm1 L A ln n i t hL h0 h1 (k + 4) _ _ 1 t.b (by omega) (by omega) rfl, show wrap64 (1 + 1) = 2 from by decide +kernel, tm1 L A ln n i t hL h0 h1 (k + 2) _ _ 2 t.c (by omega) (by omega) rfl, show wrap64 (2 + 1) = 3 from by decide +kernel, tm1 L A ln n i t hL h0 h1 k _ _ 3 t.d (by omega) (by omega) rfl, show wrap64 (3 + 1) = 4 from by decide +kernel]
  rfl
theorem tml (x : Q) (s : List Q) (ok : Ok x s) (A : Int) (hA : A = aS (x :: s)) (u : List Q) : ∀ (p : List Q) (n : Int), x :: s = p ++ u → n + aS u = A → -8000000000000000 + 8000000000000 * u.length ≤ n ∧ n ≤ 8000000000000000 - 8000000000000 * u.length →
    Ev (fun k => gangsawlaw40_ArchTemplate.l0 k (tqs (x :: s)) A (lnB x s) n (p.length : Int)) true := by
  induction u with
  | nil =>
    intro p n h hs hn
    have hl : (tqs (x :: s)).length = p.length := by unfold tqs; rw [List.length_map, List.length_map, h]; simp
    have e : n = A := by rw [← hs]; simp [aS]
    refine Ev.step (f := fun k => (gangsawlaw40_awake.f k).bind fun t => if t = true then gangsawlaw40_ArchTemplate.j15 k true else gangsawlaw40_ArchTemplate.j15 k false) (fun k => ?_) ?_
    · simp only [gangsawlaw40_ArchTemplate.l0]
      rw [hl, if_neg (by omega), e, beq_self_eq_true]
    · refine awk (g := fun k t => if t = true then gangsawlaw40_ArchTemplate.j15 k true else gangsawlaw40_ArchTemplate.j15 k false) ?_
      exact Ev.const1 (fun k => rfl)
  | cons q u ih =>
    intro p n h hs hn
    have n6 := ok.n64
    have hl0 : (x :: s).length = p.length + 1 + u.length := by rw [h]; simp; omega
    have hl : (tqs (x :: s)).length = p.length + 1 + u.length := by unfold tqs; rw [List.length_map, List.length_map, hl0]
    have et : rd_L2 (tqs (x :: s)) (p.length : Int) = ql (tq q) := by
      unfold tqs
      rw [h, List.map_append, List.map_cons, show (p.length : Int) = ((p.map tq).length : Int) by simp]
      exact rdQ_app _ _ _
    have hq : NQ q := ok.nq q (by rw [h]; simp)
    have hb := a4_le hq
    rw [aS] at hs
    simp only [List.length_cons] at hn
    have ih := ih (p ++ [q]) (n + a4 q) (by rw [← app_snoc]; exact h) (by omega) ⟨by omega, by omega⟩
    rw [len_snoc] at ih
    have hw : wrap64 (n + a4 q) = n + a4 q := wr ⟨by omega, by omega⟩
    clear hn hb hs
    have hi : (p.length : Int) < ((tqs (x :: s)).length : Int) := by omega
    have h0 : (0 : Int) ≤ (p.length : Int) := by omega
    have hwi : wrap64 ((p.length : Int) + 1) = (p.length : Int) + 1 := wrn _ (by omega)
    have q1 : (0 : Int) ≤ (p.length : Int) + 1 := by omega
    have hll : ((lnB x s).length : Int) = (p.length : Int) + 2 + u.length := by
      rw [lnB_len]
      have : (x :: s).length = s.length + 1 := rfl
      omega
    have q2 : (p.length : Int) + 1 < ((lnB x s).length : Int) := by omega
    have q3 : (p.length : Int) < ((lnB x s).length : Int) := by omega
    obtain ⟨la, lb⟩ := lnB_at ok.join p q u h
    have fin : Ev (fun k => gangsawlaw40_ArchTemplate.l1 k (tqs (x :: s)) A (lnB x s) n (p.length : Int) 0 0 4) true := by
      refine Ev.step (f := fun k => gangsawlaw40_ArchTemplate.j13 k (tqs (x :: s)) A (lnB x s) n (p.length : Int) false) (fun k => ?_) ?_
      · have e1 : wrap64 ((tq q).b.f0 - (tq q).a.f0) = wrap64 (q.b.f0 - q.a.f0) := by rw [tq_tp hq]; simp only [tp]; congr 1; omega
        have e2 : wrap64 ((tq q).b.f1 - (tq q).a.f1) = wrap64 (q.b.f1 - q.a.f1) := by rw [tq_tp hq]; simp only [tp]; congr 1; omega
        have g1 : rd_T46 (ql (tq q)) 1 = (tq q).b := rfl
        have g0 : rd_T46 (ql (tq q)) 0 = (tq q).a := rfl
        simp only [gangsawlaw40_ArchTemplate.l1]
        rw [if_neg (by decide)]
        simp only [if_true, if_pos h0, if_pos hi, et, hwi, la, lb, g0, g1, e1, e2]
        rw [if_pos (by rw [ql4]; decide), if_pos (by rw [ql4]; decide), if_pos q1, if_pos q2, if_pos q3, bne_self_eq_false]
      · refine Ev.step (f := fun k => gangsawlaw40_ArchTemplate.j14 k (tqs (x :: s)) A (lnB x s) n (p.length : Int)) (fun k => rfl) ?_
        refine Ev.step (f := fun k => (gangsawref40_Area2.f k (ql (tq q))).bind fun t => gangsawlaw40_ArchTemplate.l0 k (tqs (x :: s)) A (lnB x s) (wrap64 (n + t)) ((p.length : Int) + 1)) (fun k => ?_) ?_
        · simp only [gangsawlaw40_ArchTemplate.j14]
          rw [if_pos h0, if_pos hi, et, hwi]
        · refine Ev.bind (f := fun k t => gangsawlaw40_ArchTemplate.l0 k (tqs (x :: s)) A (lnB x s) (wrap64 (n + t)) ((p.length : Int) + 1)) (rArea_tq hq) ?_
          rw [hw]
          exact ih
    obtain ⟨K, hK⟩ := fin
    refine Ev.step (f := fun k => gangsawlaw40_ArchTemplate.j9 k (tqs (x :: s)) A (lnB x s) n (p.length : Int)) (fun k => by simp only [gangsawlaw40_ArchTemplate.l0]; rw [if_pos hi]) ?_
    refine Ev.step (f := fun k => gangsawlaw40_ArchTemplate.j10 k (tqs (x :: s)) A (lnB x s) n (p.length : Int)) (fun k => by simp only [gangsawlaw40_ArchTemplate.j9]; rw [if_pos h0, if_pos hi, et, if_pos (ql4 _)]) ?_
    refine Ev.step (f := fun k => gangsawlaw40_ArchTemplate.l1 k (tqs (x :: s)) A (lnB x s) n (p.length : Int) (tq q).a.f0 (tq q).a.f1 0) (fun k => by simp only [gangsawlaw40_ArchTemplate.j10]; rw [if_pos h0, if_pos hi, et, if_pos (by rw [ql4]; decide)]; rfl) ?_
    refine ⟨K + 8, fun k hk => ?_⟩
    obtain ⟨m, rfl⟩ : ∃ m, k = m + 8 := ⟨k - 8, by omega⟩
    show gangsawlaw40_ArchTemplate.l1 (m + 8) _ _ _ _ _ _ _ _ = _
    rw [tm4 _ _ _ _ _ (tq q) et h0 hi m, tq_tp hq, lx_tp, ly_tp]
    exact hK m (by omega)
theorem Template_law (l : List (List S46)) : Ev (fun k => gangsawlaw40_ArchTemplate.f k l) true := by
  refine Ev.bind (f := fun k t => gangsawlaw40_ArchTemplate.j0 k l (!t)) (Few_ev l) ?_
  cases hf : few l with
  | false => refine Ev.step (f := fun k => (gangsawlaw40_awake.f k).bind fun t => (some t : Option Bool)) (fun k => rfl) awk1
  | true =>
    have hl : l.length < 1000 := by have := (few_len hf).1; omega
    refine Ev.step (f := fun k => gangsawlaw40_ArchTemplate.j1 k l) (fun k => rfl) ?_
    by_cases hc : ck l = 0
    · obtain ⟨x, s, rfl, ok⟩ := ok_of hc
      have n6 := ok.n64
      refine Ev.step (fun k => rfl) (Ev.bind (f := fun k (bt : List (List S46) × Int) => gangsawlaw40_ArchTemplate.j2 k _ bt.1 bt.2) (Templates_ev ok) ?_)
      refine Ev.step (fun k => rfl) (Ev.bind (f := fun k (bt : Int × Int) => gangsawlaw40_ArchTemplate.j3 k _ _ _ bt.1 bt.2) (Area2_ev ok) ?_)
      refine Ev.step (fun k => rfl) (Ev.bind (f := fun k (bt : List S46 × Int) => gangsawlaw40_ArchTemplate.j4 k _ _ _ _ _ bt.1 bt.2) (Inner_ev ok) ?_)
      refine Ev.step (f := fun k => gangsawlaw40_ArchTemplate.j5 k ((x :: s).map ql) (tqs (x :: s)) (aS (x :: s)) 0 (lnB x s) 0) (fun k => rfl) ?_
      refine Ev.step (f := fun k => gangsawlaw40_ArchTemplate.j6 k (tqs (x :: s)) (aS (x :: s)) (lnB x s) false) (fun k => ?_) ?_
      · have hlen : (x :: s).length = s.length + 1 := rfl
        simp only [gangsawlaw40_ArchTemplate.j5, if_true]
        rw [if_pos (by unfold tqs; simp), lenQ, wr (x := ((x :: s).length : Int) + 1) ⟨by omega, by omega⟩, lnB_len, show (((s.length + 2 : Nat) : Int) != ((x :: s).length : Int) + 1) = false by rw [bne_eq_false_iff_eq]; omega]
      refine Ev.step (f := fun k => gangsawlaw40_ArchTemplate.j7 k (tqs (x :: s)) (aS (x :: s)) (lnB x s)) (fun k => rfl) ?_
      refine Ev.step (f := fun k => gangsawlaw40_ArchTemplate.l0 k (tqs (x :: s)) (aS (x :: s)) (lnB x s) 0 0) (fun k => rfl) ?_
      exact tml x s ok _ rfl (x :: s) [] 0 rfl (by omega) ⟨by omega, by omega⟩
    · refine Ev.step (fun k => rfl) (Ev.bind (f := fun k (bt : List (List S46) × Int) => gangsawlaw40_ArchTemplate.j2 k _ bt.1 bt.2) (Templates_err hl hc) ?_)
      refine Ev.step (fun k => rfl) (Ev.bind (f := fun k (bt : Int × Int) => gangsawlaw40_ArchTemplate.j3 k _ _ _ bt.1 bt.2) (Area2_err hl hc) ?_)
      refine Ev.step (fun k => rfl) (Ev.bind (f := fun k (bt : List S46 × Int) => gangsawlaw40_ArchTemplate.j4 k _ _ _ _ _ bt.1 bt.2) (Inner_err hl hc) ?_)
      refine Ev.step (f := fun k => (gangsawlaw40_awake.f k).bind fun t => (some t : Option Bool)) (fun k => by simp only [gangsawlaw40_ArchTemplate.j4]; rw [if_neg hc]) awk1
theorem ArchTemplate : gangsawlaw40_ArchTemplate.Pure := by
  intro l g
  exact Ev.rounds (Template_law l)
end Go.Proofs.Ytjlljjnkjhdljaa.Pure
