import Derived.Test.YtjlljjnkjhdljaaXAx0
import Derived.Test.YtjlljjnkjhdljaaXAx21
import Derived.Test.YtjlljjnkjhdljaaXAx24
import Derived.Test.YtjlljjnkjhdljaaXAx25
import Derived.Test.YtjlljjnkjhdljaaXAx39
import Derived.Test.YtjlljjnkjhdljaaNf
namespace Go.Proofs.Ytjlljjnkjhdljaa.Pure
set_option linter.unusedVariables false
set_option linter.unusedSimpArgs false
open Go.RowKit Go.Proofs.Ytjlljjnkjhdljaa.Opens Go.Proofs.Ytjlljjnkjhdljaa.XA Go.Proofs.YtjlljjnkjhdljaaW.PrintWords Go.Proofs.YtjlljjnkjhdljaaW.PrintLast Go.Proofs.YtjlljjnkjhdljaaW.PrintMore
theorem bl0 (L : List (List S46)) (A : Int) (B : List (List S46)) (e : Int) : ∀ (n : Nat) (p r : List S46) (acc : List S46) (R : Bool), p.length = n → (p ++ r).length < 1000 → acc.length + n < 3000 →
    Ev (fun k => gangsawlaw40_ArchBack.l0 k L (p ++ r) A B e (acc ++ p.reverse) (-1)) R → Ev (fun k => gangsawlaw40_ArchBack.l0 k L (p ++ r) A B e acc ((n : Int) - 1)) R := by
  intro n
  induction n with
  | zero =>
    intro p r acc R hp hl ha h
    obtain rfl : p = [] := List.length_eq_zero_iff.1 hp
    simpa using h
  | succ m ih =>
    intro p r acc R hp hl ha h
    have hne : p ≠ [] := fun e => by rw [e] at hp; cases hp
    obtain ⟨p', z, rfl⟩ : ∃ p' z, p = p' ++ [z] := ⟨p.dropLast, p.getLast hne, (List.dropLast_concat_getLast hne).symm⟩
    have hm : p'.length = m := by simpa using hp
    have hl2 : (p' ++ [z] ++ r).length = m + 1 + r.length := by simp [hm]; omega
    have ez : rd_T46 (p' ++ [z] ++ r) (m : Int) = z := by
      rw [List.append_assoc, ← hm]
      exact rdT_app p' r z
    have ih := ih p' (z :: r) (acc ++ [z]) R hm (by rw [app_snoc]; exact hl) (by simp; omega) (by rw [app_snoc]; simpa using h)
    rw [app_snoc] at ih
    have q1 : (m : Int) < ((p' ++ [z] ++ r).length : Int) := by omega
    have q2 : acc.length < 8796093022208 := by omega
    have q3 : wrap64 ((m : Int) - 1) = (m : Int) - 1 := wr ⟨by omega, by omega⟩
    rw [show ((m + 1 : Nat) : Int) - 1 = (m : Int) by omega]
    refine Ev.step (f := fun k => gangsawlaw40_ArchBack.j10 k L (p' ++ [z] ++ r) A B e acc (m : Int)) (fun k => by simp only [gangsawlaw40_ArchBack.l0]; rw [if_pos (by omega)]) ?_
    refine Ev.step (fun k => ?_) ih
    simp only [gangsawlaw40_ArchBack.j10]
    rw [if_pos (by omega), if_pos q1, if_pos q2, ez, q3]
theorem Back_ev (l : List (List S46)) : Ev (fun k => gangsawlaw40_ArchBack.f k l) true := by
  refine Ev.bind (f := fun k t => gangsawlaw40_ArchBack.j0 k l (!t)) (Few_ev l) ?_
  cases hf : few l with
  | false => refine Ev.step (f := fun k => (gangsawlaw40_awake.f k).bind fun t => (some t : Option Bool)) (fun k => rfl) awk1
  | true =>
    have hl : l.length < 1000 := by have := (few_len hf).1; omega
    refine Ev.step (f := fun k => gangsawlaw40_ArchBack.j1 k l) (fun k => rfl) ?_
    by_cases hc : ck l = 0
    · obtain ⟨x, s, rfl, ok⟩ := ok_of hc
      have n6 := ok.n64
      have hlen : (x :: s).length = s.length + 1 := rfl
      refine Ev.step (fun k => rfl) (Ev.bind (f := fun k (bt : List S46 × Int) => gangsawlaw40_ArchBack.j2 k _ bt.1 bt.2) (Inner_ev ok) ?_)
      refine Ev.step (fun k => rfl) (Ev.bind (f := fun k (bt : List S46 × Int) => gangsawlaw40_ArchBack.j3 k _ _ _ bt.1 bt.2) (Outer_ev ok) ?_)
      refine Ev.step (fun k => rfl) (Ev.bind (f := fun k (bt : Int × Int) => gangsawlaw40_ArchBack.j4 k _ _ _ _ _ bt.1 bt.2) (Area2_ev ok) ?_)
      refine Ev.step (f := fun k => gangsawlaw40_ArchBack.j5 k ((x :: s).map ql) (lnB x s) (lnC x s) 0 (aS (x :: s)) 0) (fun k => rfl) ?_
      refine Ev.step (f := fun k => gangsawlaw40_ArchBack.j6 k ((x :: s).map ql) (lnB x s) (lnC x s) (aS (x :: s)) false) (fun k => ?_) ?_
      · simp only [gangsawlaw40_ArchBack.j5, if_true]
        rw [lenQ, wr (x := ((x :: s).length : Int) + 1) ⟨by omega, by omega⟩, lnB_len, lnC_len, if_pos (by omega), bne_self_eq_false]
      refine Ev.step (f := fun k => gangsawlaw40_ArchBack.j7 k ((x :: s).map ql) (lnB x s) (lnC x s) (aS (x :: s))) (fun k => rfl) ?_
      have hR : ofR (lnB x s) (lnC x s) = ((x :: s).map ql, 0) := by
        unfold ofR ofE
        rw [if_pos ⟨by rw [lnB_len, lnC_len], by rw [lnB_len]; omega⟩, ofQ_lines s x ok.join, if_pos hc]
      refine Ev.step (fun k => rfl) (Ev.bind (f := fun k (bt : List (List S46) × Int) => gangsawlaw40_ArchBack.j8 k ((x :: s).map ql) (lnB x s) (lnC x s) (aS (x :: s)) bt.1 bt.2) (Ev.eq (Of_ev (lnB x s) (lnC x s) (by rw [lnB_len]; omega)) hR) ?_)
      refine Ev.step (f := fun k => gangsawlaw40_ArchBack.l0 k ((x :: s).map ql) (lnC x s) (aS (x :: s)) ((x :: s).map ql) 0 (lnB x s) (((s.length + 2 : Nat) : Int) - 1)) (fun k => ?_) ?_
      · simp only [gangsawlaw40_ArchBack.j8, Option.bind_some, List.nil_append]
        rw [if_pos (by rw [lnB_len]; simp; omega), lnC_len, wr (x := ((s.length + 2 : Nat) : Int) - 1) ⟨by omega, by omega⟩]
      have := bl0 ((x :: s).map ql) (aS (x :: s)) ((x :: s).map ql) 0 (s.length + 2) (lnC x s) [] (lnB x s) true (lnC_len x s) (by rw [List.append_nil, lnC_len]; omega) (by rw [lnB_len]; omega)
      rw [List.append_nil] at this
      refine this ?_
      refine Ev.step (f := fun k => (gangsawlaw40_awake.f k).bind fun t676 => (if t676 = true then ((gangsawref40_Same.f k ((x :: s).map ql) ((x :: s).map ql)).bind fun t677 => (if t677 = true then ((gangsawref40_Area2.f k (whole x s)).bind fun t678 => (gangsawlaw40_ArchBack.j11 k (aS (x :: s) == t678))) else (gangsawlaw40_ArchBack.j11 k false))) else (gangsawlaw40_ArchBack.j11 k false))) (fun k => ?_) ?_
      · simp only [gangsawlaw40_ArchBack.l0, if_true]
        rw [if_neg (by decide)]
        rfl
      refine awk (g := fun k t676 => (if t676 = true then ((gangsawref40_Same.f k ((x :: s).map ql) ((x :: s).map ql)).bind fun t677 => (if t677 = true then ((gangsawref40_Area2.f k (whole x s)).bind fun t678 => (gangsawlaw40_ArchBack.j11 k (aS (x :: s) == t678))) else (gangsawlaw40_ArchBack.j11 k false))) else (gangsawlaw40_ArchBack.j11 k false))) ?_
      simp only [if_true]
      refine Ev.bind (f := fun k t677 => (if t677 = true then ((gangsawref40_Area2.f k (whole x s)).bind fun t678 => (gangsawlaw40_ArchBack.j11 k (aS (x :: s) == t678))) else (gangsawlaw40_ArchBack.j11 k false))) (Ev.eq (Same_ev _ _ (by omega) (small_ql _)) ((eqLL_iff _ _).2 rfl)) ?_
      simp only [if_true]
      refine Ev.bind (f := fun k t678 => gangsawlaw40_ArchBack.j11 k (aS (x :: s) == t678)) (whole_ev ok) ?_
      exact Ev.const1 (fun k => by simp [gangsawlaw40_ArchBack.j11])
    · refine Ev.step (fun k => rfl) (Ev.bind (f := fun k (bt : List S46 × Int) => gangsawlaw40_ArchBack.j2 k _ bt.1 bt.2) (Inner_err hl hc) ?_)
      refine Ev.step (fun k => rfl) (Ev.bind (f := fun k (bt : List S46 × Int) => gangsawlaw40_ArchBack.j3 k _ _ _ bt.1 bt.2) (Outer_err hl hc) ?_)
      refine Ev.step (fun k => rfl) (Ev.bind (f := fun k (bt : Int × Int) => gangsawlaw40_ArchBack.j4 k _ _ _ _ _ bt.1 bt.2) (Area2_err hl hc) ?_)
      refine Ev.step (f := fun k => (gangsawlaw40_awake.f k).bind fun t => (some t : Option Bool)) (fun k => by simp only [gangsawlaw40_ArchBack.j4]; rw [if_neg hc]) awk1
theorem ArchBack : gangsawlaw40_ArchBack.Pure := by
  intro l g
  exact Ev.rounds (Back_ev l)
end Go.Proofs.Ytjlljjnkjhdljaa.Pure
