import Derived.Test.YtjlljjnkjhdljaaHc
import Derived.Test.YtjlljjnkjhdljaaXAx0
import Derived.Test.YtjlljjnkjhdljaaXAx21
import Derived.Test.YtjlljjnkjhdljaaXAx24
import Derived.Test.YtjlljjnkjhdljaaXAx34
import Derived.Test.YtjlljjnkjhdljaaXAx35
import Derived.Test.YtjlljjnkjhdljaaXAx8
import Derived.Test.YtjlljjnkjhdljaaNg
namespace Go.Proofs.Ytjlljjnkjhdljaa.Pure
set_option linter.unusedVariables false
set_option linter.unusedSimpArgs false
open Go.RowKit Go.Proofs.Ytjlljjnkjhdljaa.Opens Go.Proofs.Ytjlljjnkjhdljaa.XA Go.Proofs.YtjlljjnkjhdljaaW.PrintWords Go.Proofs.YtjlljjnkjhdljaaW.PrintLast Go.Proofs.YtjlljjnkjhdljaaW.PrintMore
theorem eqLL_comm (a b : List (List S46)) : eqLL a b = eqLL b a := by
  rw [Bool.eq_iff_iff, eqLL_iff, eqLL_iff]
  exact ⟨Eq.symm, Eq.symm⟩
theorem Mirrors_ev (l : List (List S46)) : Ev (fun k => gangsawlaw40_ArchMirrors.f k l) true := by
  refine Ev.bind (f := fun k t => gangsawlaw40_ArchMirrors.j0 k l (!t)) (Few_ev l) ?_
  cases hf : few l with
  | false => refine Ev.step (f := fun k => (gangsawlaw40_awake.f k).bind fun t => (some t : Option Bool)) (fun k => rfl) awk1
  | true =>
    have hl : l.length < 1000 := by have := (few_len hf).1; omega
    refine Ev.step (f := fun k => gangsawlaw40_ArchMirrors.j1 k l) (fun k => rfl) ?_
    by_cases hc : ck l = 0
    · obtain ⟨x, s, rfl, ok⟩ := ok_of hc
      have n6 := ok.n64
      have hmir := Mirror_ev ok
      cases hfar : farQ (mirQ x s) with
      | true =>
        rw [hfar, if_pos rfl] at hmir
        refine Ev.step (fun k => rfl) (Ev.bind (f := fun k (bt : List (List S46) × Int) => gangsawlaw40_ArchMirrors.j2 k _ bt.1 bt.2) hmir ?_)
        refine Ev.step (f := fun k => (gangsawlaw40_awake.f k).bind fun t => (some t : Option Bool)) (fun k => rfl) awk1
      | false =>
        rw [hfar, if_neg (by decide)] at hmir
        obtain ⟨y, t, S, m⟩ := mi_of ok hfar
        rw [m.eq] at hmir
        have ok' := m.ok
        have m6 := ok'.n64
        have hback := Mirror_ev ok'
        rw [mi_back ok m, farQ_ok ok, if_neg (by decide)] at hback
        have hA : aS (y :: t) = aS (x :: s) := by rw [m.map, aS_fz]
        have hK : cnt 0 (kinds (y :: t)) = cnt 0 (kinds (x :: s)) := by
          rw [cnt_kinds _ ok'.nq, cnt_kinds _ ok.nq]
          have h1 : ∀ q ∈ x :: s, NQ q ∧ NQ (fz S q) := fun q hq => ⟨ok.nq q hq, ok'.nq _ (by rw [m.map]; exact List.mem_reverse.2 (List.mem_map.2 ⟨q, hq, rfl⟩))⟩
          rw [m.map, cls_rev _ (fun q hq => by
            obtain ⟨r, hr, rfl⟩ := List.mem_map.1 hq
            exact (h1 r hr).2), cls_fz S _ h1]
        have hck' := ok_ck ok'
        obtain ⟨M, hM⟩ : ∃ M, (y :: t).map ql = M := ⟨_, rfl⟩
        obtain ⟨L, hL⟩ : ∃ L, (x :: s).map ql = L := ⟨_, rfl⟩
        have hLl : L.length = (x :: s).length := by rw [← hL, List.length_map]
        have hMl : M.length = (y :: t).length := by rw [← hM, List.length_map]
        have hsym : sym x s = eqLL M L := by
          unfold sym
          rw [m.eq, hM, hL, eqLL_comm]
        have hspn := mi_spn m
        have hris := mi_ris ok m
        have b1 := Span_ev ok
        have b2 := Span_ev ok'
        have b3 := Area2_ev ok
        have b4 := Area2_ev ok'
        have b5 := Kinds_ev ok
        have b6 := Kinds_ev ok'
        have b7 := Symmetric_ev ok
        have b8 := Check_ev M (by omega)
        rw [hL] at hmir hback b1 b3 b5 b7 ⊢
        rw [hM] at hmir hback b2 b4 b6 hck'
        rw [hck'] at b8
        rw [hspn, hris] at b2
        rw [hA] at b4
        have c0 : Ev (fun k => gangsawref40_Same.f k L L) true := Ev.eq (Same_ev L L (by omega) (by rw [← hL]; exact small_ql _)) ((eqLL_iff _ _).2 rfl)
        have c1 : Ev (fun k => gangsawref40_Same.f k M L) (sym x s) := Ev.eq (Same_ev M L (by omega) (by rw [← hM]; exact small_ql _)) hsym.symm
        have d1 := firsts_ev (kinds (x :: s)) (by unfold kinds; rw [List.length_map]; omega)
        have d2 := firsts_ev (kinds (y :: t)) (by unfold kinds; rw [List.length_map]; omega)
        rw [hK] at d2
        have hhalf : sym x s = true → 2 * cnt 0 (kinds (x :: s)) ≤ ((x :: s).length : Int) + 1 := fun h => by
          rw [cnt_kinds _ ok.nq]
          refine sym_half ok m ?_
          unfold sym at h
          rw [m.eq] at h
          exact map_ql_inj ((eqLL_iff _ _).1 h)
        have hcn : 0 ≤ cnt 0 (kinds (x :: s)) ∧ cnt 0 (kinds (x :: s)) ≤ 1000 := by
          rw [cnt_kinds _ ok.nq]
          have : ∀ u : List Q, 0 ≤ cls u ∧ cls u ≤ u.length := fun u => by
            induction u with
            | nil => simp [cls]
            | cons v u ih =>
              rw [cls]
              have := ob_le (u.any (sim v))
              simp only [List.length_cons]
              omega
          have := this (x :: s)
          omega
        generalize spn x s = sn at *
        generalize ris x s = rs at *
        generalize aS (x :: s) = ar at *
        generalize kinds (x :: s) = kx at *
        generalize kinds (y :: t) = ky at *
        generalize sym x s = sy at *
        generalize cnt 0 kx = cn at *
        refine Ev.step (fun k => rfl) (Ev.bind (f := fun k (bt : List (List S46) × Int) => gangsawlaw40_ArchMirrors.j2 k L bt.1 bt.2) hmir ?_)
        refine Ev.step (f := fun k => gangsawlaw40_ArchMirrors.j3 k L M) (fun k => rfl) ?_
        refine Ev.step (fun k => rfl) (Ev.bind (f := fun k (bt : List (List S46) × Int) => gangsawlaw40_ArchMirrors.j4 k L M bt.1 bt.2) hback ?_)
        refine Ev.step (fun k => rfl) (Ev.bind (f := fun k (bt : Int × Int × Int) => gangsawlaw40_ArchMirrors.j5 k L M L 0 bt.1 bt.2.1 bt.2.2) b1 ?_)
        refine Ev.step (fun k => rfl) (Ev.bind (f := fun k (bt : Int × Int × Int) => gangsawlaw40_ArchMirrors.j6 k L M L 0 sn rs 0 bt.1 bt.2.1 bt.2.2) b2 ?_)
        refine Ev.step (fun k => rfl) (Ev.bind (f := fun k (bt : Int × Int) => gangsawlaw40_ArchMirrors.j7 k L M L 0 sn rs 0 sn rs 0 bt.1 bt.2) b3 ?_)
        refine Ev.step (fun k => rfl) (Ev.bind (f := fun k (bt : Int × Int) => gangsawlaw40_ArchMirrors.j8 k L M L 0 sn rs 0 sn rs 0 ar 0 bt.1 bt.2) b4 ?_)
        refine Ev.step (fun k => rfl) (Ev.bind (f := fun k (bt : List Int × Int) => gangsawlaw40_ArchMirrors.j9 k L M L 0 sn rs 0 sn rs 0 ar 0 ar 0 bt.1 bt.2) b5 ?_)
        refine Ev.step (fun k => rfl) (Ev.bind (f := fun k (bt : List Int × Int) => gangsawlaw40_ArchMirrors.j10 k L M L 0 sn rs 0 sn rs 0 ar 0 ar 0 kx 0 bt.1 bt.2) b6 ?_)
        refine Ev.step (fun k => rfl) (Ev.bind (f := fun k (bt : Bool × Int) => gangsawlaw40_ArchMirrors.j11 k L M L 0 sn rs 0 sn rs 0 ar 0 ar 0 kx 0 ky 0 bt.1 bt.2) b7 ?_)
        refine Ev.step (f := fun k => gangsawlaw40_ArchMirrors.j12 k L M L sn rs sn rs ar ar kx ky sy false) (fun k => rfl) ?_
        refine Ev.step (f := fun k => gangsawlaw40_ArchMirrors.j13 k L M L sn rs sn rs ar ar kx ky sy) (fun k => rfl) ?_
        refine Ev.step (f := fun k => (arch_Check.f k M).bind fun t583 => (if t583 = 0 then ((gangsawref40_Same.f k L L).bind fun t584 => (if t584 = true then ((gangsawref40_Same.f k M L).bind fun t585 => (gangsawlaw40_ArchMirrors.j14 k L kx ky sy (sy != t585))) else (gangsawlaw40_ArchMirrors.j14 k L kx ky sy true))) else (gangsawlaw40_ArchMirrors.j14 k L kx ky sy true))) (fun k => by simp only [gangsawlaw40_ArchMirrors.j13, if_true]) ?_
        refine Ev.bind (f := fun k t583 => (if t583 = 0 then ((gangsawref40_Same.f k L L).bind fun t584 => (if t584 = true then ((gangsawref40_Same.f k M L).bind fun t585 => (gangsawlaw40_ArchMirrors.j14 k L kx ky sy (sy != t585))) else (gangsawlaw40_ArchMirrors.j14 k L kx ky sy true))) else (gangsawlaw40_ArchMirrors.j14 k L kx ky sy true))) b8 ?_
        simp only [if_true]
        refine Ev.bind (f := fun k t584 => (if t584 = true then ((gangsawref40_Same.f k M L).bind fun t585 => (gangsawlaw40_ArchMirrors.j14 k L kx ky sy (sy != t585))) else (gangsawlaw40_ArchMirrors.j14 k L kx ky sy true))) c0 ?_
        simp only [if_true]
        refine Ev.bind (f := fun k t585 => (gangsawlaw40_ArchMirrors.j14 k L kx ky sy (sy != t585))) c1 ?_
        rw [bne_self_eq_false]
        refine Ev.step (f := fun k => gangsawlaw40_ArchMirrors.j15 k L kx ky sy) (fun k => rfl) ?_
        refine Ev.step (fun k => rfl) (awk (g := fun k t586 => (if t586 = true then ((gangsawlaw40_firsts.f k kx).bind fun t587 => ((gangsawlaw40_firsts.f k ky).bind fun t588 => (if t587 = t588 then (if sy = true then ((gangsawlaw40_firsts.f k kx).bind fun t589 => (gangsawlaw40_ArchMirrors.j16 k (decide ((wrap64 (2 * t589)) ≤ (wrap64 ((L.length : Int) + 1)))))) else (gangsawlaw40_ArchMirrors.j16 k true)) else (gangsawlaw40_ArchMirrors.j16 k false)))) else (gangsawlaw40_ArchMirrors.j16 k false))) ?_)
        simp only [if_true]
        refine Ev.bind (f := fun k t587 => ((gangsawlaw40_firsts.f k ky).bind fun t588 => (if t587 = t588 then (if sy = true then ((gangsawlaw40_firsts.f k kx).bind fun t589 => (gangsawlaw40_ArchMirrors.j16 k (decide ((wrap64 (2 * t589)) ≤ (wrap64 ((L.length : Int) + 1)))))) else (gangsawlaw40_ArchMirrors.j16 k true)) else (gangsawlaw40_ArchMirrors.j16 k false)))) d1 ?_
        refine Ev.bind (f := fun k t588 => (if cn = t588 then (if sy = true then ((gangsawlaw40_firsts.f k kx).bind fun t589 => (gangsawlaw40_ArchMirrors.j16 k (decide ((wrap64 (2 * t589)) ≤ (wrap64 ((L.length : Int) + 1)))))) else (gangsawlaw40_ArchMirrors.j16 k true)) else (gangsawlaw40_ArchMirrors.j16 k false))) d2 ?_
        simp only [if_true]
        cases sy with
        | false => exact Ev.const1 (fun k => rfl)
        | true =>
          simp only [if_true]
          refine Ev.bind (f := fun k t589 => (gangsawlaw40_ArchMirrors.j16 k (decide ((wrap64 (2 * t589)) ≤ (wrap64 ((L.length : Int) + 1)))))) d1 ?_
          have h2 := hhalf rfl
          have e : decide ((wrap64 (2 * cn)) ≤ (wrap64 ((L.length : Int) + 1))) = true := by
            rw [wr (x := 2 * cn) ⟨by omega, by omega⟩, wr (x := (L.length : Int) + 1) ⟨by omega, by omega⟩]
            exact decide_eq_true (by omega)
          rw [e]
          exact Ev.const1 (fun k => rfl)
    · refine Ev.step (fun k => rfl) (Ev.bind (f := fun k (bt : List (List S46) × Int) => gangsawlaw40_ArchMirrors.j2 k _ bt.1 bt.2) (Mirror_err hl hc) ?_)
      refine Ev.step (f := fun k => (gangsawlaw40_awake.f k).bind fun t => (some t : Option Bool)) (fun k => by simp only [gangsawlaw40_ArchMirrors.j2]; rw [if_neg hc]) awk1
theorem ArchMirrors : gangsawlaw40_ArchMirrors.Pure := by
  intro l g
  exact Ev.rounds (Mirrors_ev l)
end Go.Proofs.Ytjlljjnkjhdljaa.Pure
