-- written by xprint.py, this project's own program (wip/), over the words of print.sh
import Derived.Test.YtjlljjnkjhdljaaXAx0
import Derived.Test.YtjlljjnkjhdljaaXAx8
import Derived.Test.YtjlljjnkjhdljaaXAx20
namespace Go.Proofs.Ytjlljjnkjhdljaa.XA
open Go.RowKit Go.Proofs.Ytjlljjnkjhdljaa.Opens Go.Proofs.YtjlljjnkjhdljaaW.PrintWords Go.Proofs.YtjlljjnkjhdljaaW.PrintLast Go.Proofs.YtjlljjnkjhdljaaW.PrintMore
attribute [local go_sem] max2_int min2_int max_two min_two max_three min_three max_four min_four cell_some cell_same   -- for this text's walks alone
set_option linter.unusedVariables false
set_option linter.unusedSimpArgs false

/-! ### arch_Outer: function 35 -/
def arch_Outer.f (k : Nat) (l0 : List (List (S46))) : Option ((List (S46)) × Int) := (arch_Check.f k l0).bind fun t590 => (if t590 = 0 then ((arch_line.f k l0 3 2).bind fun t591 => (some (t591, 0))) else (some (([] : List (S46)), t590)))
theorem arch_Outer.mono : ∀ a0 k, LeO (arch_Outer.f k a0) (arch_Outer.f (k + 1) a0) := by
  intro a0 k
  unfold arch_Outer.f
  repeat' first
      | (with_reducible exact arch_Check.mono _ _)
      | (with_reducible exact arch_line.mono _ _ _ _)
      | (with_reducible exact LeO.refl _)
      | (with_reducible exact LeO.none _)
      | (with_reducible refine LeO.ite ?_ ?_)
      | (with_reducible refine LeO.bind ?_ (fun _ => ?_))
      | exact arch_Check.mono _ _
      | exact arch_line.mono _ _ _ _
      | exact LeO.none _
      | refine LeO.ite ?_ ?_
      | refine LeO.bind ?_ (fun _ => ?_)
set_option maxHeartbeats 8000000 in
set_option maxRecDepth 100000 in
theorem arch_Outer.calls (k : Nat) (A0 : Option Addr) (c0 : Nat) (l0 : List (List (S46))) (r1 : List (S46)) (r2 : Int) (w : World) (hr0 : Kd.C (Kd.slice 46 k46) w A0 l0.length l0) (hc0 : l0.length ≤ c0) (h : arch_Outer.f k l0 = some (r1, r2)) :
    Calls Try.prog 35 #[.slice A0 l0.length c0] w fun e w' => ∃ v0_ : Value, e = .returned (.tuple #[v0_, .int .i64 r2]) ∧ Kd.R k46 46 w' w.heap.size (fun _ => True) v0_ r1 ∧ Below w.heap.size w w' := by
  have HR0 := Aside0.mk hr0
  have HC0 := Aside0.mk hc0
  clear hr0 hc0
  have HB := Aside0.mk (Below.refl w.heap.size w)
  have H : ((arch_Check.f k l0).bind fun t590 => (if t590 = 0 then ((arch_line.f k l0 3 2).bind fun t591 => (some (t591, 0))) else (some (([] : List (S46)), t590)))) = some (r1, r2) := h
  clear h
  replace H := Option.bind_eq_some_iff.mp H
  obtain ⟨t590, A20, H⟩ := H
  replace H : (if t590 = 0 then ((arch_line.f k l0 3 2).bind fun t591 => (some (t591, 0))) else (some (([] : List (S46)), t590))) = some (r1, r2) := H
  have A2 := Aside0.mk A20
  clear A20
  by_cases c3 : t590 = 0
  · rw [if_pos c3] at H
    have c3b0 : (t590 == 0) = true := beq_iff_eq.mpr c3
    have c3b1 : (t590 != 0) = false := bne_eq_false_iff_eq.mpr c3
    clear c3
    replace H := Option.bind_eq_some_iff.mp H
    obtain ⟨t591, A40, H⟩ := H
    replace H : (some (t591, 0)) = some (r1, r2) := H
    have A4 := Aside0.mk A40
    clear A40
    simp only [Option.some.injEq, Prod.mk.injEq] at H
    obtain ⟨rfl, rfl⟩ := H
    go_enter Try.func35, Try.ntmps35
    go_wp2_with (first | ((with_reducible refine gate_callee (f := 33) rfl ?_); refine goesL_ (some 6) rfl rfl Try.func33 (by kernel_rfl) rfl #[.slice A0 l0.length c0] rfl (by (try simp only [List.map_toArray, List.map_cons, List.map_nil]); first | done | rfl | (simp only [List.length_drop, List.length_take]; rfl)) ?_; (with_reducible refine (arch_Check.calls k _ _ l0 t590 _ ?side1 ?side2 A2.out).mono ?_); (case side1 => repeat (first | exact HR0.out | (with_reducible refine Kd.C_alloc ?_ _) | (with_reducible refine Kd.C_drewN ?_ _) | (with_reducible refine Kd.C_drew ?_))); (case side2 => exact HC0.out); rintro e w5 ⟨rfl, hb⟩; refine ⟨_, rfl, ?_⟩; have n0_ := Aside0.mk (below_step (by repeat (first | (with_reducible first | exact HB.out | apply below_alloc | apply pw_below_drewN | apply below_drew1) | exact HB.out)) hb); clear HB; have HB := n0_; clear n0_; (try clear hb); (try clear hb2); (try clear hk); (try clear hi)) | ((with_reducible refine gate_callee (f := 49) rfl ?_); refine goesL_ (some 11) rfl rfl Try.func49 (by kernel_rfl) rfl #[.slice A0 l0.length c0, .int .i64 3, .int .i64 2] rfl (by (try simp only [List.map_toArray, List.map_cons, List.map_nil]); first | done | rfl | (simp only [List.length_drop, List.length_take]; rfl)) ?_; (with_reducible refine (arch_line.calls k _ _ l0 3 2 t591 _ ?side1 ?side2 A4.out).mono ?_); (case side1 => repeat (first | exact (Kd.C_below HR0.out HB.out) | (with_reducible refine Kd.C_alloc ?_ _) | (with_reducible refine Kd.C_drewN ?_ _) | (with_reducible refine Kd.C_drew ?_))); (case side2 => exact HC0.out); rintro e w6 ⟨v592, rfl, ho0, hb⟩; refine ⟨_, rfl, ?_⟩; have n0_ := Aside0.mk (Kd.R_lower ho0 (below_size (by repeat (first | (with_reducible first | exact HB.out | apply below_alloc | apply pw_below_drewN | apply below_drew1) | exact HB.out)))); have n1_ := Aside0.mk (below_step (by repeat (first | (with_reducible first | exact HB.out | apply below_alloc | apply pw_below_drewN | apply below_drew1) | exact HB.out)) hb); clear HB; have HO593 := n0_; have HB := n1_; clear n0_ n1_; (try clear hb); (try clear hb2); (try clear hk); (try clear hi); (try clear ho0)))
    go_ret2
    exact ⟨_, by first | rfl | (simp [errW_none, errW_some] <;> rfl) | (simp [*, errW_none, errW_some] <;> rfl), by (with_reducible repeat (first | apply Kd.R_alloc | apply Kd.R_drewN | apply Kd.R_drew)); exact HO593.out, by repeat (first | (with_reducible first | exact HB.out | apply below_alloc | apply pw_below_drewN | apply below_drew1) | exact HB.out)⟩
  · rw [if_neg c3] at H
    have c3b0 : (t590 == 0) = false := beq_eq_false_iff_ne.mpr c3
    have c3b1 : (t590 != 0) = true := bne_iff_ne.mpr c3
    simp only [Option.some.injEq, Prod.mk.injEq] at H
    obtain ⟨rfl, rfl⟩ := H
    go_enter Try.func35, Try.ntmps35
    go_wp2_with (first | ((with_reducible refine gate_callee (f := 33) rfl ?_); refine goesL_ (some 6) rfl rfl Try.func33 (by kernel_rfl) rfl #[.slice A0 l0.length c0] rfl (by (try simp only [List.map_toArray, List.map_cons, List.map_nil]); first | done | rfl | (simp only [List.length_drop, List.length_take]; rfl)) ?_; (with_reducible refine (arch_Check.calls k _ _ l0 t590 _ ?side1 ?side2 A2.out).mono ?_); (case side1 => repeat (first | exact HR0.out | (with_reducible refine Kd.C_alloc ?_ _) | (with_reducible refine Kd.C_drewN ?_ _) | (with_reducible refine Kd.C_drew ?_))); (case side2 => exact HC0.out); rintro e w7 ⟨rfl, hb⟩; refine ⟨_, rfl, ?_⟩; have n0_ := Aside0.mk (below_step (by repeat (first | (with_reducible first | exact HB.out | apply below_alloc | apply pw_below_drewN | apply below_drew1) | exact HB.out)) hb); clear HB; have HB := n0_; clear n0_; (try clear hb); (try clear hb2); (try clear hk); (try clear hi)))
    go_ret2
    exact ⟨_, by first | rfl | (simp [errW_none, errW_some] <;> rfl) | (simp [*, errW_none, errW_some] <;> rfl), by first | exact Kd.R_nil _ _ _ _ _ | exact Kd.N_nil _ _ _ _ _ | exact Kd.V_nil _ _ _ _ _ | exact Kd.Q_nil _ _ _ _ _ | exact Kd.S_nil _ _ _ _ _, by repeat (first | (with_reducible first | exact HB.out | apply below_alloc | apply pw_below_drewN | apply below_drew1) | exact HB.out)⟩

/-! ### gangsawref40_Inner: function 37 -/
def gangsawref40_Inner.l0 : Nat → List (List (S46)) → List (S46) → Int → Option ((List (S46)))
  | 0, _, _, _ => none
  | k + 1, x0, x3, x4 => if x4 < (x0.length : Int) then (if 0 ≤ x4 then (if 1 < ((rd_L2 x0 x4).length : Int) then (if x3.length < 8796093022208 then (gangsawref40_Inner.l0 k x0 (x3 ++ [(⟨(rd_T46 (rd_L2 x0 x4) 1).f0, (rd_T46 (rd_L2 x0 x4) 1).f1⟩ : S46)]) (wrap64 (x4 + 1))) else (none)) else (none)) else (none)) else (some x3)
def gangsawref40_Inner.f (k : Nat) (l0 : List (List (S46))) : Option ((List (S46))) := if 0 < (l0.length : Int) then (if 0 < ((rd_L2 l0 0).length : Int) then (gangsawref40_Inner.l0 k l0 (([(⟨(rd_T46 (rd_L2 l0 0) 0).f0, (rd_T46 (rd_L2 l0 0) 0).f1⟩ : S46)] : List (S46))) 0) else (none)) else (none)
theorem gangsawref40_Inner.mono_l : ∀ k, (∀ y0 y1 y2, LeO (gangsawref40_Inner.l0 k y0 y1 y2) (gangsawref40_Inner.l0 (k + 1) y0 y1 y2))
  | 0 => fun _ _ _ r h => by simp [gangsawref40_Inner.l0] at h
  | k + 1 => by
    have ih0 := gangsawref40_Inner.mono_l k
    · intro y0 y1 y2
      unfold gangsawref40_Inner.l0
      repeat' first
      | (with_reducible exact ih0 _ _ _)
      | (with_reducible exact LeO.refl _)
      | (with_reducible exact LeO.none _)
      | (with_reducible refine LeO.ite ?_ ?_)
      | (with_reducible refine LeO.bind ?_ (fun _ => ?_))
      | exact ih0 _ _ _
      | exact LeO.none _
      | refine LeO.ite ?_ ?_
      | refine LeO.bind ?_ (fun _ => ?_)
theorem gangsawref40_Inner.mono : ∀ a0 k, LeO (gangsawref40_Inner.f k a0) (gangsawref40_Inner.f (k + 1) a0) := by
  intro a0 k
  have ih0 := gangsawref40_Inner.mono_l k
  unfold gangsawref40_Inner.f
  repeat' first
      | (with_reducible exact ih0 _ _ _)
      | (with_reducible exact LeO.refl _)
      | (with_reducible exact LeO.none _)
      | (with_reducible refine LeO.ite ?_ ?_)
      | (with_reducible refine LeO.bind ?_ (fun _ => ?_))
      | exact ih0 _ _ _
      | exact LeO.none _
      | refine LeO.ite ?_ ?_
      | refine LeO.bind ?_ (fun _ => ?_)
set_option maxHeartbeats 8000000 in
set_option maxRecDepth 100000 in
theorem gangsawref40_Inner.calls (k : Nat) (A0 : Option Addr) (c0 : Nat) (l0 : List (List (S46))) (r : List (S46)) (w : World) (hr0 : Kd.C (Kd.slice 46 k46) w A0 l0.length l0) (hc0 : l0.length ≤ c0) (h : gangsawref40_Inner.f k l0 = some r) :
    Calls Try.prog 37 #[.slice A0 l0.length c0] w fun e w' => ∃ v0_ : Value, e = .returned (v0_) ∧ Kd.R k46 46 w' w.heap.size (fun _ => True) v0_ r ∧ Below w.heap.size w w' := by
  have hu46 := Try.underlying46
  have HR0 := Aside0.mk hr0
  have HC0 := Aside0.mk hc0
  clear hr0 hc0
  have HB := Aside0.mk (Below.refl w.heap.size w)
  have H : (if 0 < (l0.length : Int) then (if 0 < ((rd_L2 l0 0).length : Int) then (gangsawref40_Inner.l0 k l0 (([(⟨(rd_T46 (rd_L2 l0 0) 0).f0, (rd_T46 (rd_L2 l0 0) 0).f1⟩ : S46)] : List (S46))) 0) else (none)) else (none)) = some r := h
  clear h
  by_cases c2 : 0 < (l0.length : Int)
  · rw [if_pos c2] at H
    have c2b0 : decide (0 < (l0.length : Int)) = true := decide_eq_true c2
    have c2b1 : decide (0 < l0.length) = true := decide_eq_true (by omega)
    clear c2
    by_cases c3 : 0 < ((rd_L2 l0 0).length : Int)
    · rw [if_pos c3] at H
      have c3b0 : decide (0 < ((rd_L2 l0 0).length : Int)) = true := decide_eq_true c3
      have c3b1 : decide (0 < (rd_L2 l0 0).length) = true := decide_eq_true (by omega)
      clear c3
      obtain ⟨y596, hy596⟩ : ∃ y_ : List (S46), y_ = (([(⟨(rd_T46 (rd_L2 l0 0) 0).f0, (rd_T46 (rd_L2 l0 0) 0).f1⟩ : S46)] : List (S46))) := ⟨_, rfl⟩
      replace H : (gangsawref40_Inner.l0 k l0 y596 0) = some r := by first | (rw [hy596]; with_reducible exact H) | (have H2_ := (Option.bind_some _ _).symm.trans H; rw [hy596]; with_reducible exact H2_) | (have H2_ := (Option.bind_some _ _).symm.trans H; with_reducible exact H2_) | with_reducible exact H | (rw [hy596]; exact H) | exact H
      have Ny596 := Aside0.mk hy596
      clear hy596
      have H' := Aside0.mk H
      clear H
      have p594 : 0 ≤ (0 : Int) := (by omega)
      have q594 : 0 < (l0.length : Int) := of_decide_eq_true (by first | (with_reducible assumption) | assumption)
      obtain ⟨ad594, A594_0, c594_0, e594, hx594_0, hl594_0, hi594_0⟩ := at_L2 HR0.out 0 p594 q594
      cases e594
      have qi594 : (0 < l0.length) = True := eq_true (by omega)
      (try rw [show ((0 : Int)).toNat = 0 from rfl] at hx594_0)
      (try rw [Addr.add_zero'] at hx594_0)
      have HR594_0 := Aside0.mk hi594_0
      have HC594_0 := Aside0.mk hl594_0
      clear hi594_0 hl594_0
      replace p594 := eq_true p594
      replace q594 := eq_true q594
      have p595 : 0 ≤ (0 : Int) := (by omega)
      have q595 : 0 < ((rd_L2 l0 0).length : Int) := of_decide_eq_true (by first | (with_reducible assumption) | assumption)
      obtain ⟨ad595, e595, hx595_0, hx595_1⟩ := at_T46 HR594_0.out 0 p595 q595
      cases e595
      have qi595 : (0 < (rd_L2 l0 0).length) = True := eq_true (by omega)
      (try rw [show ((0 : Int)).toNat = 0 from rfl] at hx595_0)
      (try rw [show 0 * 2 = 0 from rfl] at hx595_0)
      (try rw [Addr.add_zero'] at hx595_0)
      (try rw [show ((0 : Int)).toNat = 0 from rfl] at hx595_1)
      (try rw [show 0 * 2 = 0 from rfl] at hx595_1)
      (try rw [Addr.add_zero'] at hx595_1)
      replace p595 := eq_true p595
      replace q595 := eq_true q595
      go_enter Try.func37, Try.ntmps37
      go_wp2_with (first | ((with_reducible refine gate_dst (N := 10) rfl ?_); refine Kd.R_lit k46 _ 46 ?hg (N := 10) ?hd (xs := ([(⟨(rd_T46 (rd_L2 l0 0) 0).f0, (rd_T46 (rd_L2 l0 0) 0).f1⟩ : S46)] : List (S46))) (inner := [.int .i64 ((rd_T46 (rd_L2 l0 0) 0).f0), .int .i64 ((rd_T46 (rd_L2 l0 0) 0).f1)]) (ok := fun _ => True) (okp := fun _ => True) ?hr ?hp (fun _ hk => hk) trivial (Below.refl _ _) (Nat.le_refl _) (by simp) ?_; (case hd => rfl); (case hg => first | rfl | (go_simp; done)); (case hr => first | (go_simp; done) | (go_simp; rfl)); (case hp => exact (Reps.c2 (show Kd.M k46 _ _ _ (⟨(rd_T46 (rd_L2 l0 0) 0).f0, (rd_T46 (rd_L2 l0 0) 0).f1⟩ : S46) [.int .i64 ((rd_T46 (rd_L2 l0 0) 0).f0), .int .i64 ((rd_T46 (rd_L2 l0 0) 0).f1)] from (k46_mkM _ _ _ (⟨(rd_T46 (rd_L2 l0 0) 0).f0, (rd_T46 (rd_L2 l0 0) 0).f1⟩ : S46) )) (Reps.none _ _))); intro v597 w4 ho5 hb hg_ hnew_; clear hg_ hnew_; (first | rw [← Ny596.out] at ho5 | (simp only [Int.reduceToNat] at ho5; rw [← Ny596.out] at ho5)); have n0_ := Aside0.mk (Kd.R_lower ho5 (below_size (by repeat (first | (with_reducible first | exact HB.out | apply below_alloc | apply pw_below_drewN | apply below_drew1) | exact HB.out)))); have n1_ := Aside0.mk (below_step (by repeat (first | (with_reducible first | exact HB.out | apply below_alloc | apply pw_below_drewN | apply below_drew1) | exact HB.out)) hb); clear HB; have HO598 := n0_; have HB := n1_; clear n0_ n1_; clear hb ho5))
      go_loopg [3, 4] k (fun kq v3 v4 w' => ∃ (x3_1 : List (S46)) (x4_1 : Int), v4 = .int .i64 x4_1 ∧ Aside0 (gangsawref40_Inner.l0 kq l0 x3_1 x4_1 = some r) ∧ Aside0 (kq ≤ k) ∧ Aside0 (Kd.R k46 46 w' w.heap.size (fun _ => True) v3 x3_1) ∧ Aside0 (Below w.heap.size w w'))
      case atStart => exact ⟨(y596), (0), (by first | rfl | (simp; done) | (simp [*]; done)), H', ⟨Nat.le_refl _⟩, ⟨by (with_reducible repeat (first | apply Kd.R_alloc | apply Kd.R_drewN | apply Kd.R_drew)); exact HO598.out⟩, ⟨by repeat (first | (with_reducible first | exact HB.out | apply below_alloc | apply pw_below_drewN | apply below_drew1) | exact HB.out)⟩⟩
      case round =>
        clear H'
        try clear c2
        try clear c2b0
        try clear c2b1
        try clear p2
        try clear c3
        try clear c3b0
        try clear c3b1
        try clear c5
        try clear p5
        try clear q5
        try clear hx5
        try clear qi5
        try clear hx594_0
        try clear hx595_0
        try clear hx595_1
        try clear p594
        try clear p595
        try clear q594
        try clear q595
        obtain ⟨x3_1, x4_1, rfl, HA, HK1, HO_3, HB⟩ := hrel
        cases gk with
        | zero => exact absurd HA.out (by simp [gangsawref40_Inner.l0])
        | succ k1 =>
          have H := HA.out
          clear HA
          simp only [gangsawref40_Inner.l0] at H
          by_cases c6 : x4_1 < (l0.length : Int)
          · rw [if_pos c6] at H
            have c6b0 : decide (x4_1 < (l0.length : Int)) = true := decide_eq_true c6
            clear c6
            by_cases c7 : 0 ≤ x4_1
            · rw [if_pos c7] at H
              have c7b0 : decide (0 ≤ x4_1) = true := decide_eq_true c7
              clear c7
              by_cases c8 : 1 < ((rd_L2 l0 x4_1).length : Int)
              · rw [if_pos c8] at H
                have c8b0 : decide (1 < ((rd_L2 l0 x4_1).length : Int)) = true := decide_eq_true c8
                have c8b1 : decide (1 < (rd_L2 l0 x4_1).length) = true := decide_eq_true (by omega)
                clear c8
                by_cases c9 : x3_1.length < 8796093022208
                · rw [if_pos c9] at H
                  have LMc9 := Aside0.mk c9
                  clear c9
                  obtain ⟨y601, hy601⟩ : ∃ y_ : List (S46), y_ = (x3_1 ++ [(⟨(rd_T46 (rd_L2 l0 x4_1) 1).f0, (rd_T46 (rd_L2 l0 x4_1) 1).f1⟩ : S46)]) := ⟨_, rfl⟩
                  replace H : (gangsawref40_Inner.l0 k1 l0 y601 (wrap64 (x4_1 + 1))) = some r := by first | (rw [hy601]; with_reducible exact H) | (have H2_ := (Option.bind_some _ _).symm.trans H; rw [hy601]; with_reducible exact H2_) | (have H2_ := (Option.bind_some _ _).symm.trans H; with_reducible exact H2_) | with_reducible exact H | (rw [hy601]; exact H) | exact H
                  have Ny601 := Aside0.mk hy601
                  clear hy601
                  have H' := Aside0.mk H
                  clear H
                  have p599 : 0 ≤ (x4_1 : Int) := of_decide_eq_true (by first | (with_reducible assumption) | assumption)
                  have q599 : x4_1 < (l0.length : Int) := of_decide_eq_true (by first | (with_reducible assumption) | assumption)
                  obtain ⟨ad599, A599_0, c599_0, e599, hx599_0, hl599_0, hi599_0⟩ := at_L2 HR0.out x4_1 p599 q599
                  obtain rfl : ad594 = ad599 := (by injection e599)
                  replace hx599_0 := (HB.out.cell (World.block_lt_of_cell? w _ hx599_0)).trans hx599_0
                  have HR599_0 := Aside0.mk hi599_0
                  have HC599_0 := Aside0.mk hl599_0
                  clear hi599_0 hl599_0
                  replace p599 := eq_true p599
                  replace q599 := eq_true q599
                  have p600 : 0 ≤ (1 : Int) := (by omega)
                  have q600 : 1 < ((rd_L2 l0 x4_1).length : Int) := of_decide_eq_true (by first | (with_reducible assumption) | assumption)
                  obtain ⟨ad600, e600, hx600_0, hx600_1⟩ := at_T46 HR599_0.out 1 p600 q600
                  cases e600
                  (try simp only [show (1 : Int).toNat = 1 from rfl, Nat.reduceMul, Nat.reduceEqDiff, Go.Addr.add, ↓reduceIte] at hx600_0)
                  (try simp only [show (1 : Int).toNat = 1 from rfl, Nat.reduceMul, Nat.reduceEqDiff, Go.Addr.add, ↓reduceIte] at hx600_1)
                  have qi600 : (1 < (rd_L2 l0 x4_1).length) = True := eq_true (by omega)
                  (try rw [show ((1 : Int)).toNat = 1 from rfl] at hx600_0)
                  (try rw [show 1 * 2 = 2 from rfl] at hx600_0)
                  (try rw [show ((1 : Int)).toNat = 1 from rfl] at hx600_1)
                  (try rw [show 1 * 2 = 2 from rfl] at hx600_1)
                  replace hx600_0 := (HB.out.cell (World.block_lt_of_cell? w _ hx600_0)).trans hx600_0
                  replace hx600_1 := (HB.out.cell (World.block_lt_of_cell? w _ hx600_1)).trans hx600_1
                  replace p600 := eq_true p600
                  replace q600 := eq_true q600
                  go_wp2_with (first | ((with_reducible refine gate_builtin (b := .append) (xs := #[.tmp 17, .tmp 24]) rfl ?_); at_builtin; refine Kd.R_append k46 (w0 := w) w.heap.size rfl (.tmp 17) (.tmp 24) 38 46 (.agg #[(.int .i64 0), (.int .i64 0)]) 16 rfl Try.underlying38 info46 rfl (by decide) (by omega) u3 x3_1 (⟨(rd_T46 (rd_L2 l0 x4_1) 1).f0, (rd_T46 (rd_L2 l0 x4_1) 1).f1⟩ : S46) [.int .i64 ((rd_T46 (rd_L2 l0 x4_1) 1).f0), .int .i64 ((rd_T46 (rd_L2 l0 x4_1) 1).f1)] (fun _ => True) (fun _ => False) rfl rfl ?aP (fun _ hk => hk.elim) ?aF ?aO ?aB ?aS ?aL ?_; (case aP => exact k46_mkM _ _ _ (⟨(rd_T46 (rd_L2 l0 x4_1) 1).f0, (rd_T46 (rd_L2 l0 x4_1) 1).f1⟩ : S46)); (case aB => exact (by repeat (first | (with_reducible first | exact HB.out | apply below_alloc | apply pw_below_drewN | apply below_drew1) | exact HB.out))); (case aF => exact (fun _ _ => trivial)); (case aO => exact (by (with_reducible repeat (first | apply Kd.R_alloc | apply Kd.R_drewN | apply Kd.R_drew)); exact HO_3.out)); (case aS => exact (below_size (by repeat (first | (with_reducible first | exact HB.out | apply below_alloc | apply pw_below_drewN | apply below_drew1) | exact HB.out)))); (case aL => have := LMc9.out; omega); intro v602 w10 ho hb hg hat; rw [← Ny601.out] at ho; have n0_ := Aside0.mk (hb); have n1_ := Aside0.mk (ho); clear HB; clear HO_3; have HB := n0_; have HO603 := n1_; clear n0_ n1_; clear ho hb hg hat))
                  go_roundg k1
                  case measure => have := HK1.out; omega
                  case rel => exact ⟨(y601), (wrap64 (x4_1 + 1)), (by first | rfl | (simp; done) | (simp [*]; done)), H', ⟨by have := HK1.out; omega⟩, ⟨by (with_reducible repeat (first | apply Kd.R_alloc | apply Kd.R_drewN | apply Kd.R_drew)); exact HO603.out⟩, ⟨by repeat (first | (with_reducible first | exact HB.out | apply below_alloc | apply pw_below_drewN | apply below_drew1) | exact HB.out)⟩⟩
                · rw [if_neg c9] at H
                  exact absurd H (by simp)
              · rw [if_neg c8] at H
                exact absurd H (by simp)
            · rw [if_neg c7] at H
              exact absurd H (by simp)
          · rw [if_neg c6] at H
            have c6b0 : decide (x4_1 < (l0.length : Int)) = false := decide_eq_false c6
            clear c6
            obtain rfl := Option.some.inj H
            go_wp2
            go_ret
            exact ⟨_, by first | rfl | (simp [errW_none, errW_some] <;> rfl) | (simp [*, errW_none, errW_some] <;> rfl), by (with_reducible repeat (first | apply Kd.R_alloc | apply Kd.R_drewN | apply Kd.R_drew)); exact HO_3.out, by repeat (first | (with_reducible first | exact HB.out | apply below_alloc | apply pw_below_drewN | apply below_drew1) | exact HB.out)⟩
    · rw [if_neg c3] at H
      exact absurd H (by simp)
  · rw [if_neg c2] at H
    exact absurd H (by simp)

end Go.Proofs.Ytjlljjnkjhdljaa.XA
