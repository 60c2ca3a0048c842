-- written by xprint.py, this project's own program (wip/), over the words of print.sh
import Derived.Test.YtjlljjnkjhdljaaXAx0
import Derived.Test.YtjlljjnkjhdljaaXAx36
namespace Go.Proofs.Ytjlljjnkjhdljaa.XA
open Go.RowKit Go.Proofs.Ytjlljjnkjhdljaa.Opens Go.Proofs.YtjlljjnkjhdljaaW.PrintWords Go.Proofs.YtjlljjnkjhdljaaW.PrintLast Go.Proofs.YtjlljjnkjhdljaaW.PrintMore
attribute [local go_sem] max2_int min2_int max_two min_two max_three min_three max_four min_four cell_some cell_same   -- for this text's walks alone
set_option linter.unusedVariables false
set_option linter.unusedSimpArgs false

/-! ### gangsawref40_Span: function 36 -/
def gangsawref40_Span.l0 : Nat → List (S46) → Int → Int → Option (Int × Int)
  | 0, _, _, _ => none
  | k + 1, x4, x5, x6 => if x6 < (x4.length : Int) then (if 0 ≤ x6 then (gangsawref40_Span.l0 k x4 (mx x5 ((rd_T46 x4 x6).f1)) (wrap64 (x6 + 1))) else (none)) else (if 0 ≤ (wrap64 ((x4.length : Int) - 1)) then (if (wrap64 ((x4.length : Int) - 1)) < (x4.length : Int) then (if 0 < (x4.length : Int) then (some (wrap64 (((rd_T46 x4 (wrap64 ((x4.length : Int) - 1))).f0) - ((rd_T46 x4 0).f0)), wrap64 (x5 - ((rd_T46 x4 0).f1)))) else (none)) else (none)) else (none))
def gangsawref40_Span.f (k : Nat) (l0 : List (List (S46))) : Option (Int × Int) := (gangsawref40_Inner.f k l0).bind fun t604 => (if 0 < (t604.length : Int) then (gangsawref40_Span.l0 k t604 ((rd_T46 t604 0).f1) 0) else (none))
theorem gangsawref40_Span.mono_l : ∀ k, (∀ y0 y1 y2, LeO (gangsawref40_Span.l0 k y0 y1 y2) (gangsawref40_Span.l0 (k + 1) y0 y1 y2))
  | 0 => fun _ _ _ r h => by simp [gangsawref40_Span.l0] at h
  | k + 1 => by
    have ih0 := gangsawref40_Span.mono_l k
    · intro y0 y1 y2
      unfold gangsawref40_Span.l0
      repeat' first
      | (with_reducible exact ih0 _ _ _)
      | (with_reducible exact gangsawref40_Inner.mono _ _)
      | (with_reducible exact LeO.refl _)
      | (with_reducible exact LeO.none _)
      | (with_reducible refine LeO.ite ?_ ?_)
      | (with_reducible refine LeO.bind ?_ (fun _ => ?_))
      | exact ih0 _ _ _
      | exact gangsawref40_Inner.mono _ _
      | exact LeO.none _
      | refine LeO.ite ?_ ?_
      | refine LeO.bind ?_ (fun _ => ?_)
theorem gangsawref40_Span.mono : ∀ a0 k, LeO (gangsawref40_Span.f k a0) (gangsawref40_Span.f (k + 1) a0) := by
  intro a0 k
  have ih0 := gangsawref40_Span.mono_l k
  unfold gangsawref40_Span.f
  repeat' first
      | (with_reducible exact ih0 _ _ _)
      | (with_reducible exact gangsawref40_Inner.mono _ _)
      | (with_reducible exact LeO.refl _)
      | (with_reducible exact LeO.none _)
      | (with_reducible refine LeO.ite ?_ ?_)
      | (with_reducible refine LeO.bind ?_ (fun _ => ?_))
      | exact ih0 _ _ _
      | exact gangsawref40_Inner.mono _ _
      | exact LeO.none _
      | refine LeO.ite ?_ ?_
      | refine LeO.bind ?_ (fun _ => ?_)
set_option maxHeartbeats 8000000 in
set_option maxRecDepth 100000 in
theorem gangsawref40_Span.calls (k : Nat) (A0 : Option Addr) (c0 : Nat) (l0 : List (List (S46))) (r1 : Int) (r2 : Int) (w : World) (hr0 : Kd.C (Kd.slice 46 k46) w A0 l0.length l0) (hc0 : l0.length ≤ c0) (h : gangsawref40_Span.f k l0 = some (r1, r2)) :
    Calls Try.prog 36 #[.slice A0 l0.length c0] w fun e w' => e = .returned (.tuple #[.int .i64 r1, .int .i64 r2]) ∧ Below w.heap.size w w' := by
  have HR0 := Aside0.mk hr0
  have HC0 := Aside0.mk hc0
  clear hr0 hc0
  have HB := Aside0.mk (Below.refl w.heap.size w)
  have H : ((gangsawref40_Inner.f k l0).bind fun t604 => (if 0 < (t604.length : Int) then (gangsawref40_Span.l0 k t604 ((rd_T46 t604 0).f1) 0) else (none))) = some (r1, r2) := h
  clear h
  replace H := Option.bind_eq_some_iff.mp H
  obtain ⟨t604, A20, H⟩ := H
  replace H : (if 0 < (t604.length : Int) then (gangsawref40_Span.l0 k t604 ((rd_T46 t604 0).f1) 0) else (none)) = some (r1, r2) := H
  have A2 := Aside0.mk A20
  clear A20
  by_cases c3 : 0 < (t604.length : Int)
  · rw [if_pos c3] at H
    have c3b0 : decide (0 < (t604.length : Int)) = true := decide_eq_true c3
    have c3b1 : decide (0 < t604.length) = true := decide_eq_true (by omega)
    clear c3
    have H' := Aside0.mk H
    clear H
    go_enter Try.func36, Try.ntmps36
    iterate 2 ((try go_quiet (first | (go_at_call 37; (with_reducible refine (gangsawref40_Inner.calls k _ _ l0 t604 _ ?side1 ?side2 A2.out).mono ?_); (case side1 => repeat (first | exact HR0.out | (with_reducible refine Kd.C_alloc ?_ _) | (with_reducible refine Kd.C_drewN ?_ _) | (with_reducible refine Kd.C_drew ?_))); (case side2 => exact HC0.out); rintro e w4 ⟨v605, rfl, ho0, hb⟩; have n0_ := Aside0.mk (Kd.R_lower ho0 (below_size (by repeat (first | (with_reducible first | exact HB.out | apply below_alloc | apply pw_below_drewN | apply below_drew1) | exact HB.out)))); have n1_ := Aside0.mk (below_step (by repeat (first | (with_reducible first | exact HB.out | apply below_alloc | apply pw_below_drewN | apply below_drew1) | exact HB.out)) hb); clear HB; have HO606 := n0_; have HB := n1_; clear n0_ n1_; (try clear hb); (try clear hb2); (try clear hk); (try clear hi); (try clear ho0); obtain ⟨Ao5, co5, eo5⟩ := Kd.R_slice HO606.out; subst eo5; have p607 : 0 ≤ (0 : Int) := (by omega); have q607 : 0 < (t604.length : Int) := of_decide_eq_true (by first | (with_reducible assumption) | assumption); obtain ⟨ad607, e607, hx607_0, hx607_1⟩ := at_T46 (Kd.R_reads' HO606.out).2.2 0 p607 q607; cases e607; have qi607 : (0 < t604.length) = True := eq_true (by omega); (try rw [show ((0 : Int)).toNat = 0 from rfl] at hx607_0); (try rw [show 0 * 2 = 0 from rfl] at hx607_0); (try rw [Addr.add_zero'] at hx607_0); (try rw [show ((0 : Int)).toNat = 0 from rfl] at hx607_1); (try rw [show 0 * 2 = 0 from rfl] at hx607_1); (try rw [Addr.add_zero'] at hx607_1); replace p607 := eq_true p607; replace q607 := eq_true q607))); go_wp2_with (first | (go_at_call 37; (with_reducible refine (gangsawref40_Inner.calls k _ _ l0 t604 _ ?side1 ?side2 A2.out).mono ?_); (case side1 => repeat (first | exact HR0.out | (with_reducible refine Kd.C_alloc ?_ _) | (with_reducible refine Kd.C_drewN ?_ _) | (with_reducible refine Kd.C_drew ?_))); (case side2 => exact HC0.out); rintro e w4 ⟨v605, rfl, ho0, hb⟩; have n0_ := Aside0.mk (Kd.R_lower ho0 (below_size (by repeat (first | (with_reducible first | exact HB.out | apply below_alloc | apply pw_below_drewN | apply below_drew1) | exact HB.out)))); have n1_ := Aside0.mk (below_step (by repeat (first | (with_reducible first | exact HB.out | apply below_alloc | apply pw_below_drewN | apply below_drew1) | exact HB.out)) hb); clear HB; have HO606 := n0_; have HB := n1_; clear n0_ n1_; (try clear hb); (try clear hb2); (try clear hk); (try clear hi); (try clear ho0); obtain ⟨Ao5, co5, eo5⟩ := Kd.R_slice HO606.out; subst eo5; have p607 : 0 ≤ (0 : Int) := (by omega); have q607 : 0 < (t604.length : Int) := of_decide_eq_true (by first | (with_reducible assumption) | assumption); obtain ⟨ad607, e607, hx607_0, hx607_1⟩ := at_T46 (Kd.R_reads' HO606.out).2.2 0 p607 q607; cases e607; have qi607 : (0 < t604.length) = True := eq_true (by omega); (try rw [show ((0 : Int)).toNat = 0 from rfl] at hx607_0); (try rw [show 0 * 2 = 0 from rfl] at hx607_0); (try rw [Addr.add_zero'] at hx607_0); (try rw [show ((0 : Int)).toNat = 0 from rfl] at hx607_1); (try rw [show 0 * 2 = 0 from rfl] at hx607_1); (try rw [Addr.add_zero'] at hx607_1); replace p607 := eq_true p607; replace q607 := eq_true q607)))
    go_loopg [5, 6] k (fun kq v5 v6 w' => ∃ (x5_1 : Int) (x6_1 : Int), v5 = .int .i64 x5_1 ∧ v6 = .int .i64 x6_1 ∧ Aside0 (gangsawref40_Span.l0 kq t604 x5_1 x6_1 = some (r1, r2)) ∧ Aside0 (kq ≤ k) ∧ Aside0 (Kd.R k46 46 w' w.heap.size (fun _ => True) (.slice (some ad607) t604.length co5) t604) ∧ Aside0 (Below w.heap.size w w'))
    case atStart => exact ⟨((rd_T46 t604 0).f1), (0), (by first | rfl | (simp; done) | (simp [*]; done)), (by first | rfl | (simp; done) | (simp [*]; done)), H', ⟨Nat.le_refl _⟩, ⟨by (with_reducible repeat (first | apply Kd.R_alloc | apply Kd.R_drewN | apply Kd.R_drew)); exact HO606.out⟩, ⟨by repeat (first | (with_reducible first | exact HB.out | apply below_alloc | apply pw_below_drewN | apply below_drew1) | exact HB.out)⟩⟩
    case round =>
      clear H'
      try clear p2
      try clear c3
      try clear c3b0
      try clear c3b1
      try clear hx607_0
      try clear hx607_1
      try clear p607
      try clear q607
      obtain ⟨x5_1, x6_1, rfl, rfl, HA, HK1, HO_4, HB⟩ := hrel
      cases gk with
      | zero => exact absurd HA.out (by simp [gangsawref40_Span.l0])
      | succ k1 =>
        have H := HA.out
        clear HA
        simp only [gangsawref40_Span.l0] at H
        by_cases c6 : x6_1 < (t604.length : Int)
        · rw [if_pos c6] at H
          have c6b0 : decide (x6_1 < (t604.length : Int)) = true := decide_eq_true c6
          clear c6
          by_cases c7 : 0 ≤ x6_1
          · rw [if_pos c7] at H
            have c7b0 : decide (0 ≤ x6_1) = true := decide_eq_true c7
            clear c7
            obtain ⟨ji8, hji8⟩ : ∃ j_ : Int, (mx x5_1 ((rd_T46 t604 x6_1).f1)) = j_ := ⟨_, rfl⟩
            replace H : (gangsawref40_Span.l0 k1 t604 ji8 (wrap64 (x6_1 + 1))) = some (r1, r2) := by first | (rw [hji8] at H; exact H) | (simp only [hji8] at H ⊢; exact H)
            have hji8_ : (if x5_1 < ((rd_T46 t604 x6_1).f1) then ((rd_T46 t604 x6_1).f1) else x5_1) = ji8 := hji8
            have H' := Aside0.mk H
            clear H
            have p608 : 0 ≤ (x6_1 : Int) := of_decide_eq_true (by first | (with_reducible assumption) | assumption)
            have q608 : x6_1 < (t604.length : Int) := of_decide_eq_true (by first | (with_reducible assumption) | assumption)
            obtain ⟨ad608, e608, hx608_0, hx608_1⟩ := at_T46 (Kd.R_reads' HO_4.out).2.2 x6_1 p608 q608
            obtain rfl : ad607 = ad608 := (by injection e608)
            replace p608 := eq_true p608
            replace q608 := eq_true q608
            go_wp2
            repeat (go_quiet (fail); try go_wp2)
            go_roundg k1
            case measure => have := HK1.out; omega
            case rel => exact ⟨(ji8), (wrap64 (x6_1 + 1)), (by first | rfl | (simp; done) | (simp only [← hji8] <;> (first | rfl | simp)) | (simp [*]; done)), (by first | rfl | (simp; done) | (simp [*]; done)), H', ⟨by have := HK1.out; omega⟩, ⟨by (with_reducible repeat (first | apply Kd.R_alloc | apply Kd.R_drewN | apply Kd.R_drew)); exact HO_4.out⟩, ⟨by repeat (first | (with_reducible first | exact HB.out | apply below_alloc | apply pw_below_drewN | apply below_drew1) | exact HB.out)⟩⟩
          · rw [if_neg c7] at H
            exact absurd H (by simp)
        · rw [if_neg c6] at H
          have c6b0 : decide (x6_1 < (t604.length : Int)) = false := decide_eq_false c6
          clear c6
          obtain ⟨ji9, hji9⟩ : ∃ j_ : Int, (wrap64 ((t604.length : Int) - 1)) = j_ := ⟨_, rfl⟩
          replace H : (if 0 ≤ (ji9) then (if (ji9) < (t604.length : Int) then (if 0 < (t604.length : Int) then (some (wrap64 (((rd_T46 t604 (ji9)).f0) - ((rd_T46 t604 0).f0)), wrap64 (x5_1 - ((rd_T46 t604 0).f1)))) else (none)) else (none)) else (none)) = some (r1, r2) := by first | (rw [hji9] at H; exact H) | (simp only [hji9] at H ⊢; exact H)
          have hji9w : (IntKind.i64.wrap ((t604.length : Int) - 1)) = ji9 := (i64_w _).trans hji9
          by_cases c10 : 0 ≤ (ji9)
          · rw [if_pos c10] at H
            have c10b0 : decide (0 ≤ (ji9)) = true := decide_eq_true c10
            clear c10
            by_cases c11 : (ji9) < (t604.length : Int)
            · rw [if_pos c11] at H
              have c11b0 : decide ((ji9) < (t604.length : Int)) = true := decide_eq_true c11
              clear c11
              by_cases c12 : 0 < (t604.length : Int)
              · rw [if_pos c12] at H
                have c12b0 : decide (0 < (t604.length : Int)) = true := decide_eq_true c12
                have c12b1 : decide (0 < t604.length) = true := decide_eq_true (by omega)
                clear c12
                simp only [Option.some.injEq, Prod.mk.injEq] at H
                obtain ⟨rfl, rfl⟩ := H
                have p609 : 0 ≤ ((ji9) : Int) := of_decide_eq_true (by first | (with_reducible assumption) | assumption)
                have q609 : (ji9) < (t604.length : Int) := of_decide_eq_true (by first | (with_reducible assumption) | assumption)
                obtain ⟨ad609, e609, hx609_0, hx609_1⟩ := at_T46 (Kd.R_reads' HO_4.out).2.2 (ji9) p609 q609
                obtain rfl : ad607 = ad609 := (by injection e609)
                replace p609 := eq_true p609
                replace q609 := eq_true q609
                have p610 : 0 ≤ (0 : Int) := (by omega)
                have q610 : 0 < (t604.length : Int) := of_decide_eq_true (by first | (with_reducible assumption) | assumption)
                obtain ⟨ad610, e610, hx610_0, hx610_1⟩ := at_T46 (Kd.R_reads' HO_4.out).2.2 0 p610 q610
                obtain rfl : ad607 = ad610 := (by injection e610)
                have qi610 : (0 < t604.length) = True := eq_true (by omega)
                (try rw [show ((0 : Int)).toNat = 0 from rfl] at hx610_0)
                (try rw [show 0 * 2 = 0 from rfl] at hx610_0)
                (try rw [Addr.add_zero'] at hx610_0)
                (try rw [show ((0 : Int)).toNat = 0 from rfl] at hx610_1)
                (try rw [show 0 * 2 = 0 from rfl] at hx610_1)
                (try rw [Addr.add_zero'] at hx610_1)
                replace p610 := eq_true p610
                replace q610 := eq_true q610
                have p611 : 0 ≤ (0 : Int) := (by omega)
                have q611 : 0 < (t604.length : Int) := of_decide_eq_true (by first | (with_reducible assumption) | assumption)
                obtain ⟨ad611, e611, hx611_0, hx611_1⟩ := at_T46 (Kd.R_reads' HO_4.out).2.2 0 p611 q611
                obtain rfl : ad607 = ad611 := (by injection e611)
                have qi611 : (0 < t604.length) = True := eq_true (by omega)
                (try rw [show ((0 : Int)).toNat = 0 from rfl] at hx611_0)
                (try rw [show 0 * 2 = 0 from rfl] at hx611_0)
                (try rw [Addr.add_zero'] at hx611_0)
                (try rw [show ((0 : Int)).toNat = 0 from rfl] at hx611_1)
                (try rw [show 0 * 2 = 0 from rfl] at hx611_1)
                (try rw [Addr.add_zero'] at hx611_1)
                replace p611 := eq_true p611
                replace q611 := eq_true q611
                go_wp2
                repeat (go_quiet (fail); try go_wp2)
                go_ret2
                exact ⟨by first | rfl | (simp [errW_none, errW_some] <;> rfl) | (simp only [← hji9]; first | rfl | (simp [errW_none, errW_some] <;> rfl)) | (simp [*, errW_none, errW_some] <;> rfl), by repeat (first | (with_reducible first | exact HB.out | apply below_alloc | apply pw_below_drewN | apply below_drew1) | exact HB.out)⟩
              · rw [if_neg c12] at H
                exact absurd H (by simp)
            · rw [if_neg c11] at H
              exact absurd H (by simp)
          · rw [if_neg c10] at H
            exact absurd H (by simp)
  · rw [if_neg c3] at H
    exact absurd H (by simp)

/-! ### gangsawref40_Outer: function 38 -/
def gangsawref40_Outer.l0 : Nat → List (List (S46)) → List (S46) → Int → Option ((List (S46)))
  | 0, _, _, _ => none
  | k + 1, x0, x3, x4 => if x4 < (x0.length : Int) then (if 0 ≤ x4 then (if 2 < ((rd_L2 x0 x4).length : Int) then (if x3.length < 8796093022208 then (gangsawref40_Outer.l0 k x0 (x3 ++ [(⟨(rd_T46 (rd_L2 x0 x4) 2).f0, (rd_T46 (rd_L2 x0 x4) 2).f1⟩ : S46)]) (wrap64 (x4 + 1))) else (none)) else (none)) else (none)) else (some x3)
def gangsawref40_Outer.f (k : Nat) (l0 : List (List (S46))) : Option ((List (S46))) := if 0 < (l0.length : Int) then (if 3 < ((rd_L2 l0 0).length : Int) then (gangsawref40_Outer.l0 k l0 (([(⟨(rd_T46 (rd_L2 l0 0) 3).f0, (rd_T46 (rd_L2 l0 0) 3).f1⟩ : S46)] : List (S46))) 0) else (none)) else (none)
theorem gangsawref40_Outer.mono_l : ∀ k, (∀ y0 y1 y2, LeO (gangsawref40_Outer.l0 k y0 y1 y2) (gangsawref40_Outer.l0 (k + 1) y0 y1 y2))
  | 0 => fun _ _ _ r h => by simp [gangsawref40_Outer.l0] at h
  | k + 1 => by
    have ih0 := gangsawref40_Outer.mono_l k
    · intro y0 y1 y2
      unfold gangsawref40_Outer.l0
      repeat' first
      | (with_reducible exact ih0 _ _ _)
      | (with_reducible exact LeO.refl _)
      | (with_reducible exact LeO.none _)
      | (with_reducible refine LeO.ite ?_ ?_)
      | (with_reducible refine LeO.bind ?_ (fun _ => ?_))
      | exact ih0 _ _ _
      | exact LeO.none _
      | refine LeO.ite ?_ ?_
      | refine LeO.bind ?_ (fun _ => ?_)
theorem gangsawref40_Outer.mono : ∀ a0 k, LeO (gangsawref40_Outer.f k a0) (gangsawref40_Outer.f (k + 1) a0) := by
  intro a0 k
  have ih0 := gangsawref40_Outer.mono_l k
  unfold gangsawref40_Outer.f
  repeat' first
      | (with_reducible exact ih0 _ _ _)
      | (with_reducible exact LeO.refl _)
      | (with_reducible exact LeO.none _)
      | (with_reducible refine LeO.ite ?_ ?_)
      | (with_reducible refine LeO.bind ?_ (fun _ => ?_))
      | exact ih0 _ _ _
      | exact LeO.none _
      | refine LeO.ite ?_ ?_
      | refine LeO.bind ?_ (fun _ => ?_)
set_option maxHeartbeats 8000000 in
set_option maxRecDepth 100000 in
theorem gangsawref40_Outer.calls (k : Nat) (A0 : Option Addr) (c0 : Nat) (l0 : List (List (S46))) (r : List (S46)) (w : World) (hr0 : Kd.C (Kd.slice 46 k46) w A0 l0.length l0) (hc0 : l0.length ≤ c0) (h : gangsawref40_Outer.f k l0 = some r) :
    Calls Try.prog 38 #[.slice A0 l0.length c0] w fun e w' => ∃ v0_ : Value, e = .returned (v0_) ∧ Kd.R k46 46 w' w.heap.size (fun _ => True) v0_ r ∧ Below w.heap.size w w' := by
  have hu46 := Try.underlying46
  have HR0 := Aside0.mk hr0
  have HC0 := Aside0.mk hc0
  clear hr0 hc0
  have HB := Aside0.mk (Below.refl w.heap.size w)
  have H : (if 0 < (l0.length : Int) then (if 3 < ((rd_L2 l0 0).length : Int) then (gangsawref40_Outer.l0 k l0 (([(⟨(rd_T46 (rd_L2 l0 0) 3).f0, (rd_T46 (rd_L2 l0 0) 3).f1⟩ : S46)] : List (S46))) 0) else (none)) else (none)) = some r := h
  clear h
  by_cases c2 : 0 < (l0.length : Int)
  · rw [if_pos c2] at H
    have c2b0 : decide (0 < (l0.length : Int)) = true := decide_eq_true c2
    have c2b1 : decide (0 < l0.length) = true := decide_eq_true (by omega)
    clear c2
    by_cases c3 : 3 < ((rd_L2 l0 0).length : Int)
    · rw [if_pos c3] at H
      have c3b0 : decide (3 < ((rd_L2 l0 0).length : Int)) = true := decide_eq_true c3
      have c3b1 : decide (3 < (rd_L2 l0 0).length) = true := decide_eq_true (by omega)
      clear c3
      obtain ⟨y614, hy614⟩ : ∃ y_ : List (S46), y_ = (([(⟨(rd_T46 (rd_L2 l0 0) 3).f0, (rd_T46 (rd_L2 l0 0) 3).f1⟩ : S46)] : List (S46))) := ⟨_, rfl⟩
      replace H : (gangsawref40_Outer.l0 k l0 y614 0) = some r := by first | (rw [hy614]; with_reducible exact H) | (have H2_ := (Option.bind_some _ _).symm.trans H; rw [hy614]; with_reducible exact H2_) | (have H2_ := (Option.bind_some _ _).symm.trans H; with_reducible exact H2_) | with_reducible exact H | (rw [hy614]; exact H) | exact H
      have Ny614 := Aside0.mk hy614
      clear hy614
      have H' := Aside0.mk H
      clear H
      have p612 : 0 ≤ (0 : Int) := (by omega)
      have q612 : 0 < (l0.length : Int) := of_decide_eq_true (by first | (with_reducible assumption) | assumption)
      obtain ⟨ad612, A612_0, c612_0, e612, hx612_0, hl612_0, hi612_0⟩ := at_L2 HR0.out 0 p612 q612
      cases e612
      have qi612 : (0 < l0.length) = True := eq_true (by omega)
      (try rw [show ((0 : Int)).toNat = 0 from rfl] at hx612_0)
      (try rw [Addr.add_zero'] at hx612_0)
      have HR612_0 := Aside0.mk hi612_0
      have HC612_0 := Aside0.mk hl612_0
      clear hi612_0 hl612_0
      replace p612 := eq_true p612
      replace q612 := eq_true q612
      have p613 : 0 ≤ (3 : Int) := (by omega)
      have q613 : 3 < ((rd_L2 l0 0).length : Int) := of_decide_eq_true (by first | (with_reducible assumption) | assumption)
      obtain ⟨ad613, e613, hx613_0, hx613_1⟩ := at_T46 HR612_0.out 3 p613 q613
      cases e613
      (try simp only [show (3 : Int).toNat = 3 from rfl, Nat.reduceMul, Nat.reduceEqDiff, Go.Addr.add, ↓reduceIte] at hx613_0)
      (try simp only [show (3 : Int).toNat = 3 from rfl, Nat.reduceMul, Nat.reduceEqDiff, Go.Addr.add, ↓reduceIte] at hx613_1)
      have qi613 : (3 < (rd_L2 l0 0).length) = True := eq_true (by omega)
      (try rw [show ((3 : Int)).toNat = 3 from rfl] at hx613_0)
      (try rw [show 3 * 2 = 6 from rfl] at hx613_0)
      (try rw [show ((3 : Int)).toNat = 3 from rfl] at hx613_1)
      (try rw [show 3 * 2 = 6 from rfl] at hx613_1)
      replace p613 := eq_true p613
      replace q613 := eq_true q613
      go_enter Try.func38, Try.ntmps38
      go_wp2_with (first | ((with_reducible refine gate_dst (N := 10) rfl ?_); refine Kd.R_lit k46 _ 46 ?hg (N := 10) ?hd (xs := ([(⟨(rd_T46 (rd_L2 l0 0) 3).f0, (rd_T46 (rd_L2 l0 0) 3).f1⟩ : S46)] : List (S46))) (inner := [.int .i64 ((rd_T46 (rd_L2 l0 0) 3).f0), .int .i64 ((rd_T46 (rd_L2 l0 0) 3).f1)]) (ok := fun _ => True) (okp := fun _ => True) ?hr ?hp (fun _ hk => hk) trivial (Below.refl _ _) (Nat.le_refl _) (by simp) ?_; (case hd => rfl); (case hg => first | rfl | (go_simp; done)); (case hr => first | (go_simp; done) | (go_simp; rfl)); (case hp => exact (Reps.c2 (show Kd.M k46 _ _ _ (⟨(rd_T46 (rd_L2 l0 0) 3).f0, (rd_T46 (rd_L2 l0 0) 3).f1⟩ : S46) [.int .i64 ((rd_T46 (rd_L2 l0 0) 3).f0), .int .i64 ((rd_T46 (rd_L2 l0 0) 3).f1)] from (k46_mkM _ _ _ (⟨(rd_T46 (rd_L2 l0 0) 3).f0, (rd_T46 (rd_L2 l0 0) 3).f1⟩ : S46) )) (Reps.none _ _))); intro v615 w4 ho5 hb hg_ hnew_; clear hg_ hnew_; (first | rw [← Ny614.out] at ho5 | (simp only [Int.reduceToNat] at ho5; rw [← Ny614.out] at ho5)); have n0_ := Aside0.mk (Kd.R_lower ho5 (below_size (by repeat (first | (with_reducible first | exact HB.out | apply below_alloc | apply pw_below_drewN | apply below_drew1) | exact HB.out)))); have n1_ := Aside0.mk (below_step (by repeat (first | (with_reducible first | exact HB.out | apply below_alloc | apply pw_below_drewN | apply below_drew1) | exact HB.out)) hb); clear HB; have HO616 := n0_; have HB := n1_; clear n0_ n1_; clear hb ho5))
      go_loopg [3, 4] k (fun kq v3 v4 w' => ∃ (x3_1 : List (S46)) (x4_1 : Int), v4 = .int .i64 x4_1 ∧ Aside0 (gangsawref40_Outer.l0 kq l0 x3_1 x4_1 = some r) ∧ Aside0 (kq ≤ k) ∧ Aside0 (Kd.R k46 46 w' w.heap.size (fun _ => True) v3 x3_1) ∧ Aside0 (Below w.heap.size w w'))
      case atStart => exact ⟨(y614), (0), (by first | rfl | (simp; done) | (simp [*]; done)), H', ⟨Nat.le_refl _⟩, ⟨by (with_reducible repeat (first | apply Kd.R_alloc | apply Kd.R_drewN | apply Kd.R_drew)); exact HO616.out⟩, ⟨by repeat (first | (with_reducible first | exact HB.out | apply below_alloc | apply pw_below_drewN | apply below_drew1) | exact HB.out)⟩⟩
      case round =>
        clear H'
        try clear c2
        try clear c2b0
        try clear c2b1
        try clear p2
        try clear c3
        try clear c3b0
        try clear c3b1
        try clear hx612_0
        try clear hx613_0
        try clear hx613_1
        try clear p612
        try clear p613
        try clear q612
        try clear q613
        obtain ⟨x3_1, x4_1, rfl, HA, HK1, HO_3, HB⟩ := hrel
        cases gk with
        | zero => exact absurd HA.out (by simp [gangsawref40_Outer.l0])
        | succ k1 =>
          have H := HA.out
          clear HA
          simp only [gangsawref40_Outer.l0] at H
          by_cases c6 : x4_1 < (l0.length : Int)
          · rw [if_pos c6] at H
            have c6b0 : decide (x4_1 < (l0.length : Int)) = true := decide_eq_true c6
            clear c6
            by_cases c7 : 0 ≤ x4_1
            · rw [if_pos c7] at H
              have c7b0 : decide (0 ≤ x4_1) = true := decide_eq_true c7
              clear c7
              by_cases c8 : 2 < ((rd_L2 l0 x4_1).length : Int)
              · rw [if_pos c8] at H
                have c8b0 : decide (2 < ((rd_L2 l0 x4_1).length : Int)) = true := decide_eq_true c8
                have c8b1 : decide (2 < (rd_L2 l0 x4_1).length) = true := decide_eq_true (by omega)
                clear c8
                by_cases c9 : x3_1.length < 8796093022208
                · rw [if_pos c9] at H
                  have LMc9 := Aside0.mk c9
                  clear c9
                  obtain ⟨y619, hy619⟩ : ∃ y_ : List (S46), y_ = (x3_1 ++ [(⟨(rd_T46 (rd_L2 l0 x4_1) 2).f0, (rd_T46 (rd_L2 l0 x4_1) 2).f1⟩ : S46)]) := ⟨_, rfl⟩
                  replace H : (gangsawref40_Outer.l0 k1 l0 y619 (wrap64 (x4_1 + 1))) = some r := by first | (rw [hy619]; with_reducible exact H) | (have H2_ := (Option.bind_some _ _).symm.trans H; rw [hy619]; with_reducible exact H2_) | (have H2_ := (Option.bind_some _ _).symm.trans H; with_reducible exact H2_) | with_reducible exact H | (rw [hy619]; exact H) | exact H
                  have Ny619 := Aside0.mk hy619
                  clear hy619
                  have H' := Aside0.mk H
                  clear H
                  have p617 : 0 ≤ (x4_1 : Int) := of_decide_eq_true (by first | (with_reducible assumption) | assumption)
                  have q617 : x4_1 < (l0.length : Int) := of_decide_eq_true (by first | (with_reducible assumption) | assumption)
                  obtain ⟨ad617, A617_0, c617_0, e617, hx617_0, hl617_0, hi617_0⟩ := at_L2 HR0.out x4_1 p617 q617
                  obtain rfl : ad612 = ad617 := (by injection e617)
                  replace hx617_0 := (HB.out.cell (World.block_lt_of_cell? w _ hx617_0)).trans hx617_0
                  have HR617_0 := Aside0.mk hi617_0
                  have HC617_0 := Aside0.mk hl617_0
                  clear hi617_0 hl617_0
                  replace p617 := eq_true p617
                  replace q617 := eq_true q617
                  have p618 : 0 ≤ (2 : Int) := (by omega)
                  have q618 : 2 < ((rd_L2 l0 x4_1).length : Int) := of_decide_eq_true (by first | (with_reducible assumption) | assumption)
                  obtain ⟨ad618, e618, hx618_0, hx618_1⟩ := at_T46 HR617_0.out 2 p618 q618
                  cases e618
                  (try simp only [show (2 : Int).toNat = 2 from rfl, Nat.reduceMul, Nat.reduceEqDiff, Go.Addr.add, ↓reduceIte] at hx618_0)
                  (try simp only [show (2 : Int).toNat = 2 from rfl, Nat.reduceMul, Nat.reduceEqDiff, Go.Addr.add, ↓reduceIte] at hx618_1)
                  have qi618 : (2 < (rd_L2 l0 x4_1).length) = True := eq_true (by omega)
                  (try rw [show ((2 : Int)).toNat = 2 from rfl] at hx618_0)
                  (try rw [show 2 * 2 = 4 from rfl] at hx618_0)
                  (try rw [show ((2 : Int)).toNat = 2 from rfl] at hx618_1)
                  (try rw [show 2 * 2 = 4 from rfl] at hx618_1)
                  replace hx618_0 := (HB.out.cell (World.block_lt_of_cell? w _ hx618_0)).trans hx618_0
                  replace hx618_1 := (HB.out.cell (World.block_lt_of_cell? w _ hx618_1)).trans hx618_1
                  replace p618 := eq_true p618
                  replace q618 := eq_true q618
                  go_wp2_with (first | ((with_reducible refine gate_builtin (b := .append) (xs := #[.tmp 17, .tmp 24]) rfl ?_); at_builtin; refine Kd.R_append k46 (w0 := w) w.heap.size rfl (.tmp 17) (.tmp 24) 38 46 (.agg #[(.int .i64 0), (.int .i64 0)]) 16 rfl Try.underlying38 info46 rfl (by decide) (by omega) u3 x3_1 (⟨(rd_T46 (rd_L2 l0 x4_1) 2).f0, (rd_T46 (rd_L2 l0 x4_1) 2).f1⟩ : S46) [.int .i64 ((rd_T46 (rd_L2 l0 x4_1) 2).f0), .int .i64 ((rd_T46 (rd_L2 l0 x4_1) 2).f1)] (fun _ => True) (fun _ => False) rfl rfl ?aP (fun _ hk => hk.elim) ?aF ?aO ?aB ?aS ?aL ?_; (case aP => exact k46_mkM _ _ _ (⟨(rd_T46 (rd_L2 l0 x4_1) 2).f0, (rd_T46 (rd_L2 l0 x4_1) 2).f1⟩ : S46)); (case aB => exact (by repeat (first | (with_reducible first | exact HB.out | apply below_alloc | apply pw_below_drewN | apply below_drew1) | exact HB.out))); (case aF => exact (fun _ _ => trivial)); (case aO => exact (by (with_reducible repeat (first | apply Kd.R_alloc | apply Kd.R_drewN | apply Kd.R_drew)); exact HO_3.out)); (case aS => exact (below_size (by repeat (first | (with_reducible first | exact HB.out | apply below_alloc | apply pw_below_drewN | apply below_drew1) | exact HB.out)))); (case aL => have := LMc9.out; omega); intro v620 w10 ho hb hg hat; rw [← Ny619.out] at ho; have n0_ := Aside0.mk (hb); have n1_ := Aside0.mk (ho); clear HB; clear HO_3; have HB := n0_; have HO621 := n1_; clear n0_ n1_; clear ho hb hg hat))
                  go_roundg k1
                  case measure => have := HK1.out; omega
                  case rel => exact ⟨(y619), (wrap64 (x4_1 + 1)), (by first | rfl | (simp; done) | (simp [*]; done)), H', ⟨by have := HK1.out; omega⟩, ⟨by (with_reducible repeat (first | apply Kd.R_alloc | apply Kd.R_drewN | apply Kd.R_drew)); exact HO621.out⟩, ⟨by repeat (first | (with_reducible first | exact HB.out | apply below_alloc | apply pw_below_drewN | apply below_drew1) | exact HB.out)⟩⟩
                · rw [if_neg c9] at H
                  exact absurd H (by simp)
              · rw [if_neg c8] at H
                exact absurd H (by simp)
            · rw [if_neg c7] at H
              exact absurd H (by simp)
          · rw [if_neg c6] at H
            have c6b0 : decide (x4_1 < (l0.length : Int)) = false := decide_eq_false c6
            clear c6
            obtain rfl := Option.some.inj H
            go_wp2
            go_ret
            exact ⟨_, by first | rfl | (simp [errW_none, errW_some] <;> rfl) | (simp [*, errW_none, errW_some] <;> rfl), by (with_reducible repeat (first | apply Kd.R_alloc | apply Kd.R_drewN | apply Kd.R_drew)); exact HO_3.out, by repeat (first | (with_reducible first | exact HB.out | apply below_alloc | apply pw_below_drewN | apply below_drew1) | exact HB.out)⟩
    · rw [if_neg c3] at H
      exact absurd H (by simp)
  · rw [if_neg c2] at H
    exact absurd H (by simp)

end Go.Proofs.Ytjlljjnkjhdljaa.XA
