-- written by xprint.py, this project's own program (wip/), over the words of print.sh
import Derived.Test.YtejnelflfldfgaaXAx0
import Derived.Test.YtejnelflfldfgaaXAx7
import Derived.Test.YtejnelflfldfgaaXAx8
namespace Go.Proofs.Ytejnelflfldfgaa.XA
open Go.RowKit Go.Proofs.Ytejnelflfldfgaa.Opens Go.Proofs.YtejnelflfldfgaaW.PrintWords Go.Proofs.YtejnelflfldfgaaW.PrintLast Go.Proofs.YtejnelflfldfgaaW.PrintMore
attribute [local go_sem] max2_int min2_int max_two min_two max_three min_three max_four min_four   -- for this text's walks alone
set_option linter.unusedVariables false
set_option linter.unusedSimpArgs false

/-! ### gangsawref35_Nearest: function 32 -/
mutual
def gangsawref35_Nearest.l0 : Nat → List Int → Int → List (S47) → Int → Option (Int × Int)
  | 0, _, _, _, _ => none
  | k + 1, x0, x1, x2, x9 => if x9 < (x2.length : Int) then (if 0 ≤ x9 then (if ((rd_T47 x2 x9).f4) = x1 then ((gangsawref35_Check.f k ((rd_T47 x2 x9).f5)).bind fun t353 => (if t353 = 0 then (gangsawref35_Nearest.l0 k x0 x1 x2 (wrap64 (x9 + 1))) else (some (0, t353)))) else (gangsawref35_Nearest.l0 k x0 x1 x2 (wrap64 (x9 + 1)))) else (none)) else (gangsawref35_Nearest.l1 k x0 x1 x2 (-1) 0)
def gangsawref35_Nearest.l1 : Nat → List Int → Int → List (S47) → Int → Int → Option (Int × Int)
  | 0, _, _, _, _, _ => none
  | k + 1, x0, x1, x2, x11, x12 => if x12 < (x2.length : Int) then (if 0 ≤ x12 then (if ((rd_T47 x2 x12).f4) = x1 then (if (((rd_T47 x2 x12).f5).length : Int) = (x0.length : Int) then (gangsawref35_Nearest.l1 k x0 x1 x2 x11 (wrap64 (x12 + 1))) else (some (0, 1))) else (gangsawref35_Nearest.l1 k x0 x1 x2 x11 (wrap64 (x12 + 1)))) else (none)) else (gangsawref35_Nearest.l2 k x0 x1 x2 x11 0)
def gangsawref35_Nearest.l2 : Nat → List Int → Int → List (S47) → Int → Int → Option (Int × Int)
  | 0, _, _, _, _, _ => none
  | k + 1, x0, x1, x2, x11, x13 => if x13 < (x2.length : Int) then (if 0 ≤ x13 then (if ((rd_T47 x2 x13).f4) = x1 then (if x11 < 0 then (gangsawref35_Nearest.l2 k x0 x1 x2 x13 (wrap64 (x13 + 1))) else ((gangsawref35_Mismatch.f k x0 ((rd_T47 x2 x13).f5)).bind fun t358 => (if 0 ≤ x11 then (if x11 < (x2.length : Int) then ((gangsawref35_Mismatch.f k x0 ((rd_T47 x2 x11).f5)).bind fun t360 => (if t358 < t360 then (gangsawref35_Nearest.l2 k x0 x1 x2 x13 (wrap64 (x13 + 1))) else (gangsawref35_Nearest.l2 k x0 x1 x2 x11 (wrap64 (x13 + 1))))) else (none)) else (none)))) else (gangsawref35_Nearest.l2 k x0 x1 x2 x11 (wrap64 (x13 + 1)))) else (none)) else (if x11 < 0 then (some (0, 9)) else (some (x11, 0)))
end
def gangsawref35_Nearest.f (k : Nat) (l0 : List Int) (a1 : Int) (l2 : List (S47)) : Option (Int × Int) := if (l2.length : Int) > 256 then (some (0, 7)) else ((gangsawref35_Check.f k l0).bind fun t350 => (if t350 = 0 then (gangsawref35_Nearest.l0 k l0 a1 l2 0) else (some (0, t350))))
theorem gangsawref35_Nearest.mono_l : ∀ k, (∀ y0 y1 y2 y3, LeO (gangsawref35_Nearest.l0 k y0 y1 y2 y3) (gangsawref35_Nearest.l0 (k + 1) y0 y1 y2 y3)) ∧ (∀ y0 y1 y2 y3 y4, LeO (gangsawref35_Nearest.l1 k y0 y1 y2 y3 y4) (gangsawref35_Nearest.l1 (k + 1) y0 y1 y2 y3 y4)) ∧ (∀ y0 y1 y2 y3 y4, LeO (gangsawref35_Nearest.l2 k y0 y1 y2 y3 y4) (gangsawref35_Nearest.l2 (k + 1) y0 y1 y2 y3 y4))
  | 0 => ⟨fun _ _ _ _ r h => by simp [gangsawref35_Nearest.l0] at h, fun _ _ _ _ _ r h => by simp [gangsawref35_Nearest.l1] at h, fun _ _ _ _ _ r h => by simp [gangsawref35_Nearest.l2] at h⟩
  | k + 1 => by
    obtain ⟨ih0, ih1, ih2⟩ := gangsawref35_Nearest.mono_l k
    refine ⟨?_, ?_, ?_⟩
    · intro y0 y1 y2 y3
      unfold gangsawref35_Nearest.l0
      repeat' first
      | (with_reducible exact ih0 _ _ _ _)
      | (with_reducible exact ih1 _ _ _ _ _)
      | (with_reducible exact ih2 _ _ _ _ _)
      | (with_reducible exact gangsawref35_Check.mono _ _)
      | (with_reducible exact gangsawref35_Mismatch.mono _ _ _)
      | (with_reducible exact LeO.refl _)
      | (with_reducible exact LeO.none _)
      | (with_reducible refine LeO.ite ?_ ?_)
      | (with_reducible refine LeO.bind ?_ (fun _ => ?_))
      | exact ih0 _ _ _ _
      | exact ih1 _ _ _ _ _
      | exact ih2 _ _ _ _ _
      | exact gangsawref35_Check.mono _ _
      | exact gangsawref35_Mismatch.mono _ _ _
      | exact LeO.none _
      | refine LeO.ite ?_ ?_
      | refine LeO.bind ?_ (fun _ => ?_)
    · intro y0 y1 y2 y3 y4
      unfold gangsawref35_Nearest.l1
      repeat' first
      | (with_reducible exact ih0 _ _ _ _)
      | (with_reducible exact ih1 _ _ _ _ _)
      | (with_reducible exact ih2 _ _ _ _ _)
      | (with_reducible exact gangsawref35_Check.mono _ _)
      | (with_reducible exact gangsawref35_Mismatch.mono _ _ _)
      | (with_reducible exact LeO.refl _)
      | (with_reducible exact LeO.none _)
      | (with_reducible refine LeO.ite ?_ ?_)
      | (with_reducible refine LeO.bind ?_ (fun _ => ?_))
      | exact ih0 _ _ _ _
      | exact ih1 _ _ _ _ _
      | exact ih2 _ _ _ _ _
      | exact gangsawref35_Check.mono _ _
      | exact gangsawref35_Mismatch.mono _ _ _
      | exact LeO.none _
      | refine LeO.ite ?_ ?_
      | refine LeO.bind ?_ (fun _ => ?_)
    · intro y0 y1 y2 y3 y4
      unfold gangsawref35_Nearest.l2
      repeat' first
      | (with_reducible exact ih0 _ _ _ _)
      | (with_reducible exact ih1 _ _ _ _ _)
      | (with_reducible exact ih2 _ _ _ _ _)
      | (with_reducible exact gangsawref35_Check.mono _ _)
      | (with_reducible exact gangsawref35_Mismatch.mono _ _ _)
      | (with_reducible exact LeO.refl _)
      | (with_reducible exact LeO.none _)
      | (with_reducible refine LeO.ite ?_ ?_)
      | (with_reducible refine LeO.bind ?_ (fun _ => ?_))
      | exact ih0 _ _ _ _
      | exact ih1 _ _ _ _ _
      | exact ih2 _ _ _ _ _
      | exact gangsawref35_Check.mono _ _
      | exact gangsawref35_Mismatch.mono _ _ _
      | exact LeO.none _
      | refine LeO.ite ?_ ?_
      | refine LeO.bind ?_ (fun _ => ?_)
theorem gangsawref35_Nearest.mono : ∀ a0 a1 a2 k, LeO (gangsawref35_Nearest.f k a0 a1 a2) (gangsawref35_Nearest.f (k + 1) a0 a1 a2) := by
  intro a0 a1 a2 k
  obtain ⟨ih0, ih1, ih2⟩ := gangsawref35_Nearest.mono_l k
  unfold gangsawref35_Nearest.f
  repeat' first
      | (with_reducible exact ih0 _ _ _ _)
      | (with_reducible exact ih1 _ _ _ _ _)
      | (with_reducible exact ih2 _ _ _ _ _)
      | (with_reducible exact gangsawref35_Check.mono _ _)
      | (with_reducible exact gangsawref35_Mismatch.mono _ _ _)
      | (with_reducible exact LeO.refl _)
      | (with_reducible exact LeO.none _)
      | (with_reducible refine LeO.ite ?_ ?_)
      | (with_reducible refine LeO.bind ?_ (fun _ => ?_))
      | exact ih0 _ _ _ _
      | exact ih1 _ _ _ _ _
      | exact ih2 _ _ _ _ _
      | exact gangsawref35_Check.mono _ _
      | exact gangsawref35_Mismatch.mono _ _ _
      | exact LeO.none _
      | refine LeO.ite ?_ ?_
      | refine LeO.bind ?_ (fun _ => ?_)
set_option maxHeartbeats 8000000 in
set_option maxRecDepth 100000 in
theorem gangsawref35_Nearest.calls (k : Nat) (A0 : Option Addr) (c0 : Nat) (l0 : List Int) (a1 : Int) (A2 : Option Addr) (c2 : Nat) (l2 : List (S47)) (r1 : Int) (r2 : Int) (w : World) (hr0 : Kd.C (Kd.int .i64) w A0 l0.length l0) (hc0 : l0.length ≤ c0) (hr2 : Kd.C k47 w A2 l2.length l2) (hc2 : l2.length ≤ c2) (h : gangsawref35_Nearest.f k l0 a1 l2 = some (r1, r2)) :
    Calls Try.prog 32 #[.slice A0 l0.length c0, .int .i64 a1, .slice A2 l2.length c2] w fun e w' => e = .returned (.tuple #[.int .i64 r1, .int .i64 r2]) ∧ Drawn0 w w' := by
  have HR0 := Aside0.mk hr0
  have HC0 := Aside0.mk hc0
  clear hr0 hc0
  have HR2 := Aside0.mk hr2
  have HC2 := Aside0.mk hc2
  clear hr2 hc2
  have H : (if (l2.length : Int) > 256 then (some (0, 7)) else ((gangsawref35_Check.f k l0).bind fun t350 => (if t350 = 0 then (gangsawref35_Nearest.l0 k l0 a1 l2 0) else (some (0, t350))))) = some (r1, r2) := h
  clear h
  by_cases c4 : (l2.length : Int) > 256
  · rw [if_pos c4] at H
    have c4b0 : decide (256 < (l2.length : Int)) = true := decide_eq_true c4
    have c4b1 : decide (256 < l2.length) = true := decide_eq_true (by omega)
    clear c4
    simp only [Option.some.injEq, Prod.mk.injEq] at H
    obtain ⟨rfl, rfl⟩ := H
    go_enter Try.func32, Try.ntmps32
    go_wp2
    repeat (go_quiet (fail); try go_wp2)
    go_ret2
    exact ⟨by first | rfl | (simp; done) | (simp [*]; done), by repeat (first | exact Drawn0.refl _ | apply Drawn0.step)⟩
  · rw [if_neg c4] at H
    have c4b0 : decide (256 < (l2.length : Int)) = false := decide_eq_false c4
    have c4b1 : decide (256 < l2.length) = false := decide_eq_false (by omega)
    clear c4
    replace H := Option.bind_eq_some_iff.mp H
    obtain ⟨t350, A50, H⟩ := H
    replace H : (if t350 = 0 then (gangsawref35_Nearest.l0 k l0 a1 l2 0) else (some (0, t350))) = some (r1, r2) := H
    have A5 := Aside0.mk A50
    clear A50
    by_cases c6 : t350 = 0
    · rw [if_pos c6] at H
      have c6b0 : (t350 == 0) = true := beq_iff_eq.mpr c6
      have c6b1 : (t350 != 0) = false := bne_eq_false_iff_eq.mpr c6
      clear c6
      have H' := Aside0.mk H
      clear H
      go_enter Try.func32, Try.ntmps32
      go_wp2_with (first | (go_at_call 13; (with_reducible refine (gangsawref35_Check.calls k _ _ l0 t350 _ ?side1 ?side2 A5.out).mono ?_); (case side1 => repeat (first | exact HR0.out | (with_reducible refine Kd.C_alloc ?_ _) | (with_reducible refine Kd.C_drewN ?_ _) | (with_reducible refine Kd.C_drew ?_))); (case side2 => exact HC0.out); rintro e w' ⟨rfl, ⟨nd, rfl⟩⟩; (try first | exact ⟨rfl, _, World.drewN_drewN _ _ _⟩ | exact ⟨rfl, _, Eq.trans (World.drewN_drewN _ _ _) (congrArg (World.drewN _) (Nat.add_assoc _ _ _))⟩)))
      repeat (go_quiet (first | (go_at_call 13; (with_reducible refine (gangsawref35_Check.calls k _ _ l0 t350 _ ?side1 ?side2 A5.out).mono ?_); (case side1 => repeat (first | exact HR0.out | (with_reducible refine Kd.C_alloc ?_ _) | (with_reducible refine Kd.C_drewN ?_ _) | (with_reducible refine Kd.C_drew ?_))); (case side2 => exact HC0.out); rintro e w' ⟨rfl, ⟨nd, rfl⟩⟩; (try first | exact ⟨rfl, _, World.drewN_drewN _ _ _⟩ | exact ⟨rfl, _, Eq.trans (World.drewN_drewN _ _ _) (congrArg (World.drewN _) (Nat.add_assoc _ _ _))⟩))); try go_wp2_with (first | (go_at_call 13; (with_reducible refine (gangsawref35_Check.calls k _ _ l0 t350 _ ?side1 ?side2 A5.out).mono ?_); (case side1 => repeat (first | exact HR0.out | (with_reducible refine Kd.C_alloc ?_ _) | (with_reducible refine Kd.C_drewN ?_ _) | (with_reducible refine Kd.C_drew ?_))); (case side2 => exact HC0.out); rintro e w' ⟨rfl, ⟨nd, rfl⟩⟩; (try first | exact ⟨rfl, _, World.drewN_drewN _ _ _⟩ | exact ⟨rfl, _, Eq.trans (World.drewN_drewN _ _ _) (congrArg (World.drewN _) (Nat.add_assoc _ _ _))⟩))))
      go_loopg [9] k (fun kq v9 w' => ∃ (x9_1 : Int), v9 = .int .i64 x9_1 ∧ Aside0 (gangsawref35_Nearest.l0 kq l0 a1 l2 x9_1 = some (r1, r2)) ∧ Aside0 (kq ≤ k) ∧ Drawn0 w w')
      case atStart => exact ⟨(0), (by first | rfl | (simp; done) | (simp [*]; done)), H', ⟨Nat.le_refl _⟩, by repeat (first | exact Drawn0.refl _ | apply Drawn0.step)⟩
      case round =>
        clear H'
        try clear c2
        try clear p2
        try clear c3
        try clear c4
        try clear c4b0
        try clear c4b1
        try clear c6
        try clear c6b0
        try clear c6b1
        obtain ⟨x9_1, rfl, HA, HK1, ⟨m1, rfl⟩⟩ := hrel
        cases gk with
        | zero => exact absurd HA.out (by simp [gangsawref35_Nearest.l0])
        | succ k1 =>
          have H := HA.out
          clear HA
          simp only [gangsawref35_Nearest.l0] at H
          by_cases c7 : x9_1 < (l2.length : Int)
          · rw [if_pos c7] at H
            have c7b0 : decide (x9_1 < (l2.length : Int)) = true := decide_eq_true c7
            clear c7
            by_cases c8 : 0 ≤ x9_1
            · rw [if_pos c8] at H
              have c8b0 : decide (0 ≤ x9_1) = true := decide_eq_true c8
              clear c8
              by_cases c9 : ((rd_T47 l2 x9_1).f4) = a1
              · rw [if_pos c9] at H
                have c9b0 : (((rd_T47 l2 x9_1).f4) == a1) = true := beq_iff_eq.mpr c9
                have c9b1 : (((rd_T47 l2 x9_1).f4) != a1) = false := bne_eq_false_iff_eq.mpr c9
                clear c9
                replace H := Option.bind_eq_some_iff.mp H
                obtain ⟨t353, A100, H⟩ := H
                replace H : (if t353 = 0 then (gangsawref35_Nearest.l0 k1 l0 a1 l2 (wrap64 (x9_1 + 1))) else (some (0, t353))) = some (r1, r2) := H
                have A10 := Aside0.mk A100
                clear A100
                by_cases c11 : t353 = 0
                · rw [if_pos c11] at H
                  have c11b0 : (t353 == 0) = true := beq_iff_eq.mpr c11
                  have c11b1 : (t353 != 0) = false := bne_eq_false_iff_eq.mpr c11
                  clear c11
                  have H' := Aside0.mk H
                  clear H
                  have p351 : 0 ≤ (x9_1 : Int) := of_decide_eq_true (by first | (with_reducible assumption) | assumption)
                  have q351 : x9_1 < (l2.length : Int) := of_decide_eq_true (by first | (with_reducible assumption) | assumption)
                  obtain ⟨ad351, A351_10, c351_10, A351_11, c351_11, e351, hx351_0, hx351_1, hx351_2, hx351_3, hx351_4, hx351_5, hx351_6, hx351_7, hx351_8, hx351_9, hx351_10, hx351_11, hl351_10, hi351_10, hl351_11, hi351_11⟩ := at_T47 HR2.out x9_1 p351 q351
                  cases e351
                  have HR351_10 := Aside0.mk hi351_10
                  have HC351_10 := Aside0.mk hl351_10
                  clear hi351_10 hl351_10
                  have HR351_11 := Aside0.mk hi351_11
                  have HC351_11 := Aside0.mk hl351_11
                  clear hi351_11 hl351_11
                  replace p351 := eq_true p351
                  replace q351 := eq_true q351
                  have p352 : 0 ≤ (x9_1 : Int) := of_decide_eq_true (by first | (with_reducible assumption) | assumption)
                  have q352 : x9_1 < (l2.length : Int) := of_decide_eq_true (by first | (with_reducible assumption) | assumption)
                  obtain ⟨ad352, A352_10, c352_10, A352_11, c352_11, e352, hx352_0, hx352_1, hx352_2, hx352_3, hx352_4, hx352_5, hx352_6, hx352_7, hx352_8, hx352_9, hx352_10, hx352_11, hl352_10, hi352_10, hl352_11, hi352_11⟩ := at_T47 HR2.out x9_1 p352 q352
                  obtain rfl : ad351 = ad352 := (by injection e352)
                  have HR352_10 := Aside0.mk hi352_10
                  have HC352_10 := Aside0.mk hl352_10
                  clear hi352_10 hl352_10
                  have HR352_11 := Aside0.mk hi352_11
                  have HC352_11 := Aside0.mk hl352_11
                  clear hi352_11 hl352_11
                  replace p352 := eq_true p352
                  replace q352 := eq_true q352
                  have ea_ := Option.some.inj (hx351_10.symm.trans hx352_10)
                  injection ea_ with ea_ en_ ec_
                  subst ea_
                  subst ec_
                  clear en_
                  have ea_ := Option.some.inj (hx351_11.symm.trans hx352_11)
                  injection ea_ with ea_ en_ ec_
                  subst ea_
                  subst ec_
                  clear en_
                  go_wp2_with (first | (go_at_call 13; (with_reducible refine (gangsawref35_Check.calls k1 _ _ ((rd_T47 l2 x9_1).f5) t353 _ ?side1 ?side2 A10.out).mono ?_); (case side1 => repeat (first | exact HR352_10.out | (with_reducible refine Kd.C_alloc ?_ _) | (with_reducible refine Kd.C_drewN ?_ _) | (with_reducible refine Kd.C_drew ?_))); (case side2 => exact HC352_10.out); rintro e w' ⟨rfl, ⟨nd, rfl⟩⟩; (try first | exact ⟨rfl, _, World.drewN_drewN _ _ _⟩ | exact ⟨rfl, _, Eq.trans (World.drewN_drewN _ _ _) (congrArg (World.drewN _) (Nat.add_assoc _ _ _))⟩)))
                  repeat (go_quiet (first | (go_at_call 13; (with_reducible refine (gangsawref35_Check.calls k1 _ _ ((rd_T47 l2 x9_1).f5) t353 _ ?side1 ?side2 A10.out).mono ?_); (case side1 => repeat (first | exact HR352_10.out | (with_reducible refine Kd.C_alloc ?_ _) | (with_reducible refine Kd.C_drewN ?_ _) | (with_reducible refine Kd.C_drew ?_))); (case side2 => exact HC352_10.out); rintro e w' ⟨rfl, ⟨nd, rfl⟩⟩; (try first | exact ⟨rfl, _, World.drewN_drewN _ _ _⟩ | exact ⟨rfl, _, Eq.trans (World.drewN_drewN _ _ _) (congrArg (World.drewN _) (Nat.add_assoc _ _ _))⟩))); try go_wp2_with (first | (go_at_call 13; (with_reducible refine (gangsawref35_Check.calls k1 _ _ ((rd_T47 l2 x9_1).f5) t353 _ ?side1 ?side2 A10.out).mono ?_); (case side1 => repeat (first | exact HR352_10.out | (with_reducible refine Kd.C_alloc ?_ _) | (with_reducible refine Kd.C_drewN ?_ _) | (with_reducible refine Kd.C_drew ?_))); (case side2 => exact HC352_10.out); rintro e w' ⟨rfl, ⟨nd, rfl⟩⟩; (try first | exact ⟨rfl, _, World.drewN_drewN _ _ _⟩ | exact ⟨rfl, _, Eq.trans (World.drewN_drewN _ _ _) (congrArg (World.drewN _) (Nat.add_assoc _ _ _))⟩))))
                  go_roundg k1
                  case measure => have := HK1.out; omega
                  case rel => exact ⟨(wrap64 (x9_1 + 1)), (by first | rfl | (simp; done) | (simp [*]; done)), H', ⟨by have := HK1.out; omega⟩, by repeat (first | exact Drawn0.refl _ | apply Drawn0.step)⟩
                · rw [if_neg c11] at H
                  have c11b0 : (t353 == 0) = false := beq_eq_false_iff_ne.mpr c11
                  have c11b1 : (t353 != 0) = true := bne_iff_ne.mpr c11
                  simp only [Option.some.injEq, Prod.mk.injEq] at H
                  obtain ⟨rfl, rfl⟩ := H
                  have p351 : 0 ≤ (x9_1 : Int) := of_decide_eq_true (by first | (with_reducible assumption) | assumption)
                  have q351 : x9_1 < (l2.length : Int) := of_decide_eq_true (by first | (with_reducible assumption) | assumption)
                  obtain ⟨ad351, A351_10, c351_10, A351_11, c351_11, e351, hx351_0, hx351_1, hx351_2, hx351_3, hx351_4, hx351_5, hx351_6, hx351_7, hx351_8, hx351_9, hx351_10, hx351_11, hl351_10, hi351_10, hl351_11, hi351_11⟩ := at_T47 HR2.out x9_1 p351 q351
                  cases e351
                  have HR351_10 := Aside0.mk hi351_10
                  have HC351_10 := Aside0.mk hl351_10
                  clear hi351_10 hl351_10
                  have HR351_11 := Aside0.mk hi351_11
                  have HC351_11 := Aside0.mk hl351_11
                  clear hi351_11 hl351_11
                  replace p351 := eq_true p351
                  replace q351 := eq_true q351
                  have p352 : 0 ≤ (x9_1 : Int) := of_decide_eq_true (by first | (with_reducible assumption) | assumption)
                  have q352 : x9_1 < (l2.length : Int) := of_decide_eq_true (by first | (with_reducible assumption) | assumption)
                  obtain ⟨ad352, A352_10, c352_10, A352_11, c352_11, e352, hx352_0, hx352_1, hx352_2, hx352_3, hx352_4, hx352_5, hx352_6, hx352_7, hx352_8, hx352_9, hx352_10, hx352_11, hl352_10, hi352_10, hl352_11, hi352_11⟩ := at_T47 HR2.out x9_1 p352 q352
                  obtain rfl : ad351 = ad352 := (by injection e352)
                  have HR352_10 := Aside0.mk hi352_10
                  have HC352_10 := Aside0.mk hl352_10
                  clear hi352_10 hl352_10
                  have HR352_11 := Aside0.mk hi352_11
                  have HC352_11 := Aside0.mk hl352_11
                  clear hi352_11 hl352_11
                  replace p352 := eq_true p352
                  replace q352 := eq_true q352
                  have ea_ := Option.some.inj (hx351_10.symm.trans hx352_10)
                  injection ea_ with ea_ en_ ec_
                  subst ea_
                  subst ec_
                  clear en_
                  have ea_ := Option.some.inj (hx351_11.symm.trans hx352_11)
                  injection ea_ with ea_ en_ ec_
                  subst ea_
                  subst ec_
                  clear en_
                  go_wp2_with (first | (go_at_call 13; (with_reducible refine (gangsawref35_Check.calls k1 _ _ ((rd_T47 l2 x9_1).f5) t353 _ ?side1 ?side2 A10.out).mono ?_); (case side1 => repeat (first | exact HR352_10.out | (with_reducible refine Kd.C_alloc ?_ _) | (with_reducible refine Kd.C_drewN ?_ _) | (with_reducible refine Kd.C_drew ?_))); (case side2 => exact HC352_10.out); rintro e w' ⟨rfl, ⟨nd, rfl⟩⟩; (try first | exact ⟨rfl, _, World.drewN_drewN _ _ _⟩ | exact ⟨rfl, _, Eq.trans (World.drewN_drewN _ _ _) (congrArg (World.drewN _) (Nat.add_assoc _ _ _))⟩)))
                  repeat (go_quiet (first | (go_at_call 13; (with_reducible refine (gangsawref35_Check.calls k1 _ _ ((rd_T47 l2 x9_1).f5) t353 _ ?side1 ?side2 A10.out).mono ?_); (case side1 => repeat (first | exact HR352_10.out | (with_reducible refine Kd.C_alloc ?_ _) | (with_reducible refine Kd.C_drewN ?_ _) | (with_reducible refine Kd.C_drew ?_))); (case side2 => exact HC352_10.out); rintro e w' ⟨rfl, ⟨nd, rfl⟩⟩; (try first | exact ⟨rfl, _, World.drewN_drewN _ _ _⟩ | exact ⟨rfl, _, Eq.trans (World.drewN_drewN _ _ _) (congrArg (World.drewN _) (Nat.add_assoc _ _ _))⟩))); try go_wp2_with (first | (go_at_call 13; (with_reducible refine (gangsawref35_Check.calls k1 _ _ ((rd_T47 l2 x9_1).f5) t353 _ ?side1 ?side2 A10.out).mono ?_); (case side1 => repeat (first | exact HR352_10.out | (with_reducible refine Kd.C_alloc ?_ _) | (with_reducible refine Kd.C_drewN ?_ _) | (with_reducible refine Kd.C_drew ?_))); (case side2 => exact HC352_10.out); rintro e w' ⟨rfl, ⟨nd, rfl⟩⟩; (try first | exact ⟨rfl, _, World.drewN_drewN _ _ _⟩ | exact ⟨rfl, _, Eq.trans (World.drewN_drewN _ _ _) (congrArg (World.drewN _) (Nat.add_assoc _ _ _))⟩))))
                  go_ret2
                  exact ⟨by first | rfl | (simp; done) | (simp [*]; done), by repeat (first | exact Drawn0.refl _ | apply Drawn0.step)⟩
              · rw [if_neg c9] at H
                have c9b0 : (((rd_T47 l2 x9_1).f4) == a1) = false := beq_eq_false_iff_ne.mpr c9
                have c9b1 : (((rd_T47 l2 x9_1).f4) != a1) = true := bne_iff_ne.mpr c9
                have H' := Aside0.mk H
                clear H
                have p351 : 0 ≤ (x9_1 : Int) := of_decide_eq_true (by first | (with_reducible assumption) | assumption)
                have q351 : x9_1 < (l2.length : Int) := of_decide_eq_true (by first | (with_reducible assumption) | assumption)
                obtain ⟨ad351, A351_10, c351_10, A351_11, c351_11, e351, hx351_0, hx351_1, hx351_2, hx351_3, hx351_4, hx351_5, hx351_6, hx351_7, hx351_8, hx351_9, hx351_10, hx351_11, hl351_10, hi351_10, hl351_11, hi351_11⟩ := at_T47 HR2.out x9_1 p351 q351
                cases e351
                have HR351_10 := Aside0.mk hi351_10
                have HC351_10 := Aside0.mk hl351_10
                clear hi351_10 hl351_10
                have HR351_11 := Aside0.mk hi351_11
                have HC351_11 := Aside0.mk hl351_11
                clear hi351_11 hl351_11
                replace p351 := eq_true p351
                replace q351 := eq_true q351
                go_wp2
                repeat (go_quiet (fail); try go_wp2)
                go_roundg k1
                case measure => have := HK1.out; omega
                case rel => exact ⟨(wrap64 (x9_1 + 1)), (by first | rfl | (simp; done) | (simp [*]; done)), H', ⟨by have := HK1.out; omega⟩, by repeat (first | exact Drawn0.refl _ | apply Drawn0.step)⟩
            · rw [if_neg c8] at H
              exact absurd H (by simp)
          · rw [if_neg c7] at H
            have c7b0 : decide (x9_1 < (l2.length : Int)) = false := decide_eq_false c7
            clear c7
            have H' := Aside0.mk H
            clear H
            go_wp2
            repeat (go_quiet (fail); try go_wp2)
            go_loopg [12] k1 (fun kq v12 w' => ∃ (x12_2 : Int), v12 = .int .i64 x12_2 ∧ Aside0 (gangsawref35_Nearest.l1 kq l0 a1 l2 (-1) x12_2 = some (r1, r2)) ∧ Aside0 (kq ≤ k1) ∧ Drawn0 w w')
            case atStart => exact ⟨(0), (by first | rfl | (simp; done) | (simp [*]; done)), H', ⟨Nat.le_refl _⟩, by repeat (first | exact Drawn0.refl _ | apply Drawn0.step)⟩
            case round =>
              clear H'
              try clear c1
              try clear c2
              try clear p2
              try clear c3
              try clear p3
              try clear q3
              try clear hx3
              try clear c4
              try clear c4b0
              try clear c4b1
              try clear c6
              try clear c6b0
              try clear c6b1
              try clear p6
              try clear c7
              try clear c7b0
              try clear c8
              try clear c8b0
              try clear c9
              try clear c9b0
              try clear c9b1
              try clear c11
              try clear c11b0
              try clear c11b1
              try clear hx351_0
              try clear hx351_1
              try clear hx351_10
              try clear hx351_11
              try clear hx351_2
              try clear hx351_3
              try clear hx351_4
              try clear hx351_5
              try clear hx351_6
              try clear hx351_7
              try clear hx351_8
              try clear hx351_9
              try clear hx352_0
              try clear hx352_1
              try clear hx352_10
              try clear hx352_11
              try clear hx352_2
              try clear hx352_3
              try clear hx352_4
              try clear hx352_5
              try clear hx352_6
              try clear hx352_7
              try clear hx352_8
              try clear hx352_9
              try clear p2
              try clear p351
              try clear p352
              try clear q351
              try clear q352
              obtain ⟨x12_2, rfl, HA, HK2, ⟨m2, rfl⟩⟩ := hrel
              cases gk with
              | zero => exact absurd HA.out (by simp [gangsawref35_Nearest.l1])
              | succ k2 =>
                have H := HA.out
                clear HA
                simp only [gangsawref35_Nearest.l1] at H
                by_cases c12 : x12_2 < (l2.length : Int)
                · rw [if_pos c12] at H
                  have c12b0 : decide (x12_2 < (l2.length : Int)) = true := decide_eq_true c12
                  clear c12
                  by_cases c13 : 0 ≤ x12_2
                  · rw [if_pos c13] at H
                    have c13b0 : decide (0 ≤ x12_2) = true := decide_eq_true c13
                    clear c13
                    by_cases c14 : ((rd_T47 l2 x12_2).f4) = a1
                    · rw [if_pos c14] at H
                      have c14b0 : (((rd_T47 l2 x12_2).f4) == a1) = true := beq_iff_eq.mpr c14
                      have c14b1 : (((rd_T47 l2 x12_2).f4) != a1) = false := bne_eq_false_iff_eq.mpr c14
                      clear c14
                      by_cases c15 : (((rd_T47 l2 x12_2).f5).length : Int) = (l0.length : Int)
                      · rw [if_pos c15] at H
                        have c15b0 : ((((rd_T47 l2 x12_2).f5).length : Int) == (l0.length : Int)) = true := beq_iff_eq.mpr c15
                        have c15b1 : ((((rd_T47 l2 x12_2).f5).length : Int) != (l0.length : Int)) = false := bne_eq_false_iff_eq.mpr c15
                        have c15b2 : (((rd_T47 l2 x12_2).f5).length == l0.length) = true := by first | simpa using c15 | (simp at c15 ⊢; omega)
                        clear c15
                        have H' := Aside0.mk H
                        clear H
                        have p354 : 0 ≤ (x12_2 : Int) := of_decide_eq_true (by first | (with_reducible assumption) | assumption)
                        have q354 : x12_2 < (l2.length : Int) := of_decide_eq_true (by first | (with_reducible assumption) | assumption)
                        obtain ⟨ad354, A354_10, c354_10, A354_11, c354_11, e354, hx354_0, hx354_1, hx354_2, hx354_3, hx354_4, hx354_5, hx354_6, hx354_7, hx354_8, hx354_9, hx354_10, hx354_11, hl354_10, hi354_10, hl354_11, hi354_11⟩ := at_T47 HR2.out x12_2 p354 q354
                        cases e354
                        have HR354_10 := Aside0.mk hi354_10
                        have HC354_10 := Aside0.mk hl354_10
                        clear hi354_10 hl354_10
                        have HR354_11 := Aside0.mk hi354_11
                        have HC354_11 := Aside0.mk hl354_11
                        clear hi354_11 hl354_11
                        replace p354 := eq_true p354
                        replace q354 := eq_true q354
                        have p355 : 0 ≤ (x12_2 : Int) := of_decide_eq_true (by first | (with_reducible assumption) | assumption)
                        have q355 : x12_2 < (l2.length : Int) := of_decide_eq_true (by first | (with_reducible assumption) | assumption)
                        obtain ⟨ad355, A355_10, c355_10, A355_11, c355_11, e355, hx355_0, hx355_1, hx355_2, hx355_3, hx355_4, hx355_5, hx355_6, hx355_7, hx355_8, hx355_9, hx355_10, hx355_11, hl355_10, hi355_10, hl355_11, hi355_11⟩ := at_T47 HR2.out x12_2 p355 q355
                        obtain rfl : ad354 = ad355 := (by injection e355)
                        have HR355_10 := Aside0.mk hi355_10
                        have HC355_10 := Aside0.mk hl355_10
                        clear hi355_10 hl355_10
                        have HR355_11 := Aside0.mk hi355_11
                        have HC355_11 := Aside0.mk hl355_11
                        clear hi355_11 hl355_11
                        replace p355 := eq_true p355
                        replace q355 := eq_true q355
                        have ea_ := Option.some.inj (hx354_10.symm.trans hx355_10)
                        injection ea_ with ea_ en_ ec_
                        subst ea_
                        subst ec_
                        clear en_
                        have ea_ := Option.some.inj (hx354_11.symm.trans hx355_11)
                        injection ea_ with ea_ en_ ec_
                        subst ea_
                        subst ec_
                        clear en_
                        go_wp2
                        repeat (go_quiet (fail); try go_wp2)
                        go_roundg k2
                        case measure => have := HK1.out; have := HK2.out; omega
                        case rel => exact ⟨(wrap64 (x12_2 + 1)), (by first | rfl | (simp; done) | (simp [*]; done)), H', ⟨by have := HK1.out; have := HK2.out; omega⟩, by repeat (first | exact Drawn0.refl _ | apply Drawn0.step)⟩
                      · rw [if_neg c15] at H
                        have c15b0 : ((((rd_T47 l2 x12_2).f5).length : Int) == (l0.length : Int)) = false := beq_eq_false_iff_ne.mpr c15
                        have c15b1 : ((((rd_T47 l2 x12_2).f5).length : Int) != (l0.length : Int)) = true := bne_iff_ne.mpr c15
                        have c15b2 : (((rd_T47 l2 x12_2).f5).length == l0.length) = false := by first | simpa using c15 | (simp at c15 ⊢; omega)
                        simp only [Option.some.injEq, Prod.mk.injEq] at H
                        obtain ⟨rfl, rfl⟩ := H
                        have p354 : 0 ≤ (x12_2 : Int) := of_decide_eq_true (by first | (with_reducible assumption) | assumption)
                        have q354 : x12_2 < (l2.length : Int) := of_decide_eq_true (by first | (with_reducible assumption) | assumption)
                        obtain ⟨ad354, A354_10, c354_10, A354_11, c354_11, e354, hx354_0, hx354_1, hx354_2, hx354_3, hx354_4, hx354_5, hx354_6, hx354_7, hx354_8, hx354_9, hx354_10, hx354_11, hl354_10, hi354_10, hl354_11, hi354_11⟩ := at_T47 HR2.out x12_2 p354 q354
                        cases e354
                        have HR354_10 := Aside0.mk hi354_10
                        have HC354_10 := Aside0.mk hl354_10
                        clear hi354_10 hl354_10
                        have HR354_11 := Aside0.mk hi354_11
                        have HC354_11 := Aside0.mk hl354_11
                        clear hi354_11 hl354_11
                        replace p354 := eq_true p354
                        replace q354 := eq_true q354
                        have p355 : 0 ≤ (x12_2 : Int) := of_decide_eq_true (by first | (with_reducible assumption) | assumption)
                        have q355 : x12_2 < (l2.length : Int) := of_decide_eq_true (by first | (with_reducible assumption) | assumption)
                        obtain ⟨ad355, A355_10, c355_10, A355_11, c355_11, e355, hx355_0, hx355_1, hx355_2, hx355_3, hx355_4, hx355_5, hx355_6, hx355_7, hx355_8, hx355_9, hx355_10, hx355_11, hl355_10, hi355_10, hl355_11, hi355_11⟩ := at_T47 HR2.out x12_2 p355 q355
                        obtain rfl : ad354 = ad355 := (by injection e355)
                        have HR355_10 := Aside0.mk hi355_10
                        have HC355_10 := Aside0.mk hl355_10
                        clear hi355_10 hl355_10
                        have HR355_11 := Aside0.mk hi355_11
                        have HC355_11 := Aside0.mk hl355_11
                        clear hi355_11 hl355_11
                        replace p355 := eq_true p355
                        replace q355 := eq_true q355
                        have ea_ := Option.some.inj (hx354_10.symm.trans hx355_10)
                        injection ea_ with ea_ en_ ec_
                        subst ea_
                        subst ec_
                        clear en_
                        have ea_ := Option.some.inj (hx354_11.symm.trans hx355_11)
                        injection ea_ with ea_ en_ ec_
                        subst ea_
                        subst ec_
                        clear en_
                        go_wp2
                        repeat (go_quiet (fail); try go_wp2)
                        go_ret2
                        exact ⟨by first | rfl | (simp; done) | (simp [*]; done), by repeat (first | exact Drawn0.refl _ | apply Drawn0.step)⟩
                    · rw [if_neg c14] at H
                      have c14b0 : (((rd_T47 l2 x12_2).f4) == a1) = false := beq_eq_false_iff_ne.mpr c14
                      have c14b1 : (((rd_T47 l2 x12_2).f4) != a1) = true := bne_iff_ne.mpr c14
                      have H' := Aside0.mk H
                      clear H
                      have p354 : 0 ≤ (x12_2 : Int) := of_decide_eq_true (by first | (with_reducible assumption) | assumption)
                      have q354 : x12_2 < (l2.length : Int) := of_decide_eq_true (by first | (with_reducible assumption) | assumption)
                      obtain ⟨ad354, A354_10, c354_10, A354_11, c354_11, e354, hx354_0, hx354_1, hx354_2, hx354_3, hx354_4, hx354_5, hx354_6, hx354_7, hx354_8, hx354_9, hx354_10, hx354_11, hl354_10, hi354_10, hl354_11, hi354_11⟩ := at_T47 HR2.out x12_2 p354 q354
                      cases e354
                      have HR354_10 := Aside0.mk hi354_10
                      have HC354_10 := Aside0.mk hl354_10
                      clear hi354_10 hl354_10
                      have HR354_11 := Aside0.mk hi354_11
                      have HC354_11 := Aside0.mk hl354_11
                      clear hi354_11 hl354_11
                      replace p354 := eq_true p354
                      replace q354 := eq_true q354
                      go_wp2
                      repeat (go_quiet (fail); try go_wp2)
                      go_roundg k2
                      case measure => have := HK1.out; have := HK2.out; omega
                      case rel => exact ⟨(wrap64 (x12_2 + 1)), (by first | rfl | (simp; done) | (simp [*]; done)), H', ⟨by have := HK1.out; have := HK2.out; omega⟩, by repeat (first | exact Drawn0.refl _ | apply Drawn0.step)⟩
                  · rw [if_neg c13] at H
                    exact absurd H (by simp)
                · rw [if_neg c12] at H
                  have c12b0 : decide (x12_2 < (l2.length : Int)) = false := decide_eq_false c12
                  clear c12
                  have H' := Aside0.mk H
                  clear H
                  go_wp2
                  repeat (go_quiet (fail); try go_wp2)
                  go_loopg [11, 13] k2 (fun kq v11 v13 w' => ∃ (x11_3 : Int) (x13_3 : Int), v11 = .int .i64 x11_3 ∧ v13 = .int .i64 x13_3 ∧ Aside0 (gangsawref35_Nearest.l2 kq l0 a1 l2 x11_3 x13_3 = some (r1, r2)) ∧ Aside0 (kq ≤ k2) ∧ Drawn0 w w')
                  case atStart => exact ⟨((-1)), (0), (by first | rfl | (simp; done) | (simp [*]; done)), (by first | rfl | (simp; done) | (simp [*]; done)), H', ⟨Nat.le_refl _⟩, by repeat (first | exact Drawn0.refl _ | apply Drawn0.step)⟩
                  case round =>
                    clear H'
                    try clear c1
                    try clear c2
                    try clear p2
                    try clear c3
                    try clear p3
                    try clear q3
                    try clear hx3
                    try clear c4
                    try clear c4b0
                    try clear c4b1
                    try clear c6
                    try clear c6b0
                    try clear c6b1
                    try clear p6
                    try clear c7
                    try clear c7b0
                    try clear c8
                    try clear c8b0
                    try clear c9
                    try clear c9b0
                    try clear c9b1
                    try clear c11
                    try clear c11b0
                    try clear c11b1
                    try clear c12
                    try clear c12b0
                    try clear c13
                    try clear c13b0
                    try clear c14
                    try clear c14b0
                    try clear c14b1
                    try clear c15
                    try clear c15b0
                    try clear c15b1
                    try clear c15b2
                    try clear hx351_0
                    try clear hx351_1
                    try clear hx351_10
                    try clear hx351_11
                    try clear hx351_2
                    try clear hx351_3
                    try clear hx351_4
                    try clear hx351_5
                    try clear hx351_6
                    try clear hx351_7
                    try clear hx351_8
                    try clear hx351_9
                    try clear hx352_0
                    try clear hx352_1
                    try clear hx352_10
                    try clear hx352_11
                    try clear hx352_2
                    try clear hx352_3
                    try clear hx352_4
                    try clear hx352_5
                    try clear hx352_6
                    try clear hx352_7
                    try clear hx352_8
                    try clear hx352_9
                    try clear hx354_0
                    try clear hx354_1
                    try clear hx354_10
                    try clear hx354_11
                    try clear hx354_2
                    try clear hx354_3
                    try clear hx354_4
                    try clear hx354_5
                    try clear hx354_6
                    try clear hx354_7
                    try clear hx354_8
                    try clear hx354_9
                    try clear hx355_0
                    try clear hx355_1
                    try clear hx355_10
                    try clear hx355_11
                    try clear hx355_2
                    try clear hx355_3
                    try clear hx355_4
                    try clear hx355_5
                    try clear hx355_6
                    try clear hx355_7
                    try clear hx355_8
                    try clear hx355_9
                    try clear p2
                    try clear p3
                    try clear p351
                    try clear p352
                    try clear p354
                    try clear p355
                    try clear p6
                    try clear q3
                    try clear q351
                    try clear q352
                    try clear q354
                    try clear q355
                    obtain ⟨x11_3, x13_3, rfl, rfl, HA, HK3, ⟨m3, rfl⟩⟩ := hrel
                    cases gk with
                    | zero => exact absurd HA.out (by simp [gangsawref35_Nearest.l2])
                    | succ k3 =>
                      have H := HA.out
                      clear HA
                      simp only [gangsawref35_Nearest.l2] at H
                      by_cases c16 : x13_3 < (l2.length : Int)
                      · rw [if_pos c16] at H
                        have c16b0 : decide (x13_3 < (l2.length : Int)) = true := decide_eq_true c16
                        clear c16
                        by_cases c17 : 0 ≤ x13_3
                        · rw [if_pos c17] at H
                          have c17b0 : decide (0 ≤ x13_3) = true := decide_eq_true c17
                          clear c17
                          by_cases c18 : ((rd_T47 l2 x13_3).f4) = a1
                          · rw [if_pos c18] at H
                            have c18b0 : (((rd_T47 l2 x13_3).f4) == a1) = true := beq_iff_eq.mpr c18
                            have c18b1 : (((rd_T47 l2 x13_3).f4) != a1) = false := bne_eq_false_iff_eq.mpr c18
                            clear c18
                            by_cases c19 : x11_3 < 0
                            · rw [if_pos c19] at H
                              have c19b0 : decide (x11_3 < 0) = true := decide_eq_true c19
                              clear c19
                              have H' := Aside0.mk H
                              clear H
                              have p356 : 0 ≤ (x13_3 : Int) := of_decide_eq_true (by first | (with_reducible assumption) | assumption)
                              have q356 : x13_3 < (l2.length : Int) := of_decide_eq_true (by first | (with_reducible assumption) | assumption)
                              obtain ⟨ad356, A356_10, c356_10, A356_11, c356_11, e356, hx356_0, hx356_1, hx356_2, hx356_3, hx356_4, hx356_5, hx356_6, hx356_7, hx356_8, hx356_9, hx356_10, hx356_11, hl356_10, hi356_10, hl356_11, hi356_11⟩ := at_T47 HR2.out x13_3 p356 q356
                              cases e356
                              have HR356_10 := Aside0.mk hi356_10
                              have HC356_10 := Aside0.mk hl356_10
                              clear hi356_10 hl356_10
                              have HR356_11 := Aside0.mk hi356_11
                              have HC356_11 := Aside0.mk hl356_11
                              clear hi356_11 hl356_11
                              replace p356 := eq_true p356
                              replace q356 := eq_true q356
                              go_wp2
                              repeat (go_quiet (fail); try go_wp2)
                              go_roundg k3
                              case measure => have := HK1.out; have := HK2.out; have := HK3.out; omega
                              case rel => exact ⟨(x13_3), (wrap64 (x13_3 + 1)), (by first | rfl | (simp; done) | (simp [*]; done)), (by first | rfl | (simp; done) | (simp [*]; done)), H', ⟨by have := HK1.out; have := HK2.out; have := HK3.out; omega⟩, by repeat (first | exact Drawn0.refl _ | apply Drawn0.step)⟩
                            · rw [if_neg c19] at H
                              have c19b0 : decide (x11_3 < 0) = false := decide_eq_false c19
                              clear c19
                              replace H := Option.bind_eq_some_iff.mp H
                              obtain ⟨t358, A200, H⟩ := H
                              replace H : (if 0 ≤ x11_3 then (if x11_3 < (l2.length : Int) then ((gangsawref35_Mismatch.f k3 l0 ((rd_T47 l2 x11_3).f5)).bind fun t360 => (if t358 < t360 then (gangsawref35_Nearest.l2 k3 l0 a1 l2 x13_3 (wrap64 (x13_3 + 1))) else (gangsawref35_Nearest.l2 k3 l0 a1 l2 x11_3 (wrap64 (x13_3 + 1))))) else (none)) else (none)) = some (r1, r2) := H
                              have A20 := Aside0.mk A200
                              clear A200
                              by_cases c21 : 0 ≤ x11_3
                              · rw [if_pos c21] at H
                                have c21b0 : decide (0 ≤ x11_3) = true := decide_eq_true c21
                                clear c21
                                by_cases c22 : x11_3 < (l2.length : Int)
                                · rw [if_pos c22] at H
                                  have c22b0 : decide (x11_3 < (l2.length : Int)) = true := decide_eq_true c22
                                  clear c22
                                  replace H := Option.bind_eq_some_iff.mp H
                                  obtain ⟨t360, A230, H⟩ := H
                                  replace H : (if t358 < t360 then (gangsawref35_Nearest.l2 k3 l0 a1 l2 x13_3 (wrap64 (x13_3 + 1))) else (gangsawref35_Nearest.l2 k3 l0 a1 l2 x11_3 (wrap64 (x13_3 + 1)))) = some (r1, r2) := H
                                  have A23 := Aside0.mk A230
                                  clear A230
                                  by_cases c24 : t358 < t360
                                  · rw [if_pos c24] at H
                                    have c24b0 : decide (t358 < t360) = true := decide_eq_true c24
                                    clear c24
                                    have H' := Aside0.mk H
                                    clear H
                                    have p356 : 0 ≤ (x13_3 : Int) := of_decide_eq_true (by first | (with_reducible assumption) | assumption)
                                    have q356 : x13_3 < (l2.length : Int) := of_decide_eq_true (by first | (with_reducible assumption) | assumption)
                                    obtain ⟨ad356, A356_10, c356_10, A356_11, c356_11, e356, hx356_0, hx356_1, hx356_2, hx356_3, hx356_4, hx356_5, hx356_6, hx356_7, hx356_8, hx356_9, hx356_10, hx356_11, hl356_10, hi356_10, hl356_11, hi356_11⟩ := at_T47 HR2.out x13_3 p356 q356
                                    cases e356
                                    have HR356_10 := Aside0.mk hi356_10
                                    have HC356_10 := Aside0.mk hl356_10
                                    clear hi356_10 hl356_10
                                    have HR356_11 := Aside0.mk hi356_11
                                    have HC356_11 := Aside0.mk hl356_11
                                    clear hi356_11 hl356_11
                                    replace p356 := eq_true p356
                                    replace q356 := eq_true q356
                                    have p357 : 0 ≤ (x13_3 : Int) := of_decide_eq_true (by first | (with_reducible assumption) | assumption)
                                    have q357 : x13_3 < (l2.length : Int) := of_decide_eq_true (by first | (with_reducible assumption) | assumption)
                                    obtain ⟨ad357, A357_10, c357_10, A357_11, c357_11, e357, hx357_0, hx357_1, hx357_2, hx357_3, hx357_4, hx357_5, hx357_6, hx357_7, hx357_8, hx357_9, hx357_10, hx357_11, hl357_10, hi357_10, hl357_11, hi357_11⟩ := at_T47 HR2.out x13_3 p357 q357
                                    obtain rfl : ad356 = ad357 := (by injection e357)
                                    have HR357_10 := Aside0.mk hi357_10
                                    have HC357_10 := Aside0.mk hl357_10
                                    clear hi357_10 hl357_10
                                    have HR357_11 := Aside0.mk hi357_11
                                    have HC357_11 := Aside0.mk hl357_11
                                    clear hi357_11 hl357_11
                                    replace p357 := eq_true p357
                                    replace q357 := eq_true q357
                                    have ea_ := Option.some.inj (hx356_10.symm.trans hx357_10)
                                    injection ea_ with ea_ en_ ec_
                                    subst ea_
                                    subst ec_
                                    clear en_
                                    have ea_ := Option.some.inj (hx356_11.symm.trans hx357_11)
                                    injection ea_ with ea_ en_ ec_
                                    subst ea_
                                    subst ec_
                                    clear en_
                                    go_wp2_with (first | (go_at_call 23; (with_reducible refine (gangsawref35_Mismatch.calls k3 _ _ l0 _ _ ((rd_T47 l2 x13_3).f5) t358 _ ?side1 ?side2 ?side3 ?side4 A20.out).mono ?_); (case side1 => repeat (first | exact HR0.out | (with_reducible refine Kd.C_alloc ?_ _) | (with_reducible refine Kd.C_drewN ?_ _) | (with_reducible refine Kd.C_drew ?_))); (case side2 => exact HC0.out); (case side3 => repeat (first | exact HR357_10.out | (with_reducible refine Kd.C_alloc ?_ _) | (with_reducible refine Kd.C_drewN ?_ _) | (with_reducible refine Kd.C_drew ?_))); (case side4 => exact HC357_10.out); rintro e w' ⟨rfl, ⟨nd, rfl⟩⟩; (try first | exact ⟨rfl, _, World.drewN_drewN _ _ _⟩ | exact ⟨rfl, _, Eq.trans (World.drewN_drewN _ _ _) (congrArg (World.drewN _) (Nat.add_assoc _ _ _))⟩); have p359 : 0 ≤ (x11_3 : Int) := of_decide_eq_true (by first | (with_reducible assumption) | assumption); have q359 : x11_3 < (l2.length : Int) := of_decide_eq_true (by first | (with_reducible assumption) | assumption); obtain ⟨ad359, A359_10, c359_10, A359_11, c359_11, e359, hx359_0, hx359_1, hx359_2, hx359_3, hx359_4, hx359_5, hx359_6, hx359_7, hx359_8, hx359_9, hx359_10, hx359_11, hl359_10, hi359_10, hl359_11, hi359_11⟩ := at_T47 HR2.out x11_3 p359 q359; obtain rfl : ad356 = ad359 := (by injection e359); have HR359_10 := Aside0.mk hi359_10; have HC359_10 := Aside0.mk hl359_10; clear hi359_10 hl359_10; have HR359_11 := Aside0.mk hi359_11; have HC359_11 := Aside0.mk hl359_11; clear hi359_11 hl359_11; replace p359 := eq_true p359; replace q359 := eq_true q359) | (go_at_call 23; (with_reducible refine (gangsawref35_Mismatch.calls k3 _ _ l0 _ _ ((rd_T47 l2 x11_3).f5) t360 _ ?side1 ?side2 ?side3 ?side4 A23.out).mono ?_); (case side1 => repeat (first | exact HR0.out | (with_reducible refine Kd.C_alloc ?_ _) | (with_reducible refine Kd.C_drewN ?_ _) | (with_reducible refine Kd.C_drew ?_))); (case side2 => exact HC0.out); (case side3 => repeat (first | exact HR359_10.out | (with_reducible refine Kd.C_alloc ?_ _) | (with_reducible refine Kd.C_drewN ?_ _) | (with_reducible refine Kd.C_drew ?_))); (case side4 => exact HC359_10.out); rintro e w' ⟨rfl, ⟨nd, rfl⟩⟩; (try first | exact ⟨rfl, _, World.drewN_drewN _ _ _⟩ | exact ⟨rfl, _, Eq.trans (World.drewN_drewN _ _ _) (congrArg (World.drewN _) (Nat.add_assoc _ _ _))⟩)))
                                    repeat (go_quiet (first | (go_at_call 23; (with_reducible refine (gangsawref35_Mismatch.calls k3 _ _ l0 _ _ ((rd_T47 l2 x13_3).f5) t358 _ ?side1 ?side2 ?side3 ?side4 A20.out).mono ?_); (case side1 => repeat (first | exact HR0.out | (with_reducible refine Kd.C_alloc ?_ _) | (with_reducible refine Kd.C_drewN ?_ _) | (with_reducible refine Kd.C_drew ?_))); (case side2 => exact HC0.out); (case side3 => repeat (first | exact HR357_10.out | (with_reducible refine Kd.C_alloc ?_ _) | (with_reducible refine Kd.C_drewN ?_ _) | (with_reducible refine Kd.C_drew ?_))); (case side4 => exact HC357_10.out); rintro e w' ⟨rfl, ⟨nd, rfl⟩⟩; (try first | exact ⟨rfl, _, World.drewN_drewN _ _ _⟩ | exact ⟨rfl, _, Eq.trans (World.drewN_drewN _ _ _) (congrArg (World.drewN _) (Nat.add_assoc _ _ _))⟩); have p359 : 0 ≤ (x11_3 : Int) := of_decide_eq_true (by first | (with_reducible assumption) | assumption); have q359 : x11_3 < (l2.length : Int) := of_decide_eq_true (by first | (with_reducible assumption) | assumption); obtain ⟨ad359, A359_10, c359_10, A359_11, c359_11, e359, hx359_0, hx359_1, hx359_2, hx359_3, hx359_4, hx359_5, hx359_6, hx359_7, hx359_8, hx359_9, hx359_10, hx359_11, hl359_10, hi359_10, hl359_11, hi359_11⟩ := at_T47 HR2.out x11_3 p359 q359; obtain rfl : ad356 = ad359 := (by injection e359); have HR359_10 := Aside0.mk hi359_10; have HC359_10 := Aside0.mk hl359_10; clear hi359_10 hl359_10; have HR359_11 := Aside0.mk hi359_11; have HC359_11 := Aside0.mk hl359_11; clear hi359_11 hl359_11; replace p359 := eq_true p359; replace q359 := eq_true q359) | (go_at_call 23; (with_reducible refine (gangsawref35_Mismatch.calls k3 _ _ l0 _ _ ((rd_T47 l2 x11_3).f5) t360 _ ?side1 ?side2 ?side3 ?side4 A23.out).mono ?_); (case side1 => repeat (first | exact HR0.out | (with_reducible refine Kd.C_alloc ?_ _) | (with_reducible refine Kd.C_drewN ?_ _) | (with_reducible refine Kd.C_drew ?_))); (case side2 => exact HC0.out); (case side3 => repeat (first | exact HR359_10.out | (with_reducible refine Kd.C_alloc ?_ _) | (with_reducible refine Kd.C_drewN ?_ _) | (with_reducible refine Kd.C_drew ?_))); (case side4 => exact HC359_10.out); rintro e w' ⟨rfl, ⟨nd, rfl⟩⟩; (try first | exact ⟨rfl, _, World.drewN_drewN _ _ _⟩ | exact ⟨rfl, _, Eq.trans (World.drewN_drewN _ _ _) (congrArg (World.drewN _) (Nat.add_assoc _ _ _))⟩))); try go_wp2_with (first | (go_at_call 23; (with_reducible refine (gangsawref35_Mismatch.calls k3 _ _ l0 _ _ ((rd_T47 l2 x13_3).f5) t358 _ ?side1 ?side2 ?side3 ?side4 A20.out).mono ?_); (case side1 => repeat (first | exact HR0.out | (with_reducible refine Kd.C_alloc ?_ _) | (with_reducible refine Kd.C_drewN ?_ _) | (with_reducible refine Kd.C_drew ?_))); (case side2 => exact HC0.out); (case side3 => repeat (first | exact HR357_10.out | (with_reducible refine Kd.C_alloc ?_ _) | (with_reducible refine Kd.C_drewN ?_ _) | (with_reducible refine Kd.C_drew ?_))); (case side4 => exact HC357_10.out); rintro e w' ⟨rfl, ⟨nd, rfl⟩⟩; (try first | exact ⟨rfl, _, World.drewN_drewN _ _ _⟩ | exact ⟨rfl, _, Eq.trans (World.drewN_drewN _ _ _) (congrArg (World.drewN _) (Nat.add_assoc _ _ _))⟩); have p359 : 0 ≤ (x11_3 : Int) := of_decide_eq_true (by first | (with_reducible assumption) | assumption); have q359 : x11_3 < (l2.length : Int) := of_decide_eq_true (by first | (with_reducible assumption) | assumption); obtain ⟨ad359, A359_10, c359_10, A359_11, c359_11, e359, hx359_0, hx359_1, hx359_2, hx359_3, hx359_4, hx359_5, hx359_6, hx359_7, hx359_8, hx359_9, hx359_10, hx359_11, hl359_10, hi359_10, hl359_11, hi359_11⟩ := at_T47 HR2.out x11_3 p359 q359; obtain rfl : ad356 = ad359 := (by injection e359); have HR359_10 := Aside0.mk hi359_10; have HC359_10 := Aside0.mk hl359_10; clear hi359_10 hl359_10; have HR359_11 := Aside0.mk hi359_11; have HC359_11 := Aside0.mk hl359_11; clear hi359_11 hl359_11; replace p359 := eq_true p359; replace q359 := eq_true q359) | (go_at_call 23; (with_reducible refine (gangsawref35_Mismatch.calls k3 _ _ l0 _ _ ((rd_T47 l2 x11_3).f5) t360 _ ?side1 ?side2 ?side3 ?side4 A23.out).mono ?_); (case side1 => repeat (first | exact HR0.out | (with_reducible refine Kd.C_alloc ?_ _) | (with_reducible refine Kd.C_drewN ?_ _) | (with_reducible refine Kd.C_drew ?_))); (case side2 => exact HC0.out); (case side3 => repeat (first | exact HR359_10.out | (with_reducible refine Kd.C_alloc ?_ _) | (with_reducible refine Kd.C_drewN ?_ _) | (with_reducible refine Kd.C_drew ?_))); (case side4 => exact HC359_10.out); rintro e w' ⟨rfl, ⟨nd, rfl⟩⟩; (try first | exact ⟨rfl, _, World.drewN_drewN _ _ _⟩ | exact ⟨rfl, _, Eq.trans (World.drewN_drewN _ _ _) (congrArg (World.drewN _) (Nat.add_assoc _ _ _))⟩))))
                                    go_roundg k3
                                    case measure => have := HK1.out; have := HK2.out; have := HK3.out; omega
                                    case rel => exact ⟨(x13_3), (wrap64 (x13_3 + 1)), (by first | rfl | (simp; done) | (simp [*]; done)), (by first | rfl | (simp; done) | (simp [*]; done)), H', ⟨by have := HK1.out; have := HK2.out; have := HK3.out; omega⟩, by repeat (first | exact Drawn0.refl _ | apply Drawn0.step)⟩
                                  · rw [if_neg c24] at H
                                    have c24b0 : decide (t358 < t360) = false := decide_eq_false c24
                                    clear c24
                                    have H' := Aside0.mk H
                                    clear H
                                    have p356 : 0 ≤ (x13_3 : Int) := of_decide_eq_true (by first | (with_reducible assumption) | assumption)
                                    have q356 : x13_3 < (l2.length : Int) := of_decide_eq_true (by first | (with_reducible assumption) | assumption)
                                    obtain ⟨ad356, A356_10, c356_10, A356_11, c356_11, e356, hx356_0, hx356_1, hx356_2, hx356_3, hx356_4, hx356_5, hx356_6, hx356_7, hx356_8, hx356_9, hx356_10, hx356_11, hl356_10, hi356_10, hl356_11, hi356_11⟩ := at_T47 HR2.out x13_3 p356 q356
                                    cases e356
                                    have HR356_10 := Aside0.mk hi356_10
                                    have HC356_10 := Aside0.mk hl356_10
                                    clear hi356_10 hl356_10
                                    have HR356_11 := Aside0.mk hi356_11
                                    have HC356_11 := Aside0.mk hl356_11
                                    clear hi356_11 hl356_11
                                    replace p356 := eq_true p356
                                    replace q356 := eq_true q356
                                    have p357 : 0 ≤ (x13_3 : Int) := of_decide_eq_true (by first | (with_reducible assumption) | assumption)
                                    have q357 : x13_3 < (l2.length : Int) := of_decide_eq_true (by first | (with_reducible assumption) | assumption)
                                    obtain ⟨ad357, A357_10, c357_10, A357_11, c357_11, e357, hx357_0, hx357_1, hx357_2, hx357_3, hx357_4, hx357_5, hx357_6, hx357_7, hx357_8, hx357_9, hx357_10, hx357_11, hl357_10, hi357_10, hl357_11, hi357_11⟩ := at_T47 HR2.out x13_3 p357 q357
                                    obtain rfl : ad356 = ad357 := (by injection e357)
                                    have HR357_10 := Aside0.mk hi357_10
                                    have HC357_10 := Aside0.mk hl357_10
                                    clear hi357_10 hl357_10
                                    have HR357_11 := Aside0.mk hi357_11
                                    have HC357_11 := Aside0.mk hl357_11
                                    clear hi357_11 hl357_11
                                    replace p357 := eq_true p357
                                    replace q357 := eq_true q357
                                    have ea_ := Option.some.inj (hx356_10.symm.trans hx357_10)
                                    injection ea_ with ea_ en_ ec_
                                    subst ea_
                                    subst ec_
                                    clear en_
                                    have ea_ := Option.some.inj (hx356_11.symm.trans hx357_11)
                                    injection ea_ with ea_ en_ ec_
                                    subst ea_
                                    subst ec_
                                    clear en_
                                    go_wp2_with (first | (go_at_call 23; (with_reducible refine (gangsawref35_Mismatch.calls k3 _ _ l0 _ _ ((rd_T47 l2 x13_3).f5) t358 _ ?side1 ?side2 ?side3 ?side4 A20.out).mono ?_); (case side1 => repeat (first | exact HR0.out | (with_reducible refine Kd.C_alloc ?_ _) | (with_reducible refine Kd.C_drewN ?_ _) | (with_reducible refine Kd.C_drew ?_))); (case side2 => exact HC0.out); (case side3 => repeat (first | exact HR357_10.out | (with_reducible refine Kd.C_alloc ?_ _) | (with_reducible refine Kd.C_drewN ?_ _) | (with_reducible refine Kd.C_drew ?_))); (case side4 => exact HC357_10.out); rintro e w' ⟨rfl, ⟨nd, rfl⟩⟩; (try first | exact ⟨rfl, _, World.drewN_drewN _ _ _⟩ | exact ⟨rfl, _, Eq.trans (World.drewN_drewN _ _ _) (congrArg (World.drewN _) (Nat.add_assoc _ _ _))⟩); have p359 : 0 ≤ (x11_3 : Int) := of_decide_eq_true (by first | (with_reducible assumption) | assumption); have q359 : x11_3 < (l2.length : Int) := of_decide_eq_true (by first | (with_reducible assumption) | assumption); obtain ⟨ad359, A359_10, c359_10, A359_11, c359_11, e359, hx359_0, hx359_1, hx359_2, hx359_3, hx359_4, hx359_5, hx359_6, hx359_7, hx359_8, hx359_9, hx359_10, hx359_11, hl359_10, hi359_10, hl359_11, hi359_11⟩ := at_T47 HR2.out x11_3 p359 q359; obtain rfl : ad356 = ad359 := (by injection e359); have HR359_10 := Aside0.mk hi359_10; have HC359_10 := Aside0.mk hl359_10; clear hi359_10 hl359_10; have HR359_11 := Aside0.mk hi359_11; have HC359_11 := Aside0.mk hl359_11; clear hi359_11 hl359_11; replace p359 := eq_true p359; replace q359 := eq_true q359) | (go_at_call 23; (with_reducible refine (gangsawref35_Mismatch.calls k3 _ _ l0 _ _ ((rd_T47 l2 x11_3).f5) t360 _ ?side1 ?side2 ?side3 ?side4 A23.out).mono ?_); (case side1 => repeat (first | exact HR0.out | (with_reducible refine Kd.C_alloc ?_ _) | (with_reducible refine Kd.C_drewN ?_ _) | (with_reducible refine Kd.C_drew ?_))); (case side2 => exact HC0.out); (case side3 => repeat (first | exact HR359_10.out | (with_reducible refine Kd.C_alloc ?_ _) | (with_reducible refine Kd.C_drewN ?_ _) | (with_reducible refine Kd.C_drew ?_))); (case side4 => exact HC359_10.out); rintro e w' ⟨rfl, ⟨nd, rfl⟩⟩; (try first | exact ⟨rfl, _, World.drewN_drewN _ _ _⟩ | exact ⟨rfl, _, Eq.trans (World.drewN_drewN _ _ _) (congrArg (World.drewN _) (Nat.add_assoc _ _ _))⟩)))
                                    repeat (go_quiet (first | (go_at_call 23; (with_reducible refine (gangsawref35_Mismatch.calls k3 _ _ l0 _ _ ((rd_T47 l2 x13_3).f5) t358 _ ?side1 ?side2 ?side3 ?side4 A20.out).mono ?_); (case side1 => repeat (first | exact HR0.out | (with_reducible refine Kd.C_alloc ?_ _) | (with_reducible refine Kd.C_drewN ?_ _) | (with_reducible refine Kd.C_drew ?_))); (case side2 => exact HC0.out); (case side3 => repeat (first | exact HR357_10.out | (with_reducible refine Kd.C_alloc ?_ _) | (with_reducible refine Kd.C_drewN ?_ _) | (with_reducible refine Kd.C_drew ?_))); (case side4 => exact HC357_10.out); rintro e w' ⟨rfl, ⟨nd, rfl⟩⟩; (try first | exact ⟨rfl, _, World.drewN_drewN _ _ _⟩ | exact ⟨rfl, _, Eq.trans (World.drewN_drewN _ _ _) (congrArg (World.drewN _) (Nat.add_assoc _ _ _))⟩); have p359 : 0 ≤ (x11_3 : Int) := of_decide_eq_true (by first | (with_reducible assumption) | assumption); have q359 : x11_3 < (l2.length : Int) := of_decide_eq_true (by first | (with_reducible assumption) | assumption); obtain ⟨ad359, A359_10, c359_10, A359_11, c359_11, e359, hx359_0, hx359_1, hx359_2, hx359_3, hx359_4, hx359_5, hx359_6, hx359_7, hx359_8, hx359_9, hx359_10, hx359_11, hl359_10, hi359_10, hl359_11, hi359_11⟩ := at_T47 HR2.out x11_3 p359 q359; obtain rfl : ad356 = ad359 := (by injection e359); have HR359_10 := Aside0.mk hi359_10; have HC359_10 := Aside0.mk hl359_10; clear hi359_10 hl359_10; have HR359_11 := Aside0.mk hi359_11; have HC359_11 := Aside0.mk hl359_11; clear hi359_11 hl359_11; replace p359 := eq_true p359; replace q359 := eq_true q359) | (go_at_call 23; (with_reducible refine (gangsawref35_Mismatch.calls k3 _ _ l0 _ _ ((rd_T47 l2 x11_3).f5) t360 _ ?side1 ?side2 ?side3 ?side4 A23.out).mono ?_); (case side1 => repeat (first | exact HR0.out | (with_reducible refine Kd.C_alloc ?_ _) | (with_reducible refine Kd.C_drewN ?_ _) | (with_reducible refine Kd.C_drew ?_))); (case side2 => exact HC0.out); (case side3 => repeat (first | exact HR359_10.out | (with_reducible refine Kd.C_alloc ?_ _) | (with_reducible refine Kd.C_drewN ?_ _) | (with_reducible refine Kd.C_drew ?_))); (case side4 => exact HC359_10.out); rintro e w' ⟨rfl, ⟨nd, rfl⟩⟩; (try first | exact ⟨rfl, _, World.drewN_drewN _ _ _⟩ | exact ⟨rfl, _, Eq.trans (World.drewN_drewN _ _ _) (congrArg (World.drewN _) (Nat.add_assoc _ _ _))⟩))); try go_wp2_with (first | (go_at_call 23; (with_reducible refine (gangsawref35_Mismatch.calls k3 _ _ l0 _ _ ((rd_T47 l2 x13_3).f5) t358 _ ?side1 ?side2 ?side3 ?side4 A20.out).mono ?_); (case side1 => repeat (first | exact HR0.out | (with_reducible refine Kd.C_alloc ?_ _) | (with_reducible refine Kd.C_drewN ?_ _) | (with_reducible refine Kd.C_drew ?_))); (case side2 => exact HC0.out); (case side3 => repeat (first | exact HR357_10.out | (with_reducible refine Kd.C_alloc ?_ _) | (with_reducible refine Kd.C_drewN ?_ _) | (with_reducible refine Kd.C_drew ?_))); (case side4 => exact HC357_10.out); rintro e w' ⟨rfl, ⟨nd, rfl⟩⟩; (try first | exact ⟨rfl, _, World.drewN_drewN _ _ _⟩ | exact ⟨rfl, _, Eq.trans (World.drewN_drewN _ _ _) (congrArg (World.drewN _) (Nat.add_assoc _ _ _))⟩); have p359 : 0 ≤ (x11_3 : Int) := of_decide_eq_true (by first | (with_reducible assumption) | assumption); have q359 : x11_3 < (l2.length : Int) := of_decide_eq_true (by first | (with_reducible assumption) | assumption); obtain ⟨ad359, A359_10, c359_10, A359_11, c359_11, e359, hx359_0, hx359_1, hx359_2, hx359_3, hx359_4, hx359_5, hx359_6, hx359_7, hx359_8, hx359_9, hx359_10, hx359_11, hl359_10, hi359_10, hl359_11, hi359_11⟩ := at_T47 HR2.out x11_3 p359 q359; obtain rfl : ad356 = ad359 := (by injection e359); have HR359_10 := Aside0.mk hi359_10; have HC359_10 := Aside0.mk hl359_10; clear hi359_10 hl359_10; have HR359_11 := Aside0.mk hi359_11; have HC359_11 := Aside0.mk hl359_11; clear hi359_11 hl359_11; replace p359 := eq_true p359; replace q359 := eq_true q359) | (go_at_call 23; (with_reducible refine (gangsawref35_Mismatch.calls k3 _ _ l0 _ _ ((rd_T47 l2 x11_3).f5) t360 _ ?side1 ?side2 ?side3 ?side4 A23.out).mono ?_); (case side1 => repeat (first | exact HR0.out | (with_reducible refine Kd.C_alloc ?_ _) | (with_reducible refine Kd.C_drewN ?_ _) | (with_reducible refine Kd.C_drew ?_))); (case side2 => exact HC0.out); (case side3 => repeat (first | exact HR359_10.out | (with_reducible refine Kd.C_alloc ?_ _) | (with_reducible refine Kd.C_drewN ?_ _) | (with_reducible refine Kd.C_drew ?_))); (case side4 => exact HC359_10.out); rintro e w' ⟨rfl, ⟨nd, rfl⟩⟩; (try first | exact ⟨rfl, _, World.drewN_drewN _ _ _⟩ | exact ⟨rfl, _, Eq.trans (World.drewN_drewN _ _ _) (congrArg (World.drewN _) (Nat.add_assoc _ _ _))⟩))))
                                    go_roundg k3
                                    case measure => have := HK1.out; have := HK2.out; have := HK3.out; omega
                                    case rel => exact ⟨(x11_3), (wrap64 (x13_3 + 1)), (by first | rfl | (simp; done) | (simp [*]; done)), (by first | rfl | (simp; done) | (simp [*]; done)), H', ⟨by have := HK1.out; have := HK2.out; have := HK3.out; omega⟩, by repeat (first | exact Drawn0.refl _ | apply Drawn0.step)⟩
                                · rw [if_neg c22] at H
                                  exact absurd H (by simp)
                              · rw [if_neg c21] at H
                                exact absurd H (by simp)
                          · rw [if_neg c18] at H
                            have c18b0 : (((rd_T47 l2 x13_3).f4) == a1) = false := beq_eq_false_iff_ne.mpr c18
                            have c18b1 : (((rd_T47 l2 x13_3).f4) != a1) = true := bne_iff_ne.mpr c18
                            have H' := Aside0.mk H
                            clear H
                            have p356 : 0 ≤ (x13_3 : Int) := of_decide_eq_true (by first | (with_reducible assumption) | assumption)
                            have q356 : x13_3 < (l2.length : Int) := of_decide_eq_true (by first | (with_reducible assumption) | assumption)
                            obtain ⟨ad356, A356_10, c356_10, A356_11, c356_11, e356, hx356_0, hx356_1, hx356_2, hx356_3, hx356_4, hx356_5, hx356_6, hx356_7, hx356_8, hx356_9, hx356_10, hx356_11, hl356_10, hi356_10, hl356_11, hi356_11⟩ := at_T47 HR2.out x13_3 p356 q356
                            cases e356
                            have HR356_10 := Aside0.mk hi356_10
                            have HC356_10 := Aside0.mk hl356_10
                            clear hi356_10 hl356_10
                            have HR356_11 := Aside0.mk hi356_11
                            have HC356_11 := Aside0.mk hl356_11
                            clear hi356_11 hl356_11
                            replace p356 := eq_true p356
                            replace q356 := eq_true q356
                            go_wp2
                            repeat (go_quiet (fail); try go_wp2)
                            go_roundg k3
                            case measure => have := HK1.out; have := HK2.out; have := HK3.out; omega
                            case rel => exact ⟨(x11_3), (wrap64 (x13_3 + 1)), (by first | rfl | (simp; done) | (simp [*]; done)), (by first | rfl | (simp; done) | (simp [*]; done)), H', ⟨by have := HK1.out; have := HK2.out; have := HK3.out; omega⟩, by repeat (first | exact Drawn0.refl _ | apply Drawn0.step)⟩
                        · rw [if_neg c17] at H
                          exact absurd H (by simp)
                      · rw [if_neg c16] at H
                        have c16b0 : decide (x13_3 < (l2.length : Int)) = false := decide_eq_false c16
                        clear c16
                        by_cases c25 : x11_3 < 0
                        · rw [if_pos c25] at H
                          have c25b0 : decide (x11_3 < 0) = true := decide_eq_true c25
                          clear c25
                          simp only [Option.some.injEq, Prod.mk.injEq] at H
                          obtain ⟨rfl, rfl⟩ := H
                          go_wp2
                          repeat (go_quiet (fail); try go_wp2)
                          go_ret2
                          exact ⟨by first | rfl | (simp; done) | (simp [*]; done), by repeat (first | exact Drawn0.refl _ | apply Drawn0.step)⟩
                        · rw [if_neg c25] at H
                          have c25b0 : decide (x11_3 < 0) = false := decide_eq_false c25
                          clear c25
                          simp only [Option.some.injEq, Prod.mk.injEq] at H
                          obtain ⟨rfl, rfl⟩ := H
                          go_wp2
                          repeat (go_quiet (fail); try go_wp2)
                          go_ret2
                          exact ⟨by first | rfl | (simp; done) | (simp [*]; done), by repeat (first | exact Drawn0.refl _ | apply Drawn0.step)⟩
    · rw [if_neg c6] at H
      have c6b0 : (t350 == 0) = false := beq_eq_false_iff_ne.mpr c6
      have c6b1 : (t350 != 0) = true := bne_iff_ne.mpr c6
      simp only [Option.some.injEq, Prod.mk.injEq] at H
      obtain ⟨rfl, rfl⟩ := H
      go_enter Try.func32, Try.ntmps32
      go_wp2_with (first | (go_at_call 13; (with_reducible refine (gangsawref35_Check.calls k _ _ l0 t350 _ ?side1 ?side2 A5.out).mono ?_); (case side1 => repeat (first | exact HR0.out | (with_reducible refine Kd.C_alloc ?_ _) | (with_reducible refine Kd.C_drewN ?_ _) | (with_reducible refine Kd.C_drew ?_))); (case side2 => exact HC0.out); rintro e w' ⟨rfl, ⟨nd, rfl⟩⟩; (try first | exact ⟨rfl, _, World.drewN_drewN _ _ _⟩ | exact ⟨rfl, _, Eq.trans (World.drewN_drewN _ _ _) (congrArg (World.drewN _) (Nat.add_assoc _ _ _))⟩)))
      repeat (go_quiet (first | (go_at_call 13; (with_reducible refine (gangsawref35_Check.calls k _ _ l0 t350 _ ?side1 ?side2 A5.out).mono ?_); (case side1 => repeat (first | exact HR0.out | (with_reducible refine Kd.C_alloc ?_ _) | (with_reducible refine Kd.C_drewN ?_ _) | (with_reducible refine Kd.C_drew ?_))); (case side2 => exact HC0.out); rintro e w' ⟨rfl, ⟨nd, rfl⟩⟩; (try first | exact ⟨rfl, _, World.drewN_drewN _ _ _⟩ | exact ⟨rfl, _, Eq.trans (World.drewN_drewN _ _ _) (congrArg (World.drewN _) (Nat.add_assoc _ _ _))⟩))); try go_wp2_with (first | (go_at_call 13; (with_reducible refine (gangsawref35_Check.calls k _ _ l0 t350 _ ?side1 ?side2 A5.out).mono ?_); (case side1 => repeat (first | exact HR0.out | (with_reducible refine Kd.C_alloc ?_ _) | (with_reducible refine Kd.C_drewN ?_ _) | (with_reducible refine Kd.C_drew ?_))); (case side2 => exact HC0.out); rintro e w' ⟨rfl, ⟨nd, rfl⟩⟩; (try first | exact ⟨rfl, _, World.drewN_drewN _ _ _⟩ | exact ⟨rfl, _, Eq.trans (World.drewN_drewN _ _ _) (congrArg (World.drewN _) (Nat.add_assoc _ _ _))⟩))))
      go_ret2
      exact ⟨by first | rfl | (simp; done) | (simp [*]; done), by repeat (first | exact Drawn0.refl _ | apply Drawn0.step)⟩

end Go.Proofs.Ytejnelflfldfgaa.XA
