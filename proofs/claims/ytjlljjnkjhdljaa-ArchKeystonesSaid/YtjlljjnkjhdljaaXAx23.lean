-- written by xprint.py, this project's own program (wip/), over the words of print.sh
import Derived.Test.YtjlljjnkjhdljaaXAx0
namespace Go.Proofs.Ytjlljjnkjhdljaa.XA
open Go.RowKit Go.Proofs.Ytjlljjnkjhdljaa.Opens Go.Proofs.YtjlljjnkjhdljaaW.PrintWords Go.Proofs.YtjlljjnkjhdljaaW.PrintLast Go.Proofs.YtjlljjnkjhdljaaW.PrintMore
attribute [local go_sem] max2_int min2_int max_two min_two max_three min_three max_four min_four cell_some cell_same   -- for this text's walks alone
set_option linter.unusedVariables false
set_option linter.unusedSimpArgs false

/-! ### gangsawref40_Keystone: function 16 -/
mutual
def gangsawref40_Keystone.l0 : Nat → List (List (S46)) → Int → Int → Int → Int → Option (Int)
  | 0, _, _, _, _, _ => none
  | k + 1, x0, x3, x4, x5, x6 => if x6 < (x0.length : Int) then (if 0 ≤ x6 then (if 0 < ((rd_L2 x0 x6).length : Int) then (if 1 < ((rd_L2 x0 x6).length : Int) then (if x4 < 0 then (gangsawref40_Keystone.j1 k x0 x3 x4 x5 x6 (wrap64 (((rd_T46 (rd_L2 x0 x6) 0).f1) + ((rd_T46 (rd_L2 x0 x6) 1).f1))) true) else (gangsawref40_Keystone.j1 k x0 x3 x4 x5 x6 (wrap64 (((rd_T46 (rd_L2 x0 x6) 0).f1) + ((rd_T46 (rd_L2 x0 x6) 1).f1))) (decide ((wrap64 (((rd_T46 (rd_L2 x0 x6) 0).f1) + ((rd_T46 (rd_L2 x0 x6) 1).f1))) > x3)))) else (none)) else (none)) else (none)) else (if x5 = 1 then (some x4) else (some (-1)))
def gangsawref40_Keystone.j1 : Nat → List (List (S46)) → Int → Int → Int → Int → Int → Bool → Option (Int)
  | 0, _, _, _, _, _, _, _ => none
  | k + 1, x0, x3, x4, x5, x6, x7, x35 => if x35 = true then (if x7 = x7 then (gangsawref40_Keystone.l0 k x0 x7 x6 (0 + 1) (wrap64 (x6 + 1))) else (gangsawref40_Keystone.l0 k x0 x7 x6 0 (wrap64 (x6 + 1)))) else (if x7 = x3 then (gangsawref40_Keystone.l0 k x0 x3 x4 (wrap64 (x5 + 1)) (wrap64 (x6 + 1))) else (gangsawref40_Keystone.l0 k x0 x3 x4 x5 (wrap64 (x6 + 1))))
end
def gangsawref40_Keystone.f (k : Nat) (l0 : List (List (S46))) : Option (Int) := gangsawref40_Keystone.l0 k l0 0 (-1) 0 0
theorem gangsawref40_Keystone.mono_l : ∀ k, (∀ y0 y1 y2 y3 y4, LeO (gangsawref40_Keystone.l0 k y0 y1 y2 y3 y4) (gangsawref40_Keystone.l0 (k + 1) y0 y1 y2 y3 y4)) ∧ (∀ y0 y1 y2 y3 y4 y5 y6, LeO (gangsawref40_Keystone.j1 k y0 y1 y2 y3 y4 y5 y6) (gangsawref40_Keystone.j1 (k + 1) y0 y1 y2 y3 y4 y5 y6))
  | 0 => ⟨fun _ _ _ _ _ r h => by simp [gangsawref40_Keystone.l0] at h, fun _ _ _ _ _ _ _ r h => by simp [gangsawref40_Keystone.j1] at h⟩
  | k + 1 => by
    obtain ⟨ih0, ih1⟩ := gangsawref40_Keystone.mono_l k
    refine ⟨?_, ?_⟩
    · intro y0 y1 y2 y3 y4
      unfold gangsawref40_Keystone.l0
      repeat' first
      | (with_reducible exact ih0 _ _ _ _ _)
      | (with_reducible exact ih1 _ _ _ _ _ _ _)
      | (with_reducible exact LeO.refl _)
      | (with_reducible exact LeO.none _)
      | (with_reducible refine LeO.ite ?_ ?_)
      | (with_reducible refine LeO.bind ?_ (fun _ => ?_))
      | exact ih0 _ _ _ _ _
      | exact ih1 _ _ _ _ _ _ _
      | exact LeO.none _
      | refine LeO.ite ?_ ?_
      | refine LeO.bind ?_ (fun _ => ?_)
    · intro y0 y1 y2 y3 y4 y5 y6
      unfold gangsawref40_Keystone.j1
      repeat' first
      | (with_reducible exact ih0 _ _ _ _ _)
      | (with_reducible exact ih1 _ _ _ _ _ _ _)
      | (with_reducible exact LeO.refl _)
      | (with_reducible exact LeO.none _)
      | (with_reducible refine LeO.ite ?_ ?_)
      | (with_reducible refine LeO.bind ?_ (fun _ => ?_))
      | exact ih0 _ _ _ _ _
      | exact ih1 _ _ _ _ _ _ _
      | exact LeO.none _
      | refine LeO.ite ?_ ?_
      | refine LeO.bind ?_ (fun _ => ?_)
theorem gangsawref40_Keystone.mono : ∀ a0 k, LeO (gangsawref40_Keystone.f k a0) (gangsawref40_Keystone.f (k + 1) a0) := by
  intro a0 k
  obtain ⟨ih0, ih1⟩ := gangsawref40_Keystone.mono_l k
  unfold gangsawref40_Keystone.f
  repeat' first
      | (with_reducible exact ih0 _ _ _ _ _)
      | (with_reducible exact ih1 _ _ _ _ _ _ _)
      | (with_reducible exact LeO.refl _)
      | (with_reducible exact LeO.none _)
      | (with_reducible refine LeO.ite ?_ ?_)
      | (with_reducible refine LeO.bind ?_ (fun _ => ?_))
      | exact ih0 _ _ _ _ _
      | exact ih1 _ _ _ _ _ _ _
      | exact LeO.none _
      | refine LeO.ite ?_ ?_
      | refine LeO.bind ?_ (fun _ => ?_)
set_option maxHeartbeats 8000000 in
set_option maxRecDepth 100000 in
theorem gangsawref40_Keystone.calls (k : Nat) (A0 : Option Addr) (c0 : Nat) (l0 : List (List (S46))) (r : Int) (w : World) (hr0 : Kd.C (Kd.slice 46 k46) w A0 l0.length l0) (hc0 : l0.length ≤ c0) (h : gangsawref40_Keystone.f k l0 = some r) :
    Calls Try.prog 16 #[.slice A0 l0.length c0] w fun e w' => e = .returned (.int .i64 r) ∧ Drawn0 w w' := by
  have HR0 := Aside0.mk hr0
  have HC0 := Aside0.mk hc0
  clear hr0 hc0
  have H : (gangsawref40_Keystone.l0 k l0 0 (-1) 0 0) = some r := h
  clear h
  have H' := Aside0.mk H
  clear H
  go_enter Try.func16, Try.ntmps16
  go_wp2
  repeat (go_quiet (fail); try go_wp2)
  go_loopg [3, 4, 5, 6] k (fun kq v3 v4 v5 v6 w' => ∃ (x3_1 : Int) (x4_1 : Int) (x5_1 : Int) (x6_1 : Int), v3 = .int .i64 x3_1 ∧ v4 = .int .i64 x4_1 ∧ v5 = .int .i64 x5_1 ∧ v6 = .int .i64 x6_1 ∧ Aside0 (gangsawref40_Keystone.l0 kq l0 x3_1 x4_1 x5_1 x6_1 = some r) ∧ Aside0 (kq ≤ k) ∧ Drawn0 w w')
  case atStart => exact ⟨(0), ((-1)), (0), (0), (by first | rfl | (simp; done) | (simp [*]; done)), (by first | rfl | (simp; done) | (simp [*]; done)), (by first | rfl | (simp; done) | (simp [*]; done)), (by first | rfl | (simp; done) | (simp [*]; done)), H', ⟨Nat.le_refl _⟩, by repeat (first | exact Drawn0.refl _ | apply Drawn0.step)⟩
  case round =>
    clear H'
    try clear c1
    obtain ⟨x3_1, x4_1, x5_1, x6_1, rfl, rfl, rfl, rfl, HA, HK1, ⟨m1, rfl⟩⟩ := hrel
    cases gk with
    | zero => exact absurd HA.out (by simp [gangsawref40_Keystone.l0])
    | succ k1 =>
      have H := HA.out
      clear HA
      simp only [gangsawref40_Keystone.l0] at H
      by_cases c2 : x6_1 < (l0.length : Int)
      · rw [if_pos c2] at H
        have c2b0 : decide (x6_1 < (l0.length : Int)) = true := decide_eq_true c2
        clear c2
        by_cases c3 : 0 ≤ x6_1
        · rw [if_pos c3] at H
          have c3b0 : decide (0 ≤ x6_1) = true := decide_eq_true c3
          clear c3
          by_cases c4 : 0 < ((rd_L2 l0 x6_1).length : Int)
          · rw [if_pos c4] at H
            have c4b0 : decide (0 < ((rd_L2 l0 x6_1).length : Int)) = true := decide_eq_true c4
            have c4b1 : decide (0 < (rd_L2 l0 x6_1).length) = true := decide_eq_true (by omega)
            clear c4
            by_cases c5 : 1 < ((rd_L2 l0 x6_1).length : Int)
            · rw [if_pos c5] at H
              have c5b0 : decide (1 < ((rd_L2 l0 x6_1).length : Int)) = true := decide_eq_true c5
              have c5b1 : decide (1 < (rd_L2 l0 x6_1).length) = true := decide_eq_true (by omega)
              clear c5
              have HC6 := Aside0.mk H
              clear H
              have p327 : 0 ≤ (x6_1 : Int) := of_decide_eq_true (by first | (with_reducible assumption) | assumption)
              have q327 : x6_1 < (l0.length : Int) := of_decide_eq_true (by first | (with_reducible assumption) | assumption)
              obtain ⟨ad327, A327_0, c327_0, e327, hx327_0, hl327_0, hi327_0⟩ := at_L2 HR0.out x6_1 p327 q327
              cases e327
              have HR327_0 := Aside0.mk hi327_0
              have HC327_0 := Aside0.mk hl327_0
              clear hi327_0 hl327_0
              replace p327 := eq_true p327
              replace q327 := eq_true q327
              have p328 : 0 ≤ (0 : Int) := (by omega)
              have q328 : 0 < ((rd_L2 l0 x6_1).length : Int) := of_decide_eq_true (by first | (with_reducible assumption) | assumption)
              obtain ⟨ad328, e328, hx328_0, hx328_1⟩ := at_T46 HR327_0.out 0 p328 q328
              cases e328
              have qi328 : (0 < (rd_L2 l0 x6_1).length) = True := eq_true (by omega)
              (try rw [show ((0 : Int)).toNat = 0 from rfl] at hx328_0)
              (try rw [show 0 * 2 = 0 from rfl] at hx328_0)
              (try rw [Addr.add_zero'] at hx328_0)
              (try rw [show ((0 : Int)).toNat = 0 from rfl] at hx328_1)
              (try rw [show 0 * 2 = 0 from rfl] at hx328_1)
              (try rw [Addr.add_zero'] at hx328_1)
              replace p328 := eq_true p328
              replace q328 := eq_true q328
              have p329 : 0 ≤ (x6_1 : Int) := of_decide_eq_true (by first | (with_reducible assumption) | assumption)
              have q329 : x6_1 < (l0.length : Int) := of_decide_eq_true (by first | (with_reducible assumption) | assumption)
              obtain ⟨ad329, A329_0, c329_0, e329, hx329_0, hl329_0, hi329_0⟩ := at_L2 HR0.out x6_1 p329 q329
              obtain rfl : ad327 = ad329 := (by injection e329)
              have HR329_0 := Aside0.mk hi329_0
              have HC329_0 := Aside0.mk hl329_0
              clear hi329_0 hl329_0
              replace p329 := eq_true p329
              replace q329 := eq_true q329
              have ea_ := Option.some.inj (hx327_0.symm.trans hx329_0)
              injection ea_ with ea_ en_ ec_
              subst ea_
              subst ec_
              clear en_
              have p330 : 0 ≤ (1 : Int) := (by omega)
              have q330 : 1 < ((rd_L2 l0 x6_1).length : Int) := of_decide_eq_true (by first | (with_reducible assumption) | assumption)
              obtain ⟨ad330, e330, hx330_0, hx330_1⟩ := at_T46 HR329_0.out 1 p330 q330
              obtain rfl : ad328 = ad330 := (by injection e330)
              (try simp only [show (1 : Int).toNat = 1 from rfl, Nat.reduceMul, Nat.reduceEqDiff, Go.Addr.add, ↓reduceIte] at hx330_0)
              (try simp only [show (1 : Int).toNat = 1 from rfl, Nat.reduceMul, Nat.reduceEqDiff, Go.Addr.add, ↓reduceIte] at hx330_1)
              have qi330 : (1 < (rd_L2 l0 x6_1).length) = True := eq_true (by omega)
              (try rw [show ((1 : Int)).toNat = 1 from rfl] at hx330_0)
              (try rw [show 1 * 2 = 2 from rfl] at hx330_0)
              (try rw [show ((1 : Int)).toNat = 1 from rfl] at hx330_1)
              (try rw [show 1 * 2 = 2 from rfl] at hx330_1)
              replace p330 := eq_true p330
              replace q330 := eq_true q330
              go_upto_region 6 with (fail)
              repeat (go_quiet (fail); go_upto_region 6 with (fail))
              go_cut [35] (fun v35 wc => ∃ (kq : Nat) (x35_5 : Bool), v35 = .bool x35_5 ∧ Aside0 (gangsawref40_Keystone.j1 kq l0 x3_1 x4_1 x5_1 x6_1 (wrap64 (((rd_T46 (rd_L2 l0 x6_1) 0).f1) + ((rd_T46 (rd_L2 l0 x6_1) 1).f1))) x35_5 = some r) ∧ Aside0 (kq ≤ k1) ∧ Drawn0 w wc)
              case first =>
                have H := HC6.out
                clear HC6
                by_cases c7 : x4_1 < 0
                · rw [if_pos c7] at H
                  have c7b0 : decide (x4_1 < 0) = true := decide_eq_true c7
                  clear c7
                  (first | rw [c7b0] | (simp only [i64_w, i32_w]; rw [c7b0]) | skip)
                  have H' := Aside0.mk H
                  clear H
                  go_wp2
                  repeat (go_quiet (fail); try go_wp2)
                  go_meet
                  case rel => exact ⟨_, (true), (by first | rfl | (simp; done) | (simp [*]; done)), H', ⟨by have := HK1.out; first | omega | exact Nat.le_refl _⟩, by repeat (first | exact Drawn0.refl _ | apply Drawn0.step)⟩
                · rw [if_neg c7] at H
                  have c7b0 : decide (x4_1 < 0) = false := decide_eq_false c7
                  clear c7
                  (first | rw [c7b0] | (simp only [i64_w, i32_w]; rw [c7b0]) | skip)
                  have H' := Aside0.mk H
                  clear H
                  go_wp2
                  repeat (go_quiet (fail); try go_wp2)
                  go_meet
                  case rel => exact ⟨_, (decide ((wrap64 (((rd_T46 (rd_L2 l0 x6_1) 0).f1) + ((rd_T46 (rd_L2 l0 x6_1) 1).f1))) > x3_1)), (by first | rfl | (simp; done) | (simp [*]; done)), H', ⟨by have := HK1.out; first | omega | exact Nat.le_refl _⟩, by repeat (first | exact Drawn0.refl _ | apply Drawn0.step)⟩
              case rest =>
                clear HC6
                try clear c1
                try clear c2
                try clear c2b0
                try clear p2
                try clear c3
                try clear c3b0
                try clear p3
                try clear q3
                try clear hx3
                try clear qi3
                try clear c4
                try clear c4b0
                try clear c4b1
                try clear c5
                try clear c5b0
                try clear c5b1
                try clear p6
                try clear c7
                try clear c7b0
                try clear hx327_0
                try clear hx328_0
                try clear hx328_1
                try clear hx329_0
                try clear hx330_0
                try clear hx330_1
                try clear p327
                try clear p328
                try clear p329
                try clear p330
                try clear q327
                try clear q328
                try clear q329
                try clear q330
                obtain ⟨kq, x35_5, rfl, HA, HJ5, ⟨mc5, rfl⟩⟩ := hcut
                cases kq with
                | zero => exact absurd HA.out (by simp [gangsawref40_Keystone.j1])
                | succ kj5 =>
                  have H := HA.out
                  clear HA
                  simp only [gangsawref40_Keystone.j1] at H
                  by_cases c8 : x35_5 = true
                  · subst c8
                    have H1 : (if (wrap64 (((rd_T46 (rd_L2 l0 x6_1) 0).f1) + ((rd_T46 (rd_L2 l0 x6_1) 1).f1))) = (wrap64 (((rd_T46 (rd_L2 l0 x6_1) 0).f1) + ((rd_T46 (rd_L2 l0 x6_1) 1).f1))) then (gangsawref40_Keystone.l0 kj5 l0 (wrap64 (((rd_T46 (rd_L2 l0 x6_1) 0).f1) + ((rd_T46 (rd_L2 l0 x6_1) 1).f1))) x6_1 (0 + 1) (wrap64 (x6_1 + 1))) else (gangsawref40_Keystone.l0 kj5 l0 (wrap64 (((rd_T46 (rd_L2 l0 x6_1) 0).f1) + ((rd_T46 (rd_L2 l0 x6_1) 1).f1))) x6_1 0 (wrap64 (x6_1 + 1)))) = some r := by rw [if_pos rfl] at H; first | exact H | (rw [if_pos trivial] at H; rw [if_pos rfl]; exact H)
                    clear H
                    have H := H1
                    clear H1
                    by_cases c9 : (wrap64 (((rd_T46 (rd_L2 l0 x6_1) 0).f1) + ((rd_T46 (rd_L2 l0 x6_1) 1).f1))) = (wrap64 (((rd_T46 (rd_L2 l0 x6_1) 0).f1) + ((rd_T46 (rd_L2 l0 x6_1) 1).f1)))
                    · rw [if_pos c9] at H
                      have c9b0 : ((wrap64 (((rd_T46 (rd_L2 l0 x6_1) 0).f1) + ((rd_T46 (rd_L2 l0 x6_1) 1).f1))) == (wrap64 (((rd_T46 (rd_L2 l0 x6_1) 0).f1) + ((rd_T46 (rd_L2 l0 x6_1) 1).f1)))) = true := beq_iff_eq.mpr c9
                      have c9b1 : ((wrap64 (((rd_T46 (rd_L2 l0 x6_1) 0).f1) + ((rd_T46 (rd_L2 l0 x6_1) 1).f1))) != (wrap64 (((rd_T46 (rd_L2 l0 x6_1) 0).f1) + ((rd_T46 (rd_L2 l0 x6_1) 1).f1)))) = false := bne_eq_false_iff_eq.mpr c9
                      clear c9
                      have H' := Aside0.mk H
                      clear H
                      go_wp2
                      repeat (go_quiet (fail); try go_wp2)
                      go_roundg kj5
                      case measure => have := HK1.out; have := HJ5.out; omega
                      case rel => exact ⟨((wrap64 (((rd_T46 (rd_L2 l0 x6_1) 0).f1) + ((rd_T46 (rd_L2 l0 x6_1) 1).f1)))), (x6_1), (0 + 1), (wrap64 (x6_1 + 1)), (by first | rfl | (simp; done) | (simp [*]; done)), (by first | rfl | (simp; done) | (simp [*]; done)), (by first | rfl | (simp; done) | (simp [*]; done)), (by first | rfl | (simp; done) | (simp [*]; done)), H', ⟨by have := HK1.out; have := HJ5.out; omega⟩, by repeat (first | exact Drawn0.refl _ | apply Drawn0.step)⟩
                    · exact absurd rfl c9
                  · replace c8 := Bool.eq_false_iff.mpr c8
                    subst c8
                    have H1 : (if (wrap64 (((rd_T46 (rd_L2 l0 x6_1) 0).f1) + ((rd_T46 (rd_L2 l0 x6_1) 1).f1))) = x3_1 then (gangsawref40_Keystone.l0 kj5 l0 x3_1 x4_1 (wrap64 (x5_1 + 1)) (wrap64 (x6_1 + 1))) else (gangsawref40_Keystone.l0 kj5 l0 x3_1 x4_1 x5_1 (wrap64 (x6_1 + 1)))) = some r := by rw [if_neg (show ¬ (false = true) by decide)] at H; exact H
                    clear H
                    have H := H1
                    clear H1
                    by_cases c10 : (wrap64 (((rd_T46 (rd_L2 l0 x6_1) 0).f1) + ((rd_T46 (rd_L2 l0 x6_1) 1).f1))) = x3_1
                    · rw [if_pos c10] at H
                      have c10b0 : ((wrap64 (((rd_T46 (rd_L2 l0 x6_1) 0).f1) + ((rd_T46 (rd_L2 l0 x6_1) 1).f1))) == x3_1) = true := beq_iff_eq.mpr c10
                      have c10b1 : ((wrap64 (((rd_T46 (rd_L2 l0 x6_1) 0).f1) + ((rd_T46 (rd_L2 l0 x6_1) 1).f1))) != x3_1) = false := bne_eq_false_iff_eq.mpr c10
                      clear c10
                      have H' := Aside0.mk H
                      clear H
                      go_wp2
                      repeat (go_quiet (fail); try go_wp2)
                      go_roundg kj5
                      case measure => have := HK1.out; have := HJ5.out; omega
                      case rel => exact ⟨(x3_1), (x4_1), (wrap64 (x5_1 + 1)), (wrap64 (x6_1 + 1)), (by first | rfl | (simp; done) | (simp [*]; done)), (by first | rfl | (simp; done) | (simp [*]; done)), (by first | rfl | (simp; done) | (simp [*]; done)), (by first | rfl | (simp; done) | (simp [*]; done)), H', ⟨by have := HK1.out; have := HJ5.out; omega⟩, by repeat (first | exact Drawn0.refl _ | apply Drawn0.step)⟩
                    · rw [if_neg c10] at H
                      have c10b0 : ((wrap64 (((rd_T46 (rd_L2 l0 x6_1) 0).f1) + ((rd_T46 (rd_L2 l0 x6_1) 1).f1))) == x3_1) = false := beq_eq_false_iff_ne.mpr c10
                      have c10b1 : ((wrap64 (((rd_T46 (rd_L2 l0 x6_1) 0).f1) + ((rd_T46 (rd_L2 l0 x6_1) 1).f1))) != x3_1) = true := bne_iff_ne.mpr c10
                      have H' := Aside0.mk H
                      clear H
                      go_wp2
                      repeat (go_quiet (fail); try go_wp2)
                      go_roundg kj5
                      case measure => have := HK1.out; have := HJ5.out; omega
                      case rel => exact ⟨(x3_1), (x4_1), (x5_1), (wrap64 (x6_1 + 1)), (by first | rfl | (simp; done) | (simp [*]; done)), (by first | rfl | (simp; done) | (simp [*]; done)), (by first | rfl | (simp; done) | (simp [*]; done)), (by first | rfl | (simp; done) | (simp [*]; done)), H', ⟨by have := HK1.out; have := HJ5.out; omega⟩, by repeat (first | exact Drawn0.refl _ | apply Drawn0.step)⟩
            · rw [if_neg c5] at H
              exact absurd H (by simp)
          · rw [if_neg c4] at H
            exact absurd H (by simp)
        · rw [if_neg c3] at H
          exact absurd H (by simp)
      · rw [if_neg c2] at H
        have c2b0 : decide (x6_1 < (l0.length : Int)) = false := decide_eq_false c2
        clear c2
        by_cases c11 : x5_1 = 1
        · rw [if_pos c11] at H
          have c11b0 : (x5_1 == 1) = true := beq_iff_eq.mpr c11
          have c11b1 : (x5_1 != 1) = false := bne_eq_false_iff_eq.mpr c11
          clear c11
          obtain rfl := Option.some.inj H
          go_wp2
          repeat (go_quiet (fail); try go_wp2)
          go_ret
          exact ⟨by first | rfl | (simp; done) | (simp [*]; done), by repeat (first | exact Drawn0.refl _ | apply Drawn0.step)⟩
        · rw [if_neg c11] at H
          have c11b0 : (x5_1 == 1) = false := beq_eq_false_iff_ne.mpr c11
          have c11b1 : (x5_1 != 1) = true := bne_iff_ne.mpr c11
          obtain rfl := Option.some.inj H
          go_wp2
          repeat (go_quiet (fail); try go_wp2)
          go_ret
          exact ⟨by first | rfl | (simp; done) | (simp [*]; done), by repeat (first | exact Drawn0.refl _ | apply Drawn0.step)⟩

end Go.Proofs.Ytjlljjnkjhdljaa.XA
