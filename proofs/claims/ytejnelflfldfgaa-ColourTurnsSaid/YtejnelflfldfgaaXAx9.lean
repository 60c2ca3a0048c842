-- written by xprint.py, this project's own program (wip/), over the words of print.sh
import Derived.Test.YtejnelflfldfgaaXAx0
import Derived.Test.YtejnelflfldfgaaXAx4
import Derived.Test.YtejnelflfldfgaaXAx6
import Derived.Test.YtejnelflfldfgaaXAx7
import Derived.Test.YtejnelflfldfgaaXAx8
namespace Go.Proofs.Ytejnelflfldfgaa.XA
open Go.RowKit Go.Proofs.Ytejnelflfldfgaa.Opens Go.Proofs.YtejnelflfldfgaaW.PrintWords Go.Proofs.YtejnelflfldfgaaW.PrintLast Go.Proofs.YtejnelflfldfgaaW.PrintMore
attribute [local go_sem] max2_int min2_int max_two min_two max_three min_three max_four min_four   -- for this text's walks alone
set_option linter.unusedVariables false
set_option linter.unusedSimpArgs false

/-! ### gangsawref35_Align: function 26 -/
def gangsawref35_Align.l0 : Nat → List Int → List Int → Int → Int → Int → Int → Option (Int × Int)
  | 0, _, _, _, _, _, _ => none
  | k + 1, x0, x1, x2, x8, x9, x10 => if x10 ≤ x2 then ((gangsawref35_Offset.f k x0 x1 x10).bind fun t322 => (if t322 < x9 then ((gangsawref35_Offset.f k x0 x1 (wrap64 (-x10))).bind fun t323 => (if t323 < t322 then (gangsawref35_Align.l0 k x0 x1 x2 (wrap64 (-x10)) t323 (wrap64 (x10 + 1))) else (gangsawref35_Align.l0 k x0 x1 x2 x10 t322 (wrap64 (x10 + 1))))) else ((gangsawref35_Offset.f k x0 x1 (wrap64 (-x10))).bind fun t324 => (if t324 < x9 then (gangsawref35_Align.l0 k x0 x1 x2 (wrap64 (-x10)) t324 (wrap64 (x10 + 1))) else (gangsawref35_Align.l0 k x0 x1 x2 x8 x9 (wrap64 (x10 + 1))))))) else (some (x8, x9))
def gangsawref35_Align.f (k : Nat) (l0 : List Int) (l1 : List Int) (a2 : Int) : Option (Int × Int) := (gangsawref35_Offset.f k l0 l1 0).bind fun t321 => (gangsawref35_Align.l0 k l0 l1 a2 0 t321 1)
theorem gangsawref35_Align.mono_l : ∀ k, (∀ y0 y1 y2 y3 y4 y5, LeO (gangsawref35_Align.l0 k y0 y1 y2 y3 y4 y5) (gangsawref35_Align.l0 (k + 1) y0 y1 y2 y3 y4 y5))
  | 0 => fun _ _ _ _ _ _ r h => by simp [gangsawref35_Align.l0] at h
  | k + 1 => by
    have ih0 := gangsawref35_Align.mono_l k
    · intro y0 y1 y2 y3 y4 y5
      unfold gangsawref35_Align.l0
      repeat' first
      | (with_reducible exact ih0 _ _ _ _ _ _)
      | (with_reducible exact gangsawref35_Offset.mono _ _ _ _)
      | (with_reducible exact LeO.refl _)
      | (with_reducible exact LeO.none _)
      | (with_reducible refine LeO.ite ?_ ?_)
      | (with_reducible refine LeO.bind ?_ (fun _ => ?_))
      | exact ih0 _ _ _ _ _ _
      | exact gangsawref35_Offset.mono _ _ _ _
      | exact LeO.none _
      | refine LeO.ite ?_ ?_
      | refine LeO.bind ?_ (fun _ => ?_)
theorem gangsawref35_Align.mono : ∀ a0 a1 a2 k, LeO (gangsawref35_Align.f k a0 a1 a2) (gangsawref35_Align.f (k + 1) a0 a1 a2) := by
  intro a0 a1 a2 k
  have ih0 := gangsawref35_Align.mono_l k
  unfold gangsawref35_Align.f
  repeat' first
      | (with_reducible exact ih0 _ _ _ _ _ _)
      | (with_reducible exact gangsawref35_Offset.mono _ _ _ _)
      | (with_reducible exact LeO.refl _)
      | (with_reducible exact LeO.none _)
      | (with_reducible refine LeO.ite ?_ ?_)
      | (with_reducible refine LeO.bind ?_ (fun _ => ?_))
      | exact ih0 _ _ _ _ _ _
      | exact gangsawref35_Offset.mono _ _ _ _
      | exact LeO.none _
      | refine LeO.ite ?_ ?_
      | refine LeO.bind ?_ (fun _ => ?_)
set_option maxHeartbeats 8000000 in
set_option maxRecDepth 100000 in
theorem gangsawref35_Align.calls (k : Nat) (A0 : Option Addr) (c0 : Nat) (l0 : List Int) (A1 : Option Addr) (c1 : Nat) (l1 : List Int) (a2 : Int) (r1 : Int) (r2 : Int) (w : World) (hr0 : Kd.C (Kd.int .i64) w A0 l0.length l0) (hc0 : l0.length ≤ c0) (hr1 : Kd.C (Kd.int .i64) w A1 l1.length l1) (hc1 : l1.length ≤ c1) (h : gangsawref35_Align.f k l0 l1 a2 = some (r1, r2)) :
    Calls Try.prog 26 #[.slice A0 l0.length c0, .slice A1 l1.length c1, .int .i64 a2] w fun e w' => e = .returned (.tuple #[.int .i64 r1, .int .i64 r2]) ∧ Drawn0 w w' := by
  have HR0 := Aside0.mk hr0
  have HC0 := Aside0.mk hc0
  clear hr0 hc0
  have HR1 := Aside0.mk hr1
  have HC1 := Aside0.mk hc1
  clear hr1 hc1
  have H : ((gangsawref35_Offset.f k l0 l1 0).bind fun t321 => (gangsawref35_Align.l0 k l0 l1 a2 0 t321 1)) = some (r1, r2) := h
  clear h
  replace H := Option.bind_eq_some_iff.mp H
  obtain ⟨t321, A40, H⟩ := H
  replace H : (gangsawref35_Align.l0 k l0 l1 a2 0 t321 1) = some (r1, r2) := H
  have A4 := Aside0.mk A40
  clear A40
  have H' := Aside0.mk H
  clear H
  go_enter Try.func26, Try.ntmps26
  go_wp2_with (first | ((with_reducible refine gate_callee (f := 24) rfl ?_); refine goesL_ (some 15) rfl rfl Try.func24 (by kernel_rfl) rfl #[.slice A0 l0.length c0, .slice A1 l1.length c1, .int .i64 0] rfl (by (try simp only [List.map_toArray, List.map_cons, List.map_nil]); first | done | rfl | (simp only [List.length_drop, List.length_take]; rfl)) ?_; (with_reducible refine (gangsawref35_Offset.calls k _ _ l0 _ _ l1 0 t321 _ ?side1 ?side2 ?side3 ?side4 A4.out).mono ?_); (case side1 => repeat (first | exact HR0.out | (with_reducible refine Kd.C_alloc ?_ _) | (with_reducible refine Kd.C_drewN ?_ _) | (with_reducible refine Kd.C_drew ?_))); (case side2 => exact HC0.out); (case side3 => repeat (first | exact HR1.out | (with_reducible refine Kd.C_alloc ?_ _) | (with_reducible refine Kd.C_drewN ?_ _) | (with_reducible refine Kd.C_drew ?_))); (case side4 => exact HC1.out); rintro e w' ⟨rfl, ⟨nd, rfl⟩⟩; refine ⟨_, rfl, ?_⟩))
  go_loopg [8, 9, 10] k (fun kq v8 v9 v10 w' => ∃ (x8_1 : Int) (x9_1 : Int) (x10_1 : Int), v8 = .int .i64 x8_1 ∧ v9 = .int .i64 x9_1 ∧ v10 = .int .i64 x10_1 ∧ Aside0 (gangsawref35_Align.l0 kq l0 l1 a2 x8_1 x9_1 x10_1 = some (r1, r2)) ∧ Aside0 (kq ≤ k) ∧ Drawn0 w w')
  case atStart => exact ⟨(0), (t321), (1), (by first | rfl | (simp; done) | (simp [*]; done)), (by first | rfl | (simp; done) | (simp [*]; done)), (by first | rfl | (simp; done) | (simp [*]; done)), H', ⟨Nat.le_refl _⟩, by repeat (first | exact Drawn0.refl _ | apply Drawn0.step)⟩
  case round =>
    clear H'
    try clear c1
    try clear c2
    try clear p2
    obtain ⟨x8_1, x9_1, x10_1, rfl, rfl, rfl, HA, HK1, ⟨m1, rfl⟩⟩ := hrel
    cases gk with
    | zero => exact absurd HA.out (by simp [gangsawref35_Align.l0])
    | succ k1 =>
      have H := HA.out
      clear HA
      simp only [gangsawref35_Align.l0] at H
      by_cases c5 : x10_1 ≤ a2
      · rw [if_pos c5] at H
        have c5b0 : decide (x10_1 ≤ a2) = true := decide_eq_true c5
        clear c5
        replace H := Option.bind_eq_some_iff.mp H
        obtain ⟨t322, A60, H⟩ := H
        replace H : (if t322 < x9_1 then ((gangsawref35_Offset.f k1 l0 l1 (wrap64 (-x10_1))).bind fun t323 => (if t323 < t322 then (gangsawref35_Align.l0 k1 l0 l1 a2 (wrap64 (-x10_1)) t323 (wrap64 (x10_1 + 1))) else (gangsawref35_Align.l0 k1 l0 l1 a2 x10_1 t322 (wrap64 (x10_1 + 1))))) else ((gangsawref35_Offset.f k1 l0 l1 (wrap64 (-x10_1))).bind fun t324 => (if t324 < x9_1 then (gangsawref35_Align.l0 k1 l0 l1 a2 (wrap64 (-x10_1)) t324 (wrap64 (x10_1 + 1))) else (gangsawref35_Align.l0 k1 l0 l1 a2 x8_1 x9_1 (wrap64 (x10_1 + 1)))))) = some (r1, r2) := H
        have A6 := Aside0.mk A60
        clear A60
        by_cases c7 : t322 < x9_1
        · rw [if_pos c7] at H
          have c7b0 : decide (t322 < x9_1) = true := decide_eq_true c7
          clear c7
          replace H := Option.bind_eq_some_iff.mp H
          obtain ⟨t323, A80, H⟩ := H
          replace H : (if t323 < t322 then (gangsawref35_Align.l0 k1 l0 l1 a2 (wrap64 (-x10_1)) t323 (wrap64 (x10_1 + 1))) else (gangsawref35_Align.l0 k1 l0 l1 a2 x10_1 t322 (wrap64 (x10_1 + 1)))) = some (r1, r2) := H
          have A8 := Aside0.mk A80
          clear A80
          by_cases c9 : t323 < t322
          · rw [if_pos c9] at H
            have c9b0 : decide (t323 < t322) = true := decide_eq_true c9
            clear c9
            have H' := Aside0.mk H
            clear H
            go_wp2_with (first | ((with_reducible refine gate_callee (f := 24) rfl ?_); refine goesL_ (some 24) rfl rfl Try.func24 (by kernel_rfl) rfl #[.slice A0 l0.length c0, .slice A1 l1.length c1, .int .i64 x10_1] rfl (by (try simp only [List.map_toArray, List.map_cons, List.map_nil]); first | done | rfl | (simp only [List.length_drop, List.length_take]; rfl)) ?_; (with_reducible refine (gangsawref35_Offset.calls k1 _ _ l0 _ _ l1 x10_1 t322 _ ?side1 ?side2 ?side3 ?side4 A6.out).mono ?_); (case side1 => repeat (first | exact HR0.out | (with_reducible refine Kd.C_alloc ?_ _) | (with_reducible refine Kd.C_drewN ?_ _) | (with_reducible refine Kd.C_drew ?_))); (case side2 => exact HC0.out); (case side3 => repeat (first | exact HR1.out | (with_reducible refine Kd.C_alloc ?_ _) | (with_reducible refine Kd.C_drewN ?_ _) | (with_reducible refine Kd.C_drew ?_))); (case side4 => exact HC1.out); rintro e w' ⟨rfl, ⟨nd, rfl⟩⟩; refine ⟨_, rfl, ?_⟩) | ((with_reducible refine gate_callee (f := 24) rfl ?_); refine goesL_ (some 34) rfl rfl Try.func24 (by kernel_rfl) rfl #[.slice A0 l0.length c0, .slice A1 l1.length c1, .int .i64 (wrap64 (-x10_1))] rfl (by (try simp only [List.map_toArray, List.map_cons, List.map_nil]); first | done | rfl | (simp only [List.length_drop, List.length_take]; rfl)) ?_; (with_reducible refine (gangsawref35_Offset.calls k1 _ _ l0 _ _ l1 (wrap64 (-x10_1)) t323 _ ?side1 ?side2 ?side3 ?side4 A8.out).mono ?_); (case side1 => repeat (first | exact HR0.out | (with_reducible refine Kd.C_alloc ?_ _) | (with_reducible refine Kd.C_drewN ?_ _) | (with_reducible refine Kd.C_drew ?_))); (case side2 => exact HC0.out); (case side3 => repeat (first | exact HR1.out | (with_reducible refine Kd.C_alloc ?_ _) | (with_reducible refine Kd.C_drewN ?_ _) | (with_reducible refine Kd.C_drew ?_))); (case side4 => exact HC1.out); rintro e w' ⟨rfl, ⟨nd, rfl⟩⟩; refine ⟨_, rfl, ?_⟩))
            go_roundg k1
            case measure => have := HK1.out; omega
            case rel => exact ⟨(wrap64 (-x10_1)), (t323), (wrap64 (x10_1 + 1)), (by first | rfl | (simp; done) | (simp [*]; done)), (by first | rfl | (simp; done) | (simp [*]; done)), (by first | rfl | (simp; done) | (simp [*]; done)), H', ⟨by have := HK1.out; omega⟩, by repeat (first | exact Drawn0.refl _ | apply Drawn0.step)⟩
          · rw [if_neg c9] at H
            have c9b0 : decide (t323 < t322) = false := decide_eq_false c9
            clear c9
            have H' := Aside0.mk H
            clear H
            go_wp2_with (first | ((with_reducible refine gate_callee (f := 24) rfl ?_); refine goesL_ (some 24) rfl rfl Try.func24 (by kernel_rfl) rfl #[.slice A0 l0.length c0, .slice A1 l1.length c1, .int .i64 x10_1] rfl (by (try simp only [List.map_toArray, List.map_cons, List.map_nil]); first | done | rfl | (simp only [List.length_drop, List.length_take]; rfl)) ?_; (with_reducible refine (gangsawref35_Offset.calls k1 _ _ l0 _ _ l1 x10_1 t322 _ ?side1 ?side2 ?side3 ?side4 A6.out).mono ?_); (case side1 => repeat (first | exact HR0.out | (with_reducible refine Kd.C_alloc ?_ _) | (with_reducible refine Kd.C_drewN ?_ _) | (with_reducible refine Kd.C_drew ?_))); (case side2 => exact HC0.out); (case side3 => repeat (first | exact HR1.out | (with_reducible refine Kd.C_alloc ?_ _) | (with_reducible refine Kd.C_drewN ?_ _) | (with_reducible refine Kd.C_drew ?_))); (case side4 => exact HC1.out); rintro e w' ⟨rfl, ⟨nd, rfl⟩⟩; refine ⟨_, rfl, ?_⟩) | ((with_reducible refine gate_callee (f := 24) rfl ?_); refine goesL_ (some 34) rfl rfl Try.func24 (by kernel_rfl) rfl #[.slice A0 l0.length c0, .slice A1 l1.length c1, .int .i64 (wrap64 (-x10_1))] rfl (by (try simp only [List.map_toArray, List.map_cons, List.map_nil]); first | done | rfl | (simp only [List.length_drop, List.length_take]; rfl)) ?_; (with_reducible refine (gangsawref35_Offset.calls k1 _ _ l0 _ _ l1 (wrap64 (-x10_1)) t323 _ ?side1 ?side2 ?side3 ?side4 A8.out).mono ?_); (case side1 => repeat (first | exact HR0.out | (with_reducible refine Kd.C_alloc ?_ _) | (with_reducible refine Kd.C_drewN ?_ _) | (with_reducible refine Kd.C_drew ?_))); (case side2 => exact HC0.out); (case side3 => repeat (first | exact HR1.out | (with_reducible refine Kd.C_alloc ?_ _) | (with_reducible refine Kd.C_drewN ?_ _) | (with_reducible refine Kd.C_drew ?_))); (case side4 => exact HC1.out); rintro e w' ⟨rfl, ⟨nd, rfl⟩⟩; refine ⟨_, rfl, ?_⟩))
            go_roundg k1
            case measure => have := HK1.out; omega
            case rel => exact ⟨(x10_1), (t322), (wrap64 (x10_1 + 1)), (by first | rfl | (simp; done) | (simp [*]; done)), (by first | rfl | (simp; done) | (simp [*]; done)), (by first | rfl | (simp; done) | (simp [*]; done)), H', ⟨by have := HK1.out; omega⟩, by repeat (first | exact Drawn0.refl _ | apply Drawn0.step)⟩
        · rw [if_neg c7] at H
          have c7b0 : decide (t322 < x9_1) = false := decide_eq_false c7
          clear c7
          replace H := Option.bind_eq_some_iff.mp H
          obtain ⟨t324, A100, H⟩ := H
          replace H : (if t324 < x9_1 then (gangsawref35_Align.l0 k1 l0 l1 a2 (wrap64 (-x10_1)) t324 (wrap64 (x10_1 + 1))) else (gangsawref35_Align.l0 k1 l0 l1 a2 x8_1 x9_1 (wrap64 (x10_1 + 1)))) = some (r1, r2) := H
          have A10 := Aside0.mk A100
          clear A100
          by_cases c11 : t324 < x9_1
          · rw [if_pos c11] at H
            have c11b0 : decide (t324 < x9_1) = true := decide_eq_true c11
            clear c11
            have H' := Aside0.mk H
            clear H
            go_wp2_with (first | ((with_reducible refine gate_callee (f := 24) rfl ?_); refine goesL_ (some 24) rfl rfl Try.func24 (by kernel_rfl) rfl #[.slice A0 l0.length c0, .slice A1 l1.length c1, .int .i64 x10_1] rfl (by (try simp only [List.map_toArray, List.map_cons, List.map_nil]); first | done | rfl | (simp only [List.length_drop, List.length_take]; rfl)) ?_; (with_reducible refine (gangsawref35_Offset.calls k1 _ _ l0 _ _ l1 x10_1 t322 _ ?side1 ?side2 ?side3 ?side4 A6.out).mono ?_); (case side1 => repeat (first | exact HR0.out | (with_reducible refine Kd.C_alloc ?_ _) | (with_reducible refine Kd.C_drewN ?_ _) | (with_reducible refine Kd.C_drew ?_))); (case side2 => exact HC0.out); (case side3 => repeat (first | exact HR1.out | (with_reducible refine Kd.C_alloc ?_ _) | (with_reducible refine Kd.C_drewN ?_ _) | (with_reducible refine Kd.C_drew ?_))); (case side4 => exact HC1.out); rintro e w' ⟨rfl, ⟨nd, rfl⟩⟩; refine ⟨_, rfl, ?_⟩) | ((with_reducible refine gate_callee (f := 24) rfl ?_); refine goesL_ (some 34) rfl rfl Try.func24 (by kernel_rfl) rfl #[.slice A0 l0.length c0, .slice A1 l1.length c1, .int .i64 (wrap64 (-x10_1))] rfl (by (try simp only [List.map_toArray, List.map_cons, List.map_nil]); first | done | rfl | (simp only [List.length_drop, List.length_take]; rfl)) ?_; (with_reducible refine (gangsawref35_Offset.calls k1 _ _ l0 _ _ l1 (wrap64 (-x10_1)) t324 _ ?side1 ?side2 ?side3 ?side4 A10.out).mono ?_); (case side1 => repeat (first | exact HR0.out | (with_reducible refine Kd.C_alloc ?_ _) | (with_reducible refine Kd.C_drewN ?_ _) | (with_reducible refine Kd.C_drew ?_))); (case side2 => exact HC0.out); (case side3 => repeat (first | exact HR1.out | (with_reducible refine Kd.C_alloc ?_ _) | (with_reducible refine Kd.C_drewN ?_ _) | (with_reducible refine Kd.C_drew ?_))); (case side4 => exact HC1.out); rintro e w' ⟨rfl, ⟨nd, rfl⟩⟩; refine ⟨_, rfl, ?_⟩))
            go_roundg k1
            case measure => have := HK1.out; omega
            case rel => exact ⟨(wrap64 (-x10_1)), (t324), (wrap64 (x10_1 + 1)), (by first | rfl | (simp; done) | (simp [*]; done)), (by first | rfl | (simp; done) | (simp [*]; done)), (by first | rfl | (simp; done) | (simp [*]; done)), H', ⟨by have := HK1.out; omega⟩, by repeat (first | exact Drawn0.refl _ | apply Drawn0.step)⟩
          · rw [if_neg c11] at H
            have c11b0 : decide (t324 < x9_1) = false := decide_eq_false c11
            clear c11
            have H' := Aside0.mk H
            clear H
            go_wp2_with (first | ((with_reducible refine gate_callee (f := 24) rfl ?_); refine goesL_ (some 24) rfl rfl Try.func24 (by kernel_rfl) rfl #[.slice A0 l0.length c0, .slice A1 l1.length c1, .int .i64 x10_1] rfl (by (try simp only [List.map_toArray, List.map_cons, List.map_nil]); first | done | rfl | (simp only [List.length_drop, List.length_take]; rfl)) ?_; (with_reducible refine (gangsawref35_Offset.calls k1 _ _ l0 _ _ l1 x10_1 t322 _ ?side1 ?side2 ?side3 ?side4 A6.out).mono ?_); (case side1 => repeat (first | exact HR0.out | (with_reducible refine Kd.C_alloc ?_ _) | (with_reducible refine Kd.C_drewN ?_ _) | (with_reducible refine Kd.C_drew ?_))); (case side2 => exact HC0.out); (case side3 => repeat (first | exact HR1.out | (with_reducible refine Kd.C_alloc ?_ _) | (with_reducible refine Kd.C_drewN ?_ _) | (with_reducible refine Kd.C_drew ?_))); (case side4 => exact HC1.out); rintro e w' ⟨rfl, ⟨nd, rfl⟩⟩; refine ⟨_, rfl, ?_⟩) | ((with_reducible refine gate_callee (f := 24) rfl ?_); refine goesL_ (some 34) rfl rfl Try.func24 (by kernel_rfl) rfl #[.slice A0 l0.length c0, .slice A1 l1.length c1, .int .i64 (wrap64 (-x10_1))] rfl (by (try simp only [List.map_toArray, List.map_cons, List.map_nil]); first | done | rfl | (simp only [List.length_drop, List.length_take]; rfl)) ?_; (with_reducible refine (gangsawref35_Offset.calls k1 _ _ l0 _ _ l1 (wrap64 (-x10_1)) t324 _ ?side1 ?side2 ?side3 ?side4 A10.out).mono ?_); (case side1 => repeat (first | exact HR0.out | (with_reducible refine Kd.C_alloc ?_ _) | (with_reducible refine Kd.C_drewN ?_ _) | (with_reducible refine Kd.C_drew ?_))); (case side2 => exact HC0.out); (case side3 => repeat (first | exact HR1.out | (with_reducible refine Kd.C_alloc ?_ _) | (with_reducible refine Kd.C_drewN ?_ _) | (with_reducible refine Kd.C_drew ?_))); (case side4 => exact HC1.out); rintro e w' ⟨rfl, ⟨nd, rfl⟩⟩; refine ⟨_, rfl, ?_⟩))
            go_roundg k1
            case measure => have := HK1.out; omega
            case rel => exact ⟨(x8_1), (x9_1), (wrap64 (x10_1 + 1)), (by first | rfl | (simp; done) | (simp [*]; done)), (by first | rfl | (simp; done) | (simp [*]; done)), (by first | rfl | (simp; done) | (simp [*]; done)), H', ⟨by have := HK1.out; omega⟩, by repeat (first | exact Drawn0.refl _ | apply Drawn0.step)⟩
      · rw [if_neg c5] at H
        have c5b0 : decide (x10_1 ≤ a2) = false := decide_eq_false c5
        clear c5
        simp only [Option.some.injEq, Prod.mk.injEq] at H
        obtain ⟨rfl, rfl⟩ := H
        go_wp2
        go_ret2
        exact ⟨by first | rfl | (simp; done) | (simp [*]; done), by repeat (first | exact Drawn0.refl _ | apply Drawn0.step)⟩

/-! ### gangsawlaw35_ColourAligns: function 5 -/
mutual
def gangsawlaw35_ColourAligns.j0 : Nat → List Int → List Int → Int → Bool → Option (Bool)
  | 0, _, _, _, _ => none
  | k + 1, x0, x1, x2, x22 => if x22 = true then (some true) else ((colour_Align.f k x0 x1 x2).bind fun bt326 => ((gangsawref35_Two.f k x0 x1).bind fun t329 => (if t329 = 0 then (if x2 < 0 then (gangsawlaw35_ColourAligns.j1 k x0 x1 x2 bt326.1 bt326.2.1 bt326.2.2 t329 true) else (gangsawlaw35_ColourAligns.j1 k x0 x1 x2 bt326.1 bt326.2.1 bt326.2.2 t329 (decide (x2 ≥ (x0.length : Int))))) else (gangsawlaw35_ColourAligns.j1 k x0 x1 x2 bt326.1 bt326.2.1 bt326.2.2 t329 false))))
def gangsawlaw35_ColourAligns.j1 : Nat → List Int → List Int → Int → Int → Int → Int → Int → Bool → Option (Bool)
  | 0, _, _, _, _, _, _, _, _ => none
  | k + 1, x0, x1, x2, x7, x8, x9, x10, x45 => if x45 = true then (if 6 = 0 then ((gangsawref35_Align.f k x0 x1 x2).bind fun bt330 => (if x9 = 0 then (if x7 = bt330.1 then (some (x8 == bt330.2)) else (some false)) else (some false))) else (if x9 = 6 then (if x7 = 0 then (some (x8 == 0)) else (some false)) else (some false))) else (if x10 = 0 then ((gangsawref35_Align.f k x0 x1 x2).bind fun bt332 => (if x9 = 0 then (if x7 = bt332.1 then (some (x8 == bt332.2)) else (some false)) else (some false))) else (if x9 = x10 then (if x7 = 0 then (some (x8 == 0)) else (some false)) else (some false)))
end
def gangsawlaw35_ColourAligns.f (k : Nat) (l0 : List Int) (l1 : List Int) (a2 : Int) : Option (Bool) := (gangsawlaw35_awake.f k).bind fun t325 => (if t325 = true then (if (l0.length : Int) > 80 then (gangsawlaw35_ColourAligns.j0 k l0 l1 a2 true) else (gangsawlaw35_ColourAligns.j0 k l0 l1 a2 (decide ((l1.length : Int) > 80)))) else (some false))
theorem gangsawlaw35_ColourAligns.mono_l : ∀ k, (∀ y0 y1 y2 y3, LeO (gangsawlaw35_ColourAligns.j0 k y0 y1 y2 y3) (gangsawlaw35_ColourAligns.j0 (k + 1) y0 y1 y2 y3)) ∧ (∀ y0 y1 y2 y3 y4 y5 y6 y7, LeO (gangsawlaw35_ColourAligns.j1 k y0 y1 y2 y3 y4 y5 y6 y7) (gangsawlaw35_ColourAligns.j1 (k + 1) y0 y1 y2 y3 y4 y5 y6 y7))
  | 0 => ⟨fun _ _ _ _ r h => by simp [gangsawlaw35_ColourAligns.j0] at h, fun _ _ _ _ _ _ _ _ r h => by simp [gangsawlaw35_ColourAligns.j1] at h⟩
  | k + 1 => by
    obtain ⟨ih0, ih1⟩ := gangsawlaw35_ColourAligns.mono_l k
    refine ⟨?_, ?_⟩
    · intro y0 y1 y2 y3
      unfold gangsawlaw35_ColourAligns.j0
      repeat' first
      | (with_reducible exact ih0 _ _ _ _)
      | (with_reducible exact ih1 _ _ _ _ _ _ _ _)
      | (with_reducible exact colour_Align.mono _ _ _ _)
      | (with_reducible exact gangsawlaw35_awake.mono _)
      | (with_reducible exact gangsawref35_Align.mono _ _ _ _)
      | (with_reducible exact gangsawref35_Two.mono _ _ _)
      | (with_reducible exact LeO.refl _)
      | (with_reducible exact LeO.none _)
      | (with_reducible refine LeO.ite ?_ ?_)
      | (with_reducible refine LeO.bind ?_ (fun _ => ?_))
      | exact ih0 _ _ _ _
      | exact ih1 _ _ _ _ _ _ _ _
      | exact colour_Align.mono _ _ _ _
      | exact gangsawlaw35_awake.mono _
      | exact gangsawref35_Align.mono _ _ _ _
      | exact gangsawref35_Two.mono _ _ _
      | exact LeO.none _
      | refine LeO.ite ?_ ?_
      | refine LeO.bind ?_ (fun _ => ?_)
    · intro y0 y1 y2 y3 y4 y5 y6 y7
      unfold gangsawlaw35_ColourAligns.j1
      repeat' first
      | (with_reducible exact ih0 _ _ _ _)
      | (with_reducible exact ih1 _ _ _ _ _ _ _ _)
      | (with_reducible exact colour_Align.mono _ _ _ _)
      | (with_reducible exact gangsawlaw35_awake.mono _)
      | (with_reducible exact gangsawref35_Align.mono _ _ _ _)
      | (with_reducible exact gangsawref35_Two.mono _ _ _)
      | (with_reducible exact LeO.refl _)
      | (with_reducible exact LeO.none _)
      | (with_reducible refine LeO.ite ?_ ?_)
      | (with_reducible refine LeO.bind ?_ (fun _ => ?_))
      | exact ih0 _ _ _ _
      | exact ih1 _ _ _ _ _ _ _ _
      | exact colour_Align.mono _ _ _ _
      | exact gangsawlaw35_awake.mono _
      | exact gangsawref35_Align.mono _ _ _ _
      | exact gangsawref35_Two.mono _ _ _
      | exact LeO.none _
      | refine LeO.ite ?_ ?_
      | refine LeO.bind ?_ (fun _ => ?_)
theorem gangsawlaw35_ColourAligns.mono : ∀ a0 a1 a2 k, LeO (gangsawlaw35_ColourAligns.f k a0 a1 a2) (gangsawlaw35_ColourAligns.f (k + 1) a0 a1 a2) := by
  intro a0 a1 a2 k
  obtain ⟨ih0, ih1⟩ := gangsawlaw35_ColourAligns.mono_l k
  unfold gangsawlaw35_ColourAligns.f
  repeat' first
      | (with_reducible exact ih0 _ _ _ _)
      | (with_reducible exact ih1 _ _ _ _ _ _ _ _)
      | (with_reducible exact colour_Align.mono _ _ _ _)
      | (with_reducible exact gangsawlaw35_awake.mono _)
      | (with_reducible exact gangsawref35_Align.mono _ _ _ _)
      | (with_reducible exact gangsawref35_Two.mono _ _ _)
      | (with_reducible exact LeO.refl _)
      | (with_reducible exact LeO.none _)
      | (with_reducible refine LeO.ite ?_ ?_)
      | (with_reducible refine LeO.bind ?_ (fun _ => ?_))
      | exact ih0 _ _ _ _
      | exact ih1 _ _ _ _ _ _ _ _
      | exact colour_Align.mono _ _ _ _
      | exact gangsawlaw35_awake.mono _
      | exact gangsawref35_Align.mono _ _ _ _
      | exact gangsawref35_Two.mono _ _ _
      | exact LeO.none _
      | refine LeO.ite ?_ ?_
      | refine LeO.bind ?_ (fun _ => ?_)
set_option maxHeartbeats 8000000 in
set_option maxRecDepth 100000 in
theorem gangsawlaw35_ColourAligns.calls (k : Nat) (A0 : Option Addr) (c0 : Nat) (l0 : List Int) (A1 : Option Addr) (c1 : Nat) (l1 : List Int) (a2 : Int) (r : Bool) (w : World) (hr0 : Kd.C (Kd.int .i64) w A0 l0.length l0) (hc0 : l0.length ≤ c0) (hr1 : Kd.C (Kd.int .i64) w A1 l1.length l1) (hc1 : l1.length ≤ c1) (h : gangsawlaw35_ColourAligns.f k l0 l1 a2 = some r) :
    Calls Try.prog 5 #[.slice A0 l0.length c0, .slice A1 l1.length c1, .int .i64 a2] w fun e w' => e = .returned (.bool r) ∧ Below w.heap.size w w' := by
  have HR0 := Aside0.mk hr0
  have HC0 := Aside0.mk hc0
  clear hr0 hc0
  have HR1 := Aside0.mk hr1
  have HC1 := Aside0.mk hc1
  clear hr1 hc1
  have HB := Aside0.mk (Below.refl w.heap.size w)
  have H : ((gangsawlaw35_awake.f k).bind fun t325 => (if t325 = true then (if (l0.length : Int) > 80 then (gangsawlaw35_ColourAligns.j0 k l0 l1 a2 true) else (gangsawlaw35_ColourAligns.j0 k l0 l1 a2 (decide ((l1.length : Int) > 80)))) else (some false))) = some r := h
  clear h
  replace H := Option.bind_eq_some_iff.mp H
  obtain ⟨t325, A40, H⟩ := H
  replace H : (if t325 = true then (if (l0.length : Int) > 80 then (gangsawlaw35_ColourAligns.j0 k l0 l1 a2 true) else (gangsawlaw35_ColourAligns.j0 k l0 l1 a2 (decide ((l1.length : Int) > 80)))) else (some false)) = some r := H
  have A4 := Aside0.mk A40
  clear A40
  by_cases c5 : t325 = true
  · subst c5
    have H1 : (if (l0.length : Int) > 80 then (gangsawlaw35_ColourAligns.j0 k l0 l1 a2 true) else (gangsawlaw35_ColourAligns.j0 k l0 l1 a2 (decide ((l1.length : Int) > 80)))) = some r := by rw [if_pos rfl] at H; exact H
    clear H
    have H := H1
    clear H1
    have HC6 := Aside0.mk H
    clear H
    go_enter Try.func5, Try.ntmps5
    go_upto_region 3 with (first | ((with_reducible refine gate_callee (f := 12) rfl ?_); refine goesL_ (some 13) rfl rfl Try.func12 (by kernel_rfl) rfl #[] rfl (by (try simp only [List.map_toArray, List.map_cons, List.map_nil]); first | done | rfl | (simp only [List.length_drop, List.length_take]; rfl)) ?_; (with_reducible refine (gangsawlaw35_awake.calls k  true _ A4.out).mono ?_); rintro e w7 ⟨rfl, hb⟩; refine ⟨_, rfl, ?_⟩; have n0_ := Aside0.mk (below_step (by repeat (first | (with_reducible first | exact HB.out | apply below_alloc | apply pw_below_drewN | apply below_drew1) | exact HB.out)) hb); clear HB; have HB := n0_; clear n0_; (try clear hb); (try clear hb2); (try clear hk); (try clear hi)))
    (try simp only [Act.put, List.setIfInBounds_toArray, List.set_cons_zero, List.set_cons_succ])
    go_cut [22] (fun v22 wc => ∃ (kq : Nat) (x22_5 : Bool), v22 = .bool x22_5 ∧ Aside0 (gangsawlaw35_ColourAligns.j0 kq l0 l1 a2 x22_5 = some r) ∧ Aside0 (kq ≤ k) ∧ Aside0 (Below w.heap.size w wc))
    case first =>
      have H := HC6.out
      clear HC6
      by_cases c8 : (l0.length : Int) > 80
      · rw [if_pos c8] at H
        have c8b0 : decide (80 < (l0.length : Int)) = true := decide_eq_true c8
        have c8b1 : decide (80 < l0.length) = true := decide_eq_true (by omega)
        clear c8
        (first | rw [c8b0] | (simp only [i64_w, i32_w]; rw [c8b0]) | skip)
        have H' := Aside0.mk H
        clear H
        go_wp2
        go_meet
        case rel => exact ⟨_, (true), (by first | rfl | (simp; done) | (simp [*]; done)), H', ⟨by first | omega | exact Nat.le_refl _⟩, ⟨by repeat (first | (with_reducible first | exact HB.out | apply below_alloc | apply pw_below_drewN | apply below_drew1) | exact HB.out)⟩⟩
      · rw [if_neg c8] at H
        have c8b0 : decide (80 < (l0.length : Int)) = false := decide_eq_false c8
        have c8b1 : decide (80 < l0.length) = false := decide_eq_false (by omega)
        clear c8
        (first | rw [c8b0] | (simp only [i64_w, i32_w]; rw [c8b0]) | skip)
        have H' := Aside0.mk H
        clear H
        go_wp2
        go_meet
        case rel => exact ⟨_, (decide ((l1.length : Int) > 80)), (by first | rfl | (simp; done) | (simp [*]; done)), H', ⟨by first | omega | exact Nat.le_refl _⟩, ⟨by repeat (first | (with_reducible first | exact HB.out | apply below_alloc | apply pw_below_drewN | apply below_drew1) | exact HB.out)⟩⟩
    case rest =>
      clear HC6
      try clear c1
      try clear p2
      try clear c5
      try clear c8
      try clear c8b0
      try clear c8b1
      obtain ⟨kq, x22_5, rfl, HA, HJ5, HB⟩ := hcut
      cases kq with
      | zero => exact absurd HA.out (by simp [gangsawlaw35_ColourAligns.j0])
      | succ kj5 =>
        have H := HA.out
        clear HA
        simp only [gangsawlaw35_ColourAligns.j0] at H
        by_cases c9 : x22_5 = true
        · subst c9
          have H1 : (some true) = some r := by rw [if_pos rfl] at H; exact H
          clear H
          have H := H1
          clear H1
          obtain rfl := Option.some.inj H
          go_wp2
          go_ret
          exact ⟨by first | rfl | (simp [errW_none, errW_some] <;> rfl) | (simp [*, errW_none, errW_some] <;> rfl), by repeat (first | (with_reducible first | exact HB.out | apply below_alloc | apply pw_below_drewN | apply below_drew1) | exact HB.out)⟩
        · replace c9 := Bool.eq_false_iff.mpr c9
          subst c9
          have H1 : ((colour_Align.f kj5 l0 l1 a2).bind fun bt326 => ((gangsawref35_Two.f kj5 l0 l1).bind fun t329 => (if t329 = 0 then (if a2 < 0 then (gangsawlaw35_ColourAligns.j1 kj5 l0 l1 a2 bt326.1 bt326.2.1 bt326.2.2 t329 true) else (gangsawlaw35_ColourAligns.j1 kj5 l0 l1 a2 bt326.1 bt326.2.1 bt326.2.2 t329 (decide (a2 ≥ (l0.length : Int))))) else (gangsawlaw35_ColourAligns.j1 kj5 l0 l1 a2 bt326.1 bt326.2.1 bt326.2.2 t329 false)))) = some r := by rw [if_neg (show ¬ (false = true) by decide)] at H; exact H
          clear H
          have H := H1
          clear H1
          replace H := Option.bind_eq_some_iff.mp H
          obtain ⟨⟨t326, t327, t328⟩, A100, H⟩ := H
          replace H : ((gangsawref35_Two.f kj5 l0 l1).bind fun t329 => (if t329 = 0 then (if a2 < 0 then (gangsawlaw35_ColourAligns.j1 kj5 l0 l1 a2 t326 t327 t328 t329 true) else (gangsawlaw35_ColourAligns.j1 kj5 l0 l1 a2 t326 t327 t328 t329 (decide (a2 ≥ (l0.length : Int))))) else (gangsawlaw35_ColourAligns.j1 kj5 l0 l1 a2 t326 t327 t328 t329 false))) = some r := H
          have A10 := Aside0.mk A100
          clear A100
          replace H := Option.bind_eq_some_iff.mp H
          obtain ⟨t329, A110, H⟩ := H
          replace H : (if t329 = 0 then (if a2 < 0 then (gangsawlaw35_ColourAligns.j1 kj5 l0 l1 a2 t326 t327 t328 t329 true) else (gangsawlaw35_ColourAligns.j1 kj5 l0 l1 a2 t326 t327 t328 t329 (decide (a2 ≥ (l0.length : Int))))) else (gangsawlaw35_ColourAligns.j1 kj5 l0 l1 a2 t326 t327 t328 t329 false)) = some r := H
          have A11 := Aside0.mk A110
          clear A110
          have HC12 := Aside0.mk H
          clear H
          go_upto_region 7 with (first | ((with_reducible refine gate_callee (f := 25) rfl ?_); refine goesL_ (some 27) rfl rfl Try.func25 (by kernel_rfl) rfl #[.slice A0 l0.length c0, .slice A1 l1.length c1, .int .i64 a2] rfl (by (try simp only [List.map_toArray, List.map_cons, List.map_nil]); first | done | rfl | (simp only [List.length_drop, List.length_take]; rfl)) ?_; (with_reducible refine (colour_Align.calls kj5 _ _ l0 _ _ l1 a2 t326 t327 t328 _ ?side1 ?side2 ?side3 ?side4 A10.out).mono ?_); (case side1 => repeat (first | exact (Kd.C_below HR0.out HB.out) | (with_reducible refine Kd.C_alloc ?_ _) | (with_reducible refine Kd.C_drewN ?_ _) | (with_reducible refine Kd.C_drew ?_))); (case side2 => exact HC0.out); (case side3 => repeat (first | exact (Kd.C_below HR1.out HB.out) | (with_reducible refine Kd.C_alloc ?_ _) | (with_reducible refine Kd.C_drewN ?_ _) | (with_reducible refine Kd.C_drew ?_))); (case side4 => exact HC1.out); rintro e w13 ⟨rfl, hb⟩; refine ⟨_, rfl, ?_⟩; have n0_ := Aside0.mk (below_step (by repeat (first | (with_reducible first | exact HB.out | apply below_alloc | apply pw_below_drewN | apply below_drew1) | exact HB.out)) hb); clear HB; have HB := n0_; clear n0_; (try clear hb); (try clear hb2); (try clear hk); (try clear hi)) | ((with_reducible refine gate_callee (f := 22) rfl ?_); refine goesL_ (some 33) rfl rfl Try.func22 (by kernel_rfl) rfl #[.slice A0 l0.length c0, .slice A1 l1.length c1] rfl (by (try simp only [List.map_toArray, List.map_cons, List.map_nil]); first | done | rfl | (simp only [List.length_drop, List.length_take]; rfl)) ?_; (with_reducible refine (gangsawref35_Two.calls kj5 _ _ l0 _ _ l1 t329 _ ?side1 ?side2 ?side3 ?side4 A11.out).mono ?_); (case side1 => repeat (first | exact (Kd.C_below HR0.out HB.out) | (with_reducible refine Kd.C_alloc ?_ _) | (with_reducible refine Kd.C_drewN ?_ _) | (with_reducible refine Kd.C_drew ?_))); (case side2 => exact HC0.out); (case side3 => repeat (first | exact (Kd.C_below HR1.out HB.out) | (with_reducible refine Kd.C_alloc ?_ _) | (with_reducible refine Kd.C_drewN ?_ _) | (with_reducible refine Kd.C_drew ?_))); (case side4 => exact HC1.out); rintro e w' ⟨rfl, ⟨nd, rfl⟩⟩; refine ⟨_, rfl, ?_⟩))
          (try simp only [Act.put, List.setIfInBounds_toArray, List.set_cons_zero, List.set_cons_succ])
          go_cut [45] (fun v45 wc => ∃ (kq : Nat) (x45_11 : Bool), v45 = .bool x45_11 ∧ Aside0 (gangsawlaw35_ColourAligns.j1 kq l0 l1 a2 t326 t327 t328 t329 x45_11 = some r) ∧ Aside0 (kq ≤ kj5) ∧ Aside0 (Below w.heap.size w wc))
          case first =>
            have H := HC12.out
            clear HC12
            by_cases c14 : t329 = 0
            · rw [if_pos c14] at H
              have c14b0 : (t329 == 0) = true := beq_iff_eq.mpr c14
              have c14b1 : (t329 != 0) = false := bne_eq_false_iff_eq.mpr c14
              clear c14
              (first | rw [c14b0] | (simp only [i64_w, i32_w]; rw [c14b0]) | skip)
              by_cases c15 : a2 < 0
              · rw [if_pos c15] at H
                have c15b0 : decide (a2 < 0) = true := decide_eq_true c15
                clear c15
                have H' := Aside0.mk H
                clear H
                go_wp2
                go_meet
                case rel => exact ⟨_, (true), (by first | rfl | (simp; done) | (simp [*]; done)), H', ⟨by have := HJ5.out; first | omega | exact Nat.le_refl _⟩, ⟨by repeat (first | (with_reducible first | exact HB.out | apply below_alloc | apply pw_below_drewN | apply below_drew1) | exact HB.out)⟩⟩
              · rw [if_neg c15] at H
                have c15b0 : decide (a2 < 0) = false := decide_eq_false c15
                clear c15
                have H' := Aside0.mk H
                clear H
                go_wp2
                go_meet
                case rel => exact ⟨_, (decide (a2 ≥ (l0.length : Int))), (by first | rfl | (simp; done) | (simp [*]; done)), H', ⟨by have := HJ5.out; first | omega | exact Nat.le_refl _⟩, ⟨by repeat (first | (with_reducible first | exact HB.out | apply below_alloc | apply pw_below_drewN | apply below_drew1) | exact HB.out)⟩⟩
            · rw [if_neg c14] at H
              have c14b0 : (t329 == 0) = false := beq_eq_false_iff_ne.mpr c14
              have c14b1 : (t329 != 0) = true := bne_iff_ne.mpr c14
              (first | rw [c14b0] | (simp only [i64_w, i32_w]; rw [c14b0]) | skip)
              have H' := Aside0.mk H
              clear H
              go_wp2
              go_meet
              case rel => exact ⟨_, (false), (by first | rfl | (simp; done) | (simp [*]; done)), H', ⟨by have := HJ5.out; first | omega | exact Nat.le_refl _⟩, ⟨by repeat (first | (with_reducible first | exact HB.out | apply below_alloc | apply pw_below_drewN | apply below_drew1) | exact HB.out)⟩⟩
          case rest =>
            clear HC12
            try clear c1
            try clear c2
            try clear p2
            try clear c5
            try clear c8
            try clear c8b0
            try clear c8b1
            try clear c9
            try clear c12
            try clear c14
            try clear c14b0
            try clear c14b1
            try clear c15
            try clear c15b0
            try clear p2
            obtain ⟨kq, x45_11, rfl, HA, HJ11, HB⟩ := hcut
            cases kq with
            | zero => exact absurd HA.out (by simp [gangsawlaw35_ColourAligns.j1])
            | succ kj11 =>
              have H := HA.out
              clear HA
              simp only [gangsawlaw35_ColourAligns.j1] at H
              by_cases c16 : x45_11 = true
              · subst c16
                have H1 : (if 6 = 0 then ((gangsawref35_Align.f kj11 l0 l1 a2).bind fun bt330 => (if t328 = 0 then (if t326 = bt330.1 then (some (t327 == bt330.2)) else (some false)) else (some false))) else (if t328 = 6 then (if t326 = 0 then (some (t327 == 0)) else (some false)) else (some false))) = some r := by rw [if_pos rfl] at H; exact H
                clear H
                have H := H1
                clear H1
                by_cases c17 : 6 = 0
                · exact absurd c17 (by decide)
                · rw [if_neg c17] at H
                  have c17b0 : (6 == 0) = false := beq_eq_false_iff_ne.mpr c17
                  have c17b1 : (6 != 0) = true := bne_iff_ne.mpr c17
                  by_cases c21 : t328 = 6
                  · rw [if_pos c21] at H
                    have c21b0 : (t328 == 6) = true := beq_iff_eq.mpr c21
                    have c21b1 : (t328 != 6) = false := bne_eq_false_iff_eq.mpr c21
                    clear c21
                    by_cases c22 : t326 = 0
                    · rw [if_pos c22] at H
                      have c22b0 : (t326 == 0) = true := beq_iff_eq.mpr c22
                      have c22b1 : (t326 != 0) = false := bne_eq_false_iff_eq.mpr c22
                      clear c22
                      obtain rfl := Option.some.inj H
                      go_wp2
                      go_ret
                      exact ⟨by first | rfl | (simp [errW_none, errW_some] <;> rfl) | (simp [*, errW_none, errW_some] <;> rfl), by repeat (first | (with_reducible first | exact HB.out | apply below_alloc | apply pw_below_drewN | apply below_drew1) | exact HB.out)⟩
                    · rw [if_neg c22] at H
                      have c22b0 : (t326 == 0) = false := beq_eq_false_iff_ne.mpr c22
                      have c22b1 : (t326 != 0) = true := bne_iff_ne.mpr c22
                      obtain rfl := Option.some.inj H
                      go_wp2
                      go_ret
                      exact ⟨by first | rfl | (simp [errW_none, errW_some] <;> rfl) | (simp [*, errW_none, errW_some] <;> rfl), by repeat (first | (with_reducible first | exact HB.out | apply below_alloc | apply pw_below_drewN | apply below_drew1) | exact HB.out)⟩
                  · rw [if_neg c21] at H
                    have c21b0 : (t328 == 6) = false := beq_eq_false_iff_ne.mpr c21
                    have c21b1 : (t328 != 6) = true := bne_iff_ne.mpr c21
                    obtain rfl := Option.some.inj H
                    go_wp2
                    go_ret
                    exact ⟨by first | rfl | (simp [errW_none, errW_some] <;> rfl) | (simp [*, errW_none, errW_some] <;> rfl), by repeat (first | (with_reducible first | exact HB.out | apply below_alloc | apply pw_below_drewN | apply below_drew1) | exact HB.out)⟩
              · replace c16 := Bool.eq_false_iff.mpr c16
                subst c16
                have H1 : (if t329 = 0 then ((gangsawref35_Align.f kj11 l0 l1 a2).bind fun bt332 => (if t328 = 0 then (if t326 = bt332.1 then (some (t327 == bt332.2)) else (some false)) else (some false))) else (if t328 = t329 then (if t326 = 0 then (some (t327 == 0)) else (some false)) else (some false))) = some r := by rw [if_neg (show ¬ (false = true) by decide)] at H; exact H
                clear H
                have H := H1
                clear H1
                by_cases c23 : t329 = 0
                · rw [if_pos c23] at H
                  have c23b0 : (t329 == 0) = true := beq_iff_eq.mpr c23
                  have c23b1 : (t329 != 0) = false := bne_eq_false_iff_eq.mpr c23
                  clear c23
                  replace H := Option.bind_eq_some_iff.mp H
                  obtain ⟨⟨t332, t333⟩, A240, H⟩ := H
                  replace H : (if t328 = 0 then (if t326 = t332 then (some (t327 == t333)) else (some false)) else (some false)) = some r := H
                  have A24 := Aside0.mk A240
                  clear A240
                  by_cases c25 : t328 = 0
                  · rw [if_pos c25] at H
                    have c25b0 : (t328 == 0) = true := beq_iff_eq.mpr c25
                    have c25b1 : (t328 != 0) = false := bne_eq_false_iff_eq.mpr c25
                    clear c25
                    by_cases c26 : t326 = t332
                    · rw [if_pos c26] at H
                      have c26b0 : (t326 == t332) = true := beq_iff_eq.mpr c26
                      have c26b1 : (t326 != t332) = false := bne_eq_false_iff_eq.mpr c26
                      clear c26
                      obtain rfl := Option.some.inj H
                      go_wp2_with (first | ((with_reducible refine gate_callee (f := 26) rfl ?_); refine goesL_ (some 63) rfl rfl Try.func26 (by kernel_rfl) rfl #[.slice A0 l0.length c0, .slice A1 l1.length c1, .int .i64 a2] rfl (by (try simp only [List.map_toArray, List.map_cons, List.map_nil]); first | done | rfl | (simp only [List.length_drop, List.length_take]; rfl)) ?_; (with_reducible refine (gangsawref35_Align.calls kj11 _ _ l0 _ _ l1 a2 t332 t333 _ ?side1 ?side2 ?side3 ?side4 A24.out).mono ?_); (case side1 => repeat (first | exact (Kd.C_below HR0.out HB.out) | (with_reducible refine Kd.C_alloc ?_ _) | (with_reducible refine Kd.C_drewN ?_ _) | (with_reducible refine Kd.C_drew ?_))); (case side2 => exact HC0.out); (case side3 => repeat (first | exact (Kd.C_below HR1.out HB.out) | (with_reducible refine Kd.C_alloc ?_ _) | (with_reducible refine Kd.C_drewN ?_ _) | (with_reducible refine Kd.C_drew ?_))); (case side4 => exact HC1.out); rintro e w' ⟨rfl, ⟨nd, rfl⟩⟩; refine ⟨_, rfl, ?_⟩))
                      go_ret
                      exact ⟨by first | rfl | (simp [errW_none, errW_some] <;> rfl) | (simp [*, errW_none, errW_some] <;> rfl), by repeat (first | (with_reducible first | exact HB.out | apply below_alloc | apply pw_below_drewN | apply below_drew1) | exact HB.out)⟩
                    · rw [if_neg c26] at H
                      have c26b0 : (t326 == t332) = false := beq_eq_false_iff_ne.mpr c26
                      have c26b1 : (t326 != t332) = true := bne_iff_ne.mpr c26
                      obtain rfl := Option.some.inj H
                      go_wp2_with (first | ((with_reducible refine gate_callee (f := 26) rfl ?_); refine goesL_ (some 63) rfl rfl Try.func26 (by kernel_rfl) rfl #[.slice A0 l0.length c0, .slice A1 l1.length c1, .int .i64 a2] rfl (by (try simp only [List.map_toArray, List.map_cons, List.map_nil]); first | done | rfl | (simp only [List.length_drop, List.length_take]; rfl)) ?_; (with_reducible refine (gangsawref35_Align.calls kj11 _ _ l0 _ _ l1 a2 t332 t333 _ ?side1 ?side2 ?side3 ?side4 A24.out).mono ?_); (case side1 => repeat (first | exact (Kd.C_below HR0.out HB.out) | (with_reducible refine Kd.C_alloc ?_ _) | (with_reducible refine Kd.C_drewN ?_ _) | (with_reducible refine Kd.C_drew ?_))); (case side2 => exact HC0.out); (case side3 => repeat (first | exact (Kd.C_below HR1.out HB.out) | (with_reducible refine Kd.C_alloc ?_ _) | (with_reducible refine Kd.C_drewN ?_ _) | (with_reducible refine Kd.C_drew ?_))); (case side4 => exact HC1.out); rintro e w' ⟨rfl, ⟨nd, rfl⟩⟩; refine ⟨_, rfl, ?_⟩))
                      go_ret
                      exact ⟨by first | rfl | (simp [errW_none, errW_some] <;> rfl) | (simp [*, errW_none, errW_some] <;> rfl), by repeat (first | (with_reducible first | exact HB.out | apply below_alloc | apply pw_below_drewN | apply below_drew1) | exact HB.out)⟩
                  · rw [if_neg c25] at H
                    have c25b0 : (t328 == 0) = false := beq_eq_false_iff_ne.mpr c25
                    have c25b1 : (t328 != 0) = true := bne_iff_ne.mpr c25
                    obtain rfl := Option.some.inj H
                    go_wp2_with (first | ((with_reducible refine gate_callee (f := 26) rfl ?_); refine goesL_ (some 63) rfl rfl Try.func26 (by kernel_rfl) rfl #[.slice A0 l0.length c0, .slice A1 l1.length c1, .int .i64 a2] rfl (by (try simp only [List.map_toArray, List.map_cons, List.map_nil]); first | done | rfl | (simp only [List.length_drop, List.length_take]; rfl)) ?_; (with_reducible refine (gangsawref35_Align.calls kj11 _ _ l0 _ _ l1 a2 t332 t333 _ ?side1 ?side2 ?side3 ?side4 A24.out).mono ?_); (case side1 => repeat (first | exact (Kd.C_below HR0.out HB.out) | (with_reducible refine Kd.C_alloc ?_ _) | (with_reducible refine Kd.C_drewN ?_ _) | (with_reducible refine Kd.C_drew ?_))); (case side2 => exact HC0.out); (case side3 => repeat (first | exact (Kd.C_below HR1.out HB.out) | (with_reducible refine Kd.C_alloc ?_ _) | (with_reducible refine Kd.C_drewN ?_ _) | (with_reducible refine Kd.C_drew ?_))); (case side4 => exact HC1.out); rintro e w' ⟨rfl, ⟨nd, rfl⟩⟩; refine ⟨_, rfl, ?_⟩))
                    go_ret
                    exact ⟨by first | rfl | (simp [errW_none, errW_some] <;> rfl) | (simp [*, errW_none, errW_some] <;> rfl), by repeat (first | (with_reducible first | exact HB.out | apply below_alloc | apply pw_below_drewN | apply below_drew1) | exact HB.out)⟩
                · rw [if_neg c23] at H
                  have c23b0 : (t329 == 0) = false := beq_eq_false_iff_ne.mpr c23
                  have c23b1 : (t329 != 0) = true := bne_iff_ne.mpr c23
                  by_cases c27 : t328 = t329
                  · rw [if_pos c27] at H
                    have c27b0 : (t328 == t329) = true := beq_iff_eq.mpr c27
                    have c27b1 : (t328 != t329) = false := bne_eq_false_iff_eq.mpr c27
                    clear c27
                    by_cases c28 : t326 = 0
                    · rw [if_pos c28] at H
                      have c28b0 : (t326 == 0) = true := beq_iff_eq.mpr c28
                      have c28b1 : (t326 != 0) = false := bne_eq_false_iff_eq.mpr c28
                      clear c28
                      obtain rfl := Option.some.inj H
                      go_wp2
                      go_ret
                      exact ⟨by first | rfl | (simp [errW_none, errW_some] <;> rfl) | (simp [*, errW_none, errW_some] <;> rfl), by repeat (first | (with_reducible first | exact HB.out | apply below_alloc | apply pw_below_drewN | apply below_drew1) | exact HB.out)⟩
                    · rw [if_neg c28] at H
                      have c28b0 : (t326 == 0) = false := beq_eq_false_iff_ne.mpr c28
                      have c28b1 : (t326 != 0) = true := bne_iff_ne.mpr c28
                      obtain rfl := Option.some.inj H
                      go_wp2
                      go_ret
                      exact ⟨by first | rfl | (simp [errW_none, errW_some] <;> rfl) | (simp [*, errW_none, errW_some] <;> rfl), by repeat (first | (with_reducible first | exact HB.out | apply below_alloc | apply pw_below_drewN | apply below_drew1) | exact HB.out)⟩
                  · rw [if_neg c27] at H
                    have c27b0 : (t328 == t329) = false := beq_eq_false_iff_ne.mpr c27
                    have c27b1 : (t328 != t329) = true := bne_iff_ne.mpr c27
                    obtain rfl := Option.some.inj H
                    go_wp2
                    go_ret
                    exact ⟨by first | rfl | (simp [errW_none, errW_some] <;> rfl) | (simp [*, errW_none, errW_some] <;> rfl), by repeat (first | (with_reducible first | exact HB.out | apply below_alloc | apply pw_below_drewN | apply below_drew1) | exact HB.out)⟩
  · replace c5 := Bool.eq_false_iff.mpr c5
    subst c5
    have H1 : (some false) = some r := by rw [if_neg (show ¬ (false = true) by decide)] at H; exact H
    clear H
    have H := H1
    clear H1
    obtain rfl := Option.some.inj H
    go_enter Try.func5, Try.ntmps5
    go_wp2_with (first | ((with_reducible refine gate_callee (f := 12) rfl ?_); refine goesL_ (some 13) rfl rfl Try.func12 (by kernel_rfl) rfl #[] rfl (by (try simp only [List.map_toArray, List.map_cons, List.map_nil]); first | done | rfl | (simp only [List.length_drop, List.length_take]; rfl)) ?_; (with_reducible refine (gangsawlaw35_awake.calls k  false _ A4.out).mono ?_); rintro e w29 ⟨rfl, hb⟩; refine ⟨_, rfl, ?_⟩; have n0_ := Aside0.mk (below_step (by repeat (first | (with_reducible first | exact HB.out | apply below_alloc | apply pw_below_drewN | apply below_drew1) | exact HB.out)) hb); clear HB; have HB := n0_; clear n0_; (try clear hb); (try clear hb2); (try clear hk); (try clear hi)))
    go_ret
    exact ⟨by first | rfl | (simp [errW_none, errW_some] <;> rfl) | (simp [*, errW_none, errW_some] <;> rfl), by repeat (first | (with_reducible first | exact HB.out | apply below_alloc | apply pw_below_drewN | apply below_drew1) | exact HB.out)⟩

/-- THE ONE PURE STATEMENT of gangsawlaw35_ColourAligns. -/
def gangsawlaw35_ColourAligns.Pure : Prop := ∀ (l0 : List Int) (l1 : List Int) (a2 : Int), (gSl (gInt .i64)) l0 → (gSl (gInt .i64)) l1 → (gInt .i64) a2 → ∃ k, gangsawlaw35_ColourAligns.f k l0 l1 a2 = some true
theorem gangsawlaw35_ColourAligns.walk (P : gangsawlaw35_ColourAligns.Pure) (A0 : Option Addr) (c0 : Nat) (l0 : List Int) (A1 : Option Addr) (c1 : Nat) (l1 : List Int) (a2 : Int) (w : World) (w0 : (gSl (gInt .i64)) l0) (w1 : (gSl (gInt .i64)) l1) (w2 : (gInt .i64) a2) (hr0 : Kd.C (Kd.int .i64) w A0 l0.length l0) (hc0 : l0.length ≤ c0) (hr1 : Kd.C (Kd.int .i64) w A1 l1.length l1) (hc1 : l1.length ≤ c1) :
    Calls Try.prog 5 #[.slice A0 l0.length c0, .slice A1 l1.length c1, .int .i64 a2] w fun e w' => e = .returned (.bool true) ∧ Below w.heap.size w w' := by
  obtain ⟨k, h⟩ := P l0 l1 a2 w0 w1 w2
  refine (gangsawlaw35_ColourAligns.calls k _ _ l0 _ _ l1 a2 true w hr0 hc0 hr1 hc1 h).mono ?_
  rintro e w' ⟨rfl, hd⟩
  exact ⟨rfl, hd⟩

/-! ### gangsawref35_Short: function 27 -/
def gangsawref35_Short.f (a0_0 : ByteArray) (a0_1 : ByteArray) (a0_2 : Int) (a0_3 : Int) (a0_4 : Int) (a0_5 : Int) (a0_6 : Int) (a0_7 : Int) (a0_8 : Int) (a0_9 : Int) (l0_10 : List Int) (l0_11 : List Int) : Option (Bool) := if (l0_10.length : Int) ≤ 80 then (some (decide ((l0_11.length : Int) ≤ 80))) else (some false)
set_option maxHeartbeats 8000000 in
set_option maxRecDepth 100000 in
theorem gangsawref35_Short.calls (a0_0 : ByteArray) (a0_1 : ByteArray) (a0_2 : Int) (a0_3 : Int) (a0_4 : Int) (a0_5 : Int) (a0_6 : Int) (a0_7 : Int) (a0_8 : Int) (a0_9 : Int) (A0_10 : Option Addr) (c0_10 : Nat) (l0_10 : List Int) (A0_11 : Option Addr) (c0_11 : Nat) (l0_11 : List Int) (r : Bool) (w : World) (hr0_10 : Kd.C (Kd.int .i64) w A0_10 l0_10.length l0_10) (hc0_10 : l0_10.length ≤ c0_10) (hr0_11 : Kd.C (Kd.int .i64) w A0_11 l0_11.length l0_11) (hc0_11 : l0_11.length ≤ c0_11) (h : gangsawref35_Short.f a0_0 a0_1 a0_2 a0_3 a0_4 a0_5 a0_6 a0_7 a0_8 a0_9 l0_10 l0_11 = some r) :
    Calls Try.prog 27 #[.agg #[.string a0_0, .string a0_1, .int .i64 a0_2, .int .i64 a0_3, .int .i64 a0_4, .int .i64 a0_5, .int .i64 a0_6, .int .i64 a0_7, .int .i64 a0_8, .int .i64 a0_9, .slice A0_10 l0_10.length c0_10, .slice A0_11 l0_11.length c0_11]] w fun e w' => e = .returned (.bool r) ∧ Below w.heap.size w w' := by
  have hu47 := Try.underlying47
  have HR0_10 := Aside0.mk hr0_10
  have HC0_10 := Aside0.mk hc0_10
  clear hr0_10 hc0_10
  have HR0_11 := Aside0.mk hr0_11
  have HC0_11 := Aside0.mk hc0_11
  clear hr0_11 hc0_11
  have HB := Aside0.mk (Below.refl w.heap.size w)
  have H : (if (l0_10.length : Int) ≤ 80 then (some (decide ((l0_11.length : Int) ≤ 80))) else (some false)) = some r := h
  clear h
  by_cases c2 : (l0_10.length : Int) ≤ 80
  · rw [if_pos c2] at H
    have c2b0 : decide ((l0_10.length : Int) ≤ 80) = true := decide_eq_true c2
    have c2b1 : decide (l0_10.length ≤ 80) = true := decide_eq_true (by omega)
    clear c2
    obtain rfl := Option.some.inj H
    go_enter Try.func27, Try.ntmps27
    go_wp2_with (first | ((with_reducible refine gate_dst (N := 1) rfl ?_); refine box_event ?hg (N := 1) ?hd (cs := #[.string a0_0, .string a0_1, .int .i64 a0_2, .int .i64 a0_3, .int .i64 a0_4, .int .i64 a0_5, .int .i64 a0_6, .int .i64 a0_7, .int .i64 a0_8, .int .i64 a0_9, .slice A0_10 l0_10.length c0_10, .slice A0_11 l0_11.length c0_11]) (t := 47) ?hr ?_; (case hd => rfl); (case hg => first | rfl | (go_simp; done)); (case hr => first | (go_simp; done) | (go_simp; rfl)); intro gb334 hg w3 hbox hb; have n0_ := Aside0.mk (below_step (by repeat (first | (with_reducible first | exact HB.out | apply below_alloc | apply pw_below_drewN | apply below_drew1) | exact HB.out)) hb); have n1_ := Aside0.mk (hbox); have n2_ := Aside0.mk ((by rw [hg]; exact (below_size (by repeat (first | (with_reducible first | exact HB.out | apply below_alloc | apply pw_below_drewN | apply below_drew1) | exact HB.out))) : w.heap.size ≤ gb334)); have n3_ := Aside0.mk ((by rw [hg]; exact (below_size (by repeat (first | (with_reducible first | exact HB.out | apply below_alloc | apply pw_below_drewN | apply below_drew1) | exact HB.out))) : w.heap.size ≤ gb334)); clear HB; have HB := n0_; have BK334 := n1_; have GW334 := n2_; have GE334 := n3_; clear n0_ n1_ n2_ n3_; clear hb hbox hg; have hcz4_0 : w3.cell? ⟨gb334, 0, none⟩ = some (.string a0_0) := (blk_cell BK334.out 0).trans rfl; have hcz4_1 : w3.cell? ⟨gb334, 1, none⟩ = some (.string a0_1) := (blk_cell BK334.out 1).trans rfl; have hcz4_2 : w3.cell? ⟨gb334, 2, none⟩ = some (.int .i64 a0_2) := (blk_cell BK334.out 2).trans rfl; have hcz4_3 : w3.cell? ⟨gb334, 3, none⟩ = some (.int .i64 a0_3) := (blk_cell BK334.out 3).trans rfl; have hcz4_4 : w3.cell? ⟨gb334, 4, none⟩ = some (.int .i64 a0_4) := (blk_cell BK334.out 4).trans rfl; have hcz4_5 : w3.cell? ⟨gb334, 5, none⟩ = some (.int .i64 a0_5) := (blk_cell BK334.out 5).trans rfl; have hcz4_6 : w3.cell? ⟨gb334, 6, none⟩ = some (.int .i64 a0_6) := (blk_cell BK334.out 6).trans rfl; have hcz4_7 : w3.cell? ⟨gb334, 7, none⟩ = some (.int .i64 a0_7) := (blk_cell BK334.out 7).trans rfl; have hcz4_8 : w3.cell? ⟨gb334, 8, none⟩ = some (.int .i64 a0_8) := (blk_cell BK334.out 8).trans rfl; have hcz4_9 : w3.cell? ⟨gb334, 9, none⟩ = some (.int .i64 a0_9) := (blk_cell BK334.out 9).trans rfl; have hcz4_10 : w3.cell? ⟨gb334, 10, none⟩ = some (.slice A0_10 l0_10.length c0_10) := (blk_cell BK334.out 10).trans rfl; have hcz4_11 : w3.cell? ⟨gb334, 11, none⟩ = some (.slice A0_11 l0_11.length c0_11) := (blk_cell BK334.out 11).trans rfl; have hfz4_0 := blk_frozen BK334.out 0; have hfz4_1 := blk_frozen BK334.out 1; have hfz4_2 := blk_frozen BK334.out 2; have hfz4_3 := blk_frozen BK334.out 3; have hfz4_4 := blk_frozen BK334.out 4; have hfz4_5 := blk_frozen BK334.out 5; have hfz4_6 := blk_frozen BK334.out 6; have hfz4_7 := blk_frozen BK334.out 7; have hfz4_8 := blk_frozen BK334.out 8; have hfz4_9 := blk_frozen BK334.out 9; have hfz4_10 := blk_frozen BK334.out 10; have hfz4_11 := blk_frozen BK334.out 11))
    go_ret
    exact ⟨by first | rfl | (simp [errW_none, errW_some] <;> rfl) | (simp [*, errW_none, errW_some] <;> rfl), by repeat (first | (with_reducible first | exact HB.out | apply below_alloc | apply pw_below_drewN | apply below_drew1 | refine below_set ?_ GE334.out) | exact HB.out)⟩
  · rw [if_neg c2] at H
    have c2b0 : decide ((l0_10.length : Int) ≤ 80) = false := decide_eq_false c2
    have c2b1 : decide (l0_10.length ≤ 80) = false := decide_eq_false (by omega)
    clear c2
    obtain rfl := Option.some.inj H
    go_enter Try.func27, Try.ntmps27
    go_wp2_with (first | ((with_reducible refine gate_dst (N := 1) rfl ?_); refine box_event ?hg (N := 1) ?hd (cs := #[.string a0_0, .string a0_1, .int .i64 a0_2, .int .i64 a0_3, .int .i64 a0_4, .int .i64 a0_5, .int .i64 a0_6, .int .i64 a0_7, .int .i64 a0_8, .int .i64 a0_9, .slice A0_10 l0_10.length c0_10, .slice A0_11 l0_11.length c0_11]) (t := 47) ?hr ?_; (case hd => rfl); (case hg => first | rfl | (go_simp; done)); (case hr => first | (go_simp; done) | (go_simp; rfl)); intro gb334 hg w5 hbox hb; have n0_ := Aside0.mk (below_step (by repeat (first | (with_reducible first | exact HB.out | apply below_alloc | apply pw_below_drewN | apply below_drew1) | exact HB.out)) hb); have n1_ := Aside0.mk (hbox); have n2_ := Aside0.mk ((by rw [hg]; exact (below_size (by repeat (first | (with_reducible first | exact HB.out | apply below_alloc | apply pw_below_drewN | apply below_drew1) | exact HB.out))) : w.heap.size ≤ gb334)); have n3_ := Aside0.mk ((by rw [hg]; exact (below_size (by repeat (first | (with_reducible first | exact HB.out | apply below_alloc | apply pw_below_drewN | apply below_drew1) | exact HB.out))) : w.heap.size ≤ gb334)); clear HB; have HB := n0_; have BK334 := n1_; have GW334 := n2_; have GE334 := n3_; clear n0_ n1_ n2_ n3_; clear hb hbox hg; have hcz6_0 : w5.cell? ⟨gb334, 0, none⟩ = some (.string a0_0) := (blk_cell BK334.out 0).trans rfl; have hcz6_1 : w5.cell? ⟨gb334, 1, none⟩ = some (.string a0_1) := (blk_cell BK334.out 1).trans rfl; have hcz6_2 : w5.cell? ⟨gb334, 2, none⟩ = some (.int .i64 a0_2) := (blk_cell BK334.out 2).trans rfl; have hcz6_3 : w5.cell? ⟨gb334, 3, none⟩ = some (.int .i64 a0_3) := (blk_cell BK334.out 3).trans rfl; have hcz6_4 : w5.cell? ⟨gb334, 4, none⟩ = some (.int .i64 a0_4) := (blk_cell BK334.out 4).trans rfl; have hcz6_5 : w5.cell? ⟨gb334, 5, none⟩ = some (.int .i64 a0_5) := (blk_cell BK334.out 5).trans rfl; have hcz6_6 : w5.cell? ⟨gb334, 6, none⟩ = some (.int .i64 a0_6) := (blk_cell BK334.out 6).trans rfl; have hcz6_7 : w5.cell? ⟨gb334, 7, none⟩ = some (.int .i64 a0_7) := (blk_cell BK334.out 7).trans rfl; have hcz6_8 : w5.cell? ⟨gb334, 8, none⟩ = some (.int .i64 a0_8) := (blk_cell BK334.out 8).trans rfl; have hcz6_9 : w5.cell? ⟨gb334, 9, none⟩ = some (.int .i64 a0_9) := (blk_cell BK334.out 9).trans rfl; have hcz6_10 : w5.cell? ⟨gb334, 10, none⟩ = some (.slice A0_10 l0_10.length c0_10) := (blk_cell BK334.out 10).trans rfl; have hcz6_11 : w5.cell? ⟨gb334, 11, none⟩ = some (.slice A0_11 l0_11.length c0_11) := (blk_cell BK334.out 11).trans rfl; have hfz6_0 := blk_frozen BK334.out 0; have hfz6_1 := blk_frozen BK334.out 1; have hfz6_2 := blk_frozen BK334.out 2; have hfz6_3 := blk_frozen BK334.out 3; have hfz6_4 := blk_frozen BK334.out 4; have hfz6_5 := blk_frozen BK334.out 5; have hfz6_6 := blk_frozen BK334.out 6; have hfz6_7 := blk_frozen BK334.out 7; have hfz6_8 := blk_frozen BK334.out 8; have hfz6_9 := blk_frozen BK334.out 9; have hfz6_10 := blk_frozen BK334.out 10; have hfz6_11 := blk_frozen BK334.out 11))
    go_ret
    exact ⟨by first | rfl | (simp [errW_none, errW_some] <;> rfl) | (simp [*, errW_none, errW_some] <;> rfl), by repeat (first | (with_reducible first | exact HB.out | apply below_alloc | apply pw_below_drewN | apply below_drew1 | refine below_set ?_ GE334.out) | exact HB.out)⟩

/-! ### gangsawref35_Face: function 29 -/
def gangsawref35_Face.f (k : Nat) (a0_0 : ByteArray) (a0_1 : ByteArray) (a0_2 : Int) (a0_3 : Int) (a0_4 : Int) (a0_5 : Int) (a0_6 : Int) (a0_7 : Int) (a0_8 : Int) (a0_9 : Int) (l0_10 : List Int) (l0_11 : List Int) (a1 : Bool) : Option (List Int × Int) := if a1 = true then ((gangsawref35_Mirror.f k l0_11).bind fun t336 => ((gangsawref35_Check.f k t336).bind fun t339 => (if t339 = 0 then (some (t336, 0)) else (some (([] : List Int), t339))))) else ((gangsawref35_Check.f k l0_10).bind fun t340 => (if t340 = 0 then (some (l0_10, 0)) else (some (([] : List Int), t340))))
theorem gangsawref35_Face.mono : ∀ a0 a1 a2 a3 a4 a5 a6 a7 a8 a9 a10 a11 a12 k, LeO (gangsawref35_Face.f k a0 a1 a2 a3 a4 a5 a6 a7 a8 a9 a10 a11 a12) (gangsawref35_Face.f (k + 1) a0 a1 a2 a3 a4 a5 a6 a7 a8 a9 a10 a11 a12) := by
  intro a0 a1 a2 a3 a4 a5 a6 a7 a8 a9 a10 a11 a12 k
  unfold gangsawref35_Face.f
  repeat' first
      | (with_reducible exact gangsawref35_Check.mono _ _)
      | (with_reducible exact gangsawref35_Mirror.mono _ _)
      | (with_reducible exact LeO.refl _)
      | (with_reducible exact LeO.none _)
      | (with_reducible refine LeO.ite ?_ ?_)
      | (with_reducible refine LeO.bind ?_ (fun _ => ?_))
      | exact gangsawref35_Check.mono _ _
      | exact gangsawref35_Mirror.mono _ _
      | exact LeO.none _
      | refine LeO.ite ?_ ?_
      | refine LeO.bind ?_ (fun _ => ?_)
set_option maxHeartbeats 8000000 in
set_option maxRecDepth 100000 in
theorem gangsawref35_Face.calls (k : Nat) (a0_0 : ByteArray) (a0_1 : ByteArray) (a0_2 : Int) (a0_3 : Int) (a0_4 : Int) (a0_5 : Int) (a0_6 : Int) (a0_7 : Int) (a0_8 : Int) (a0_9 : Int) (P0_10_ : Nat → Prop) (u9000_ : Value) (l0_10 : List Int) (A0_11 : Option Addr) (c0_11 : Nat) (l0_11 : List Int) (a1 : Bool) (r1 : List Int) (r2 : Int) (w0 w : World) (hB : Below w0.heap.size w0 w) (ho0_10 : Kd.R (Kd.int .i64) 3 w w0.heap.size P0_10_ u9000_ l0_10) (hr0_11 : ∀ W_, Kept w W_ (fun k_ => P0_10_ k_) → Kd.C (Kd.int .i64) W_ A0_11 l0_11.length l0_11) (hc0_11 : l0_11.length ≤ c0_11) (h : gangsawref35_Face.f k a0_0 a0_1 a0_2 a0_3 a0_4 a0_5 a0_6 a0_7 a0_8 a0_9 l0_10 l0_11 a1 = some (r1, r2)) :
    Calls Try.prog 29 #[.agg #[.string a0_0, .string a0_1, .int .i64 a0_2, .int .i64 a0_3, .int .i64 a0_4, .int .i64 a0_5, .int .i64 a0_6, .int .i64 a0_7, .int .i64 a0_8, .int .i64 a0_9, u9000_, .slice A0_11 l0_11.length c0_11], .bool a1] w fun e w' => ∃ v0_ : Value, e = .returned (.tuple #[v0_, .int .i64 r2]) ∧ Kd.R (Kd.int .i64) 3 w' w0.heap.size (fun k_ => (P0_10_ k_ ∨ w.heap.size ≤ k_)) v0_ r1 ∧ Below w0.heap.size w0 w' ∧ Kept w w' (fun k_ => P0_10_ k_) := by
  have hu47 := Try.underlying47
  have HO0_10 := Aside0.mk (show Kd.R (Kd.int .i64) 3 w w0.heap.size (fun k_ => (P0_10_ k_ ∨ w.heap.size ≤ k_)) u9000_ l0_10 from Kd.R_mono ho0_10 (fun k_ hk => (.inl hk)))
  have HR0_11 := Aside0.mk hr0_11
  have HC0_11 := Aside0.mk hc0_11
  clear hr0_11 hc0_11
  have HK := Aside0.mk (Kept.refl w (fun k_ => P0_10_ k_))
  have HW0 := Aside0.mk hB.size
  have HB := Aside0.mk hB
  clear hB
  have H : (if a1 = true then ((gangsawref35_Mirror.f k l0_11).bind fun t336 => ((gangsawref35_Check.f k t336).bind fun t339 => (if t339 = 0 then (some (t336, 0)) else (some (([] : List Int), t339))))) else ((gangsawref35_Check.f k l0_10).bind fun t340 => (if t340 = 0 then (some (l0_10, 0)) else (some (([] : List Int), t340))))) = some (r1, r2) := h
  clear h
  by_cases c3 : a1 = true
  · subst c3
    have H1 : ((gangsawref35_Mirror.f k l0_11).bind fun t336 => ((gangsawref35_Check.f k t336).bind fun t339 => (if t339 = 0 then (some (t336, 0)) else (some (([] : List Int), t339))))) = some (r1, r2) := by rw [if_pos rfl] at H; exact H
    clear H
    have H := H1
    clear H1
    replace H := Option.bind_eq_some_iff.mp H
    obtain ⟨t336, A40, H⟩ := H
    replace H : ((gangsawref35_Check.f k t336).bind fun t339 => (if t339 = 0 then (some (t336, 0)) else (some (([] : List Int), t339)))) = some (r1, r2) := H
    have A4 := Aside0.mk A40
    clear A40
    replace H := Option.bind_eq_some_iff.mp H
    obtain ⟨t339, A50, H⟩ := H
    replace H : (if t339 = 0 then (some (t336, 0)) else (some (([] : List Int), t339))) = some (r1, r2) := H
    have A5 := Aside0.mk A50
    clear A50
    by_cases c6 : t339 = 0
    · rw [if_pos c6] at H
      have c6b0 : (t339 == 0) = true := beq_iff_eq.mpr c6
      have c6b1 : (t339 != 0) = false := bne_eq_false_iff_eq.mpr c6
      clear c6
      simp only [Option.some.injEq, Prod.mk.injEq] at H
      obtain ⟨rfl, rfl⟩ := H
      obtain ⟨Ao7, co7, eo7⟩ := Kd.R_slice HO0_10.out
      subst eo7
      go_enter Try.func29, Try.ntmps29
      go_wp2_with (first | ((with_reducible refine gate_dst (N := 2) rfl ?_); refine box_event ?hg (N := 2) ?hd (cs := #[.string a0_0, .string a0_1, .int .i64 a0_2, .int .i64 a0_3, .int .i64 a0_4, .int .i64 a0_5, .int .i64 a0_6, .int .i64 a0_7, .int .i64 a0_8, .int .i64 a0_9, .slice Ao7 l0_10.length co7, .slice A0_11 l0_11.length c0_11]) (t := 47) ?hr ?_; (case hd => rfl); (case hg => first | rfl | (go_simp; done)); (case hr => first | (go_simp; done) | (go_simp; rfl)); intro gb335 hg w8 hbox hb; have n0_ := Aside0.mk (Kd.R_below (by (with_reducible repeat (first | apply Kd.R_alloc | apply Kd.R_drewN | apply Kd.R_drew)); exact HO0_10.out) hb); have n1_ := Aside0.mk (Kept.below (S := (fun k_ => P0_10_ k_)) (by repeat (first | (with_reducible first | exact HK.out | apply Kept.alloc | apply Kept.drewN | apply Kept.drew) | exact HK.out)) hb); have n2_ := Aside0.mk (below_step (by repeat (first | (with_reducible first | exact HB.out | apply below_alloc | apply pw_below_drewN | apply below_drew1) | exact HB.out)) hb); have n3_ := Aside0.mk (hbox); have n4_ := Aside0.mk ((by rw [hg]; exact (by first | exact HK.out.1 | exact (show Kept w _ (fun k_ => P0_10_ k_) from by repeat (first | (with_reducible first | exact HK.out | apply Kept.alloc | apply Kept.drewN | apply Kept.drew) | exact HK.out)).1) : w.heap.size ≤ gb335)); have n5_ := Aside0.mk ((by rw [hg]; exact (below_size (by repeat (first | (with_reducible first | exact HB.out | apply below_alloc | apply pw_below_drewN | apply below_drew1) | exact HB.out))) : w0.heap.size ≤ gb335)); clear HO0_10; clear HK; clear HB; have HO0_10 := n0_; have HK := n1_; have HB := n2_; have BK335 := n3_; have GW335 := n4_; have GE335 := n5_; clear n0_ n1_ n2_ n3_ n4_ n5_; clear hb hbox hg; have hcz9_0 : w8.cell? ⟨gb335, 0, none⟩ = some (.string a0_0) := (blk_cell BK335.out 0).trans rfl; have hcz9_1 : w8.cell? ⟨gb335, 1, none⟩ = some (.string a0_1) := (blk_cell BK335.out 1).trans rfl; have hcz9_2 : w8.cell? ⟨gb335, 2, none⟩ = some (.int .i64 a0_2) := (blk_cell BK335.out 2).trans rfl; have hcz9_3 : w8.cell? ⟨gb335, 3, none⟩ = some (.int .i64 a0_3) := (blk_cell BK335.out 3).trans rfl; have hcz9_4 : w8.cell? ⟨gb335, 4, none⟩ = some (.int .i64 a0_4) := (blk_cell BK335.out 4).trans rfl; have hcz9_5 : w8.cell? ⟨gb335, 5, none⟩ = some (.int .i64 a0_5) := (blk_cell BK335.out 5).trans rfl; have hcz9_6 : w8.cell? ⟨gb335, 6, none⟩ = some (.int .i64 a0_6) := (blk_cell BK335.out 6).trans rfl; have hcz9_7 : w8.cell? ⟨gb335, 7, none⟩ = some (.int .i64 a0_7) := (blk_cell BK335.out 7).trans rfl; have hcz9_8 : w8.cell? ⟨gb335, 8, none⟩ = some (.int .i64 a0_8) := (blk_cell BK335.out 8).trans rfl; have hcz9_9 : w8.cell? ⟨gb335, 9, none⟩ = some (.int .i64 a0_9) := (blk_cell BK335.out 9).trans rfl; have hcz9_10 : w8.cell? ⟨gb335, 10, none⟩ = some (.slice Ao7 l0_10.length co7) := (blk_cell BK335.out 10).trans rfl; have hcz9_11 : w8.cell? ⟨gb335, 11, none⟩ = some (.slice A0_11 l0_11.length c0_11) := (blk_cell BK335.out 11).trans rfl; have hfz9_0 := blk_frozen BK335.out 0; have hfz9_1 := blk_frozen BK335.out 1; have hfz9_2 := blk_frozen BK335.out 2; have hfz9_3 := blk_frozen BK335.out 3; have hfz9_4 := blk_frozen BK335.out 4; have hfz9_5 := blk_frozen BK335.out 5; have hfz9_6 := blk_frozen BK335.out 6; have hfz9_7 := blk_frozen BK335.out 7; have hfz9_8 := blk_frozen BK335.out 8; have hfz9_9 := blk_frozen BK335.out 9; have hfz9_10 := blk_frozen BK335.out 10; have hfz9_11 := blk_frozen BK335.out 11) | ((with_reducible refine gate_callee (f := 18) rfl ?_); refine goesL_ (some 13) rfl rfl Try.func18 (by kernel_rfl) rfl #[.slice A0_11 l0_11.length c0_11] rfl (by (try simp only [List.map_toArray, List.map_cons, List.map_nil]); first | done | rfl | (simp only [List.length_drop, List.length_take]; rfl)) ?_; (with_reducible refine (gangsawref35_Mirror.calls k _ _ l0_11 t336 _ ?side1 ?side2 A4.out).mono ?_); (case side1 => exact Kd.C_kept_now HR0_11.out (by repeat (first | (with_reducible first | exact HK.out | apply Kept.alloc | apply Kept.drewN | apply Kept.drew | refine Kept.setCell ?_ (.inr GW335.out) _) | exact HK.out))); (case side2 => exact HC0_11.out); rintro e w10 ⟨v337, rfl, ho0, hb⟩; refine ⟨_, rfl, ?_⟩; have n0_ := Aside0.mk (Kd.R_elder' (by (with_reducible repeat (first | apply Kd.R_alloc | apply Kd.R_drewN | apply Kd.R_drew)); exact HO0_10.out) (Kd.R_base ho0) hb); have n1_ := Aside0.mk (Kd.R_lower (Kd.R_new' (Kd.R_newM (M := fun k_ => (P0_10_ k_ ∨ w.heap.size ≤ k_)) ho0 (by first | exact HK.out.1 | exact (show Kept w _ (fun k_ => P0_10_ k_) from by repeat (first | (with_reducible first | exact HK.out | apply Kept.alloc | apply Kept.drewN | apply Kept.drew | refine Kept.setCell ?_ (.inr GW335.out) _) | exact HK.out)).1) (fun k_ h_ => .inr h_)) (Kd.R_lt (by (with_reducible repeat (first | apply Kd.R_alloc | apply Kd.R_drewN | apply Kd.R_drew)); exact HO0_10.out))) (below_size (by repeat (first | (with_reducible first | exact HB.out | apply below_alloc | apply pw_below_drewN | apply below_drew1 | refine below_set ?_ GE335.out) | exact HB.out)))); have n2_ := Aside0.mk (blk_below (g := gb335) (o := .cells #[.string a0_0, .string a0_1, .int .i64 a0_2, .int .i64 a0_3, .int .i64 a0_4, .int .i64 a0_5, .int .i64 a0_6, .int .i64 a0_7, .int .i64 a0_8, .int .i64 a0_9, .slice Ao7 l0_10.length co7, .slice A0_11 l0_11.length c0_11] 47 (0, 0)) (by (with_reducible repeat (first | refine blk_drewN ?_ _ | refine blk_drew ?_ | refine blk_alloc ?_ _)); exact BK335.out) hb); have n3_ := Aside0.mk (Kept.below (S := (fun k_ => P0_10_ k_)) (by repeat (first | (with_reducible first | exact HK.out | apply Kept.alloc | apply Kept.drewN | apply Kept.drew | refine Kept.setCell ?_ (.inr GW335.out) _) | exact HK.out)) hb); have n4_ := Aside0.mk (below_step (by repeat (first | (with_reducible first | exact HB.out | apply below_alloc | apply pw_below_drewN | apply below_drew1 | refine below_set ?_ GE335.out) | exact HB.out)) hb); clear HO0_10; clear BK335; clear HK; clear HB; have HO0_10 := n0_; have HO338 := n1_; have BK335 := n2_; have HK := n3_; have HB := n4_; clear n0_ n1_ n2_ n3_ n4_; (try clear hb); (try clear hb2); (try clear hk); (try clear hi); (try clear ho0); obtain ⟨Ao11, co11, eo11⟩ := Kd.R_slice HO338.out; subst eo11) | ((with_reducible refine gate_callee (f := 13) rfl ?_); refine goesL_ (some 15) rfl rfl Try.func13 (by kernel_rfl) rfl #[.slice Ao11 t336.length co11] rfl (by (try simp only [List.map_toArray, List.map_cons, List.map_nil]); first | done | rfl | (simp only [List.length_drop, List.length_take]; rfl)) ?_; (with_reducible refine (gangsawref35_Check.calls k _ _ t336 t339 _ ?side1 ?side2 A5.out).mono ?_); (case side1 => repeat (first | exact (Kd.R_reads' HO338.out).2.2 | (with_reducible refine Kd.C_alloc ?_ _) | (with_reducible refine Kd.C_drewN ?_ _) | (with_reducible refine Kd.C_drew ?_))); (case side2 => exact (Kd.R_reads' HO338.out).2.1); rintro e w' ⟨rfl, ⟨nd, rfl⟩⟩; refine ⟨_, rfl, ?_⟩))
      go_ret2
      exact ⟨_, by first | rfl | (simp [errW_none, errW_some] <;> rfl) | (simp [*, errW_none, errW_some] <;> rfl), by (with_reducible repeat (first | apply Kd.R_alloc | apply Kd.R_drewN | apply Kd.R_drew)); exact Kd.R_mono HO338.out (fun _ hk => hk.1.1), by repeat (first | (with_reducible first | exact HB.out | apply below_alloc | apply pw_below_drewN | apply below_drew1 | refine below_set ?_ GE335.out) | exact HB.out), by repeat (first | (with_reducible first | exact HK.out | apply Kept.alloc | apply Kept.drewN | apply Kept.drew | refine Kept.setCell ?_ (.inr GW335.out) _) | exact HK.out)⟩
    · rw [if_neg c6] at H
      have c6b0 : (t339 == 0) = false := beq_eq_false_iff_ne.mpr c6
      have c6b1 : (t339 != 0) = true := bne_iff_ne.mpr c6
      simp only [Option.some.injEq, Prod.mk.injEq] at H
      obtain ⟨rfl, rfl⟩ := H
      obtain ⟨Ao12, co12, eo12⟩ := Kd.R_slice HO0_10.out
      subst eo12
      go_enter Try.func29, Try.ntmps29
      go_wp2_with (first | ((with_reducible refine gate_dst (N := 2) rfl ?_); refine box_event ?hg (N := 2) ?hd (cs := #[.string a0_0, .string a0_1, .int .i64 a0_2, .int .i64 a0_3, .int .i64 a0_4, .int .i64 a0_5, .int .i64 a0_6, .int .i64 a0_7, .int .i64 a0_8, .int .i64 a0_9, .slice Ao12 l0_10.length co12, .slice A0_11 l0_11.length c0_11]) (t := 47) ?hr ?_; (case hd => rfl); (case hg => first | rfl | (go_simp; done)); (case hr => first | (go_simp; done) | (go_simp; rfl)); intro gb335 hg w13 hbox hb; have n0_ := Aside0.mk (Kd.R_below (by (with_reducible repeat (first | apply Kd.R_alloc | apply Kd.R_drewN | apply Kd.R_drew)); exact HO0_10.out) hb); have n1_ := Aside0.mk (Kept.below (S := (fun k_ => P0_10_ k_)) (by repeat (first | (with_reducible first | exact HK.out | apply Kept.alloc | apply Kept.drewN | apply Kept.drew) | exact HK.out)) hb); have n2_ := Aside0.mk (below_step (by repeat (first | (with_reducible first | exact HB.out | apply below_alloc | apply pw_below_drewN | apply below_drew1) | exact HB.out)) hb); have n3_ := Aside0.mk (hbox); have n4_ := Aside0.mk ((by rw [hg]; exact (by first | exact HK.out.1 | exact (show Kept w _ (fun k_ => P0_10_ k_) from by repeat (first | (with_reducible first | exact HK.out | apply Kept.alloc | apply Kept.drewN | apply Kept.drew) | exact HK.out)).1) : w.heap.size ≤ gb335)); have n5_ := Aside0.mk ((by rw [hg]; exact (below_size (by repeat (first | (with_reducible first | exact HB.out | apply below_alloc | apply pw_below_drewN | apply below_drew1) | exact HB.out))) : w0.heap.size ≤ gb335)); clear HO0_10; clear HK; clear HB; have HO0_10 := n0_; have HK := n1_; have HB := n2_; have BK335 := n3_; have GW335 := n4_; have GE335 := n5_; clear n0_ n1_ n2_ n3_ n4_ n5_; clear hb hbox hg; have hcz14_0 : w13.cell? ⟨gb335, 0, none⟩ = some (.string a0_0) := (blk_cell BK335.out 0).trans rfl; have hcz14_1 : w13.cell? ⟨gb335, 1, none⟩ = some (.string a0_1) := (blk_cell BK335.out 1).trans rfl; have hcz14_2 : w13.cell? ⟨gb335, 2, none⟩ = some (.int .i64 a0_2) := (blk_cell BK335.out 2).trans rfl; have hcz14_3 : w13.cell? ⟨gb335, 3, none⟩ = some (.int .i64 a0_3) := (blk_cell BK335.out 3).trans rfl; have hcz14_4 : w13.cell? ⟨gb335, 4, none⟩ = some (.int .i64 a0_4) := (blk_cell BK335.out 4).trans rfl; have hcz14_5 : w13.cell? ⟨gb335, 5, none⟩ = some (.int .i64 a0_5) := (blk_cell BK335.out 5).trans rfl; have hcz14_6 : w13.cell? ⟨gb335, 6, none⟩ = some (.int .i64 a0_6) := (blk_cell BK335.out 6).trans rfl; have hcz14_7 : w13.cell? ⟨gb335, 7, none⟩ = some (.int .i64 a0_7) := (blk_cell BK335.out 7).trans rfl; have hcz14_8 : w13.cell? ⟨gb335, 8, none⟩ = some (.int .i64 a0_8) := (blk_cell BK335.out 8).trans rfl; have hcz14_9 : w13.cell? ⟨gb335, 9, none⟩ = some (.int .i64 a0_9) := (blk_cell BK335.out 9).trans rfl; have hcz14_10 : w13.cell? ⟨gb335, 10, none⟩ = some (.slice Ao12 l0_10.length co12) := (blk_cell BK335.out 10).trans rfl; have hcz14_11 : w13.cell? ⟨gb335, 11, none⟩ = some (.slice A0_11 l0_11.length c0_11) := (blk_cell BK335.out 11).trans rfl; have hfz14_0 := blk_frozen BK335.out 0; have hfz14_1 := blk_frozen BK335.out 1; have hfz14_2 := blk_frozen BK335.out 2; have hfz14_3 := blk_frozen BK335.out 3; have hfz14_4 := blk_frozen BK335.out 4; have hfz14_5 := blk_frozen BK335.out 5; have hfz14_6 := blk_frozen BK335.out 6; have hfz14_7 := blk_frozen BK335.out 7; have hfz14_8 := blk_frozen BK335.out 8; have hfz14_9 := blk_frozen BK335.out 9; have hfz14_10 := blk_frozen BK335.out 10; have hfz14_11 := blk_frozen BK335.out 11) | ((with_reducible refine gate_callee (f := 18) rfl ?_); refine goesL_ (some 13) rfl rfl Try.func18 (by kernel_rfl) rfl #[.slice A0_11 l0_11.length c0_11] rfl (by (try simp only [List.map_toArray, List.map_cons, List.map_nil]); first | done | rfl | (simp only [List.length_drop, List.length_take]; rfl)) ?_; (with_reducible refine (gangsawref35_Mirror.calls k _ _ l0_11 t336 _ ?side1 ?side2 A4.out).mono ?_); (case side1 => exact Kd.C_kept_now HR0_11.out (by repeat (first | (with_reducible first | exact HK.out | apply Kept.alloc | apply Kept.drewN | apply Kept.drew | refine Kept.setCell ?_ (.inr GW335.out) _) | exact HK.out))); (case side2 => exact HC0_11.out); rintro e w15 ⟨v337, rfl, ho0, hb⟩; refine ⟨_, rfl, ?_⟩; have n0_ := Aside0.mk (Kd.R_elder' (by (with_reducible repeat (first | apply Kd.R_alloc | apply Kd.R_drewN | apply Kd.R_drew)); exact HO0_10.out) (Kd.R_base ho0) hb); have n1_ := Aside0.mk (Kd.R_lower (Kd.R_new' (Kd.R_newM (M := fun k_ => (P0_10_ k_ ∨ w.heap.size ≤ k_)) ho0 (by first | exact HK.out.1 | exact (show Kept w _ (fun k_ => P0_10_ k_) from by repeat (first | (with_reducible first | exact HK.out | apply Kept.alloc | apply Kept.drewN | apply Kept.drew | refine Kept.setCell ?_ (.inr GW335.out) _) | exact HK.out)).1) (fun k_ h_ => .inr h_)) (Kd.R_lt (by (with_reducible repeat (first | apply Kd.R_alloc | apply Kd.R_drewN | apply Kd.R_drew)); exact HO0_10.out))) (below_size (by repeat (first | (with_reducible first | exact HB.out | apply below_alloc | apply pw_below_drewN | apply below_drew1 | refine below_set ?_ GE335.out) | exact HB.out)))); have n2_ := Aside0.mk (blk_below (g := gb335) (o := .cells #[.string a0_0, .string a0_1, .int .i64 a0_2, .int .i64 a0_3, .int .i64 a0_4, .int .i64 a0_5, .int .i64 a0_6, .int .i64 a0_7, .int .i64 a0_8, .int .i64 a0_9, .slice Ao12 l0_10.length co12, .slice A0_11 l0_11.length c0_11] 47 (0, 0)) (by (with_reducible repeat (first | refine blk_drewN ?_ _ | refine blk_drew ?_ | refine blk_alloc ?_ _)); exact BK335.out) hb); have n3_ := Aside0.mk (Kept.below (S := (fun k_ => P0_10_ k_)) (by repeat (first | (with_reducible first | exact HK.out | apply Kept.alloc | apply Kept.drewN | apply Kept.drew | refine Kept.setCell ?_ (.inr GW335.out) _) | exact HK.out)) hb); have n4_ := Aside0.mk (below_step (by repeat (first | (with_reducible first | exact HB.out | apply below_alloc | apply pw_below_drewN | apply below_drew1 | refine below_set ?_ GE335.out) | exact HB.out)) hb); clear HO0_10; clear BK335; clear HK; clear HB; have HO0_10 := n0_; have HO338 := n1_; have BK335 := n2_; have HK := n3_; have HB := n4_; clear n0_ n1_ n2_ n3_ n4_; (try clear hb); (try clear hb2); (try clear hk); (try clear hi); (try clear ho0); obtain ⟨Ao16, co16, eo16⟩ := Kd.R_slice HO338.out; subst eo16) | ((with_reducible refine gate_callee (f := 13) rfl ?_); refine goesL_ (some 15) rfl rfl Try.func13 (by kernel_rfl) rfl #[.slice Ao16 t336.length co16] rfl (by (try simp only [List.map_toArray, List.map_cons, List.map_nil]); first | done | rfl | (simp only [List.length_drop, List.length_take]; rfl)) ?_; (with_reducible refine (gangsawref35_Check.calls k _ _ t336 t339 _ ?side1 ?side2 A5.out).mono ?_); (case side1 => repeat (first | exact (Kd.R_reads' HO338.out).2.2 | (with_reducible refine Kd.C_alloc ?_ _) | (with_reducible refine Kd.C_drewN ?_ _) | (with_reducible refine Kd.C_drew ?_))); (case side2 => exact (Kd.R_reads' HO338.out).2.1); rintro e w' ⟨rfl, ⟨nd, rfl⟩⟩; refine ⟨_, rfl, ?_⟩))
      go_ret2
      exact ⟨_, by first | rfl | (simp [errW_none, errW_some] <;> rfl) | (simp [*, errW_none, errW_some] <;> rfl), by first | exact Kd.R_nil _ _ _ _ _ | exact Kd.N_nil _ _ _ _ _ | exact Kd.V_nil _ _ _ _ _ | exact Kd.Q_nil _ _ _ _ _ | exact Kd.S_nil _ _ _ _ _, by repeat (first | (with_reducible first | exact HB.out | apply below_alloc | apply pw_below_drewN | apply below_drew1 | refine below_set ?_ GE335.out) | exact HB.out), by repeat (first | (with_reducible first | exact HK.out | apply Kept.alloc | apply Kept.drewN | apply Kept.drew | refine Kept.setCell ?_ (.inr GW335.out) _) | exact HK.out)⟩
  · replace c3 := Bool.eq_false_iff.mpr c3
    subst c3
    have H1 : ((gangsawref35_Check.f k l0_10).bind fun t340 => (if t340 = 0 then (some (l0_10, 0)) else (some (([] : List Int), t340)))) = some (r1, r2) := by rw [if_neg (show ¬ (false = true) by decide)] at H; exact H
    clear H
    have H := H1
    clear H1
    replace H := Option.bind_eq_some_iff.mp H
    obtain ⟨t340, A170, H⟩ := H
    replace H : (if t340 = 0 then (some (l0_10, 0)) else (some (([] : List Int), t340))) = some (r1, r2) := H
    have A17 := Aside0.mk A170
    clear A170
    by_cases c18 : t340 = 0
    · rw [if_pos c18] at H
      have c18b0 : (t340 == 0) = true := beq_iff_eq.mpr c18
      have c18b1 : (t340 != 0) = false := bne_eq_false_iff_eq.mpr c18
      clear c18
      simp only [Option.some.injEq, Prod.mk.injEq] at H
      obtain ⟨rfl, rfl⟩ := H
      obtain ⟨Ao19, co19, eo19⟩ := Kd.R_slice HO0_10.out
      subst eo19
      go_enter Try.func29, Try.ntmps29
      go_wp2_with (first | ((with_reducible refine gate_dst (N := 2) rfl ?_); refine box_event ?hg (N := 2) ?hd (cs := #[.string a0_0, .string a0_1, .int .i64 a0_2, .int .i64 a0_3, .int .i64 a0_4, .int .i64 a0_5, .int .i64 a0_6, .int .i64 a0_7, .int .i64 a0_8, .int .i64 a0_9, .slice Ao19 l0_10.length co19, .slice A0_11 l0_11.length c0_11]) (t := 47) ?hr ?_; (case hd => rfl); (case hg => first | rfl | (go_simp; done)); (case hr => first | (go_simp; done) | (go_simp; rfl)); intro gb335 hg w20 hbox hb; have n0_ := Aside0.mk (Kd.R_below (by (with_reducible repeat (first | apply Kd.R_alloc | apply Kd.R_drewN | apply Kd.R_drew)); exact HO0_10.out) hb); have n1_ := Aside0.mk (Kept.below (S := (fun k_ => P0_10_ k_)) (by repeat (first | (with_reducible first | exact HK.out | apply Kept.alloc | apply Kept.drewN | apply Kept.drew) | exact HK.out)) hb); have n2_ := Aside0.mk (below_step (by repeat (first | (with_reducible first | exact HB.out | apply below_alloc | apply pw_below_drewN | apply below_drew1) | exact HB.out)) hb); have n3_ := Aside0.mk (hbox); have n4_ := Aside0.mk ((by rw [hg]; exact (by first | exact HK.out.1 | exact (show Kept w _ (fun k_ => P0_10_ k_) from by repeat (first | (with_reducible first | exact HK.out | apply Kept.alloc | apply Kept.drewN | apply Kept.drew) | exact HK.out)).1) : w.heap.size ≤ gb335)); have n5_ := Aside0.mk ((by rw [hg]; exact (below_size (by repeat (first | (with_reducible first | exact HB.out | apply below_alloc | apply pw_below_drewN | apply below_drew1) | exact HB.out))) : w0.heap.size ≤ gb335)); clear HO0_10; clear HK; clear HB; have HO0_10 := n0_; have HK := n1_; have HB := n2_; have BK335 := n3_; have GW335 := n4_; have GE335 := n5_; clear n0_ n1_ n2_ n3_ n4_ n5_; clear hb hbox hg; have hcz21_0 : w20.cell? ⟨gb335, 0, none⟩ = some (.string a0_0) := (blk_cell BK335.out 0).trans rfl; have hcz21_1 : w20.cell? ⟨gb335, 1, none⟩ = some (.string a0_1) := (blk_cell BK335.out 1).trans rfl; have hcz21_2 : w20.cell? ⟨gb335, 2, none⟩ = some (.int .i64 a0_2) := (blk_cell BK335.out 2).trans rfl; have hcz21_3 : w20.cell? ⟨gb335, 3, none⟩ = some (.int .i64 a0_3) := (blk_cell BK335.out 3).trans rfl; have hcz21_4 : w20.cell? ⟨gb335, 4, none⟩ = some (.int .i64 a0_4) := (blk_cell BK335.out 4).trans rfl; have hcz21_5 : w20.cell? ⟨gb335, 5, none⟩ = some (.int .i64 a0_5) := (blk_cell BK335.out 5).trans rfl; have hcz21_6 : w20.cell? ⟨gb335, 6, none⟩ = some (.int .i64 a0_6) := (blk_cell BK335.out 6).trans rfl; have hcz21_7 : w20.cell? ⟨gb335, 7, none⟩ = some (.int .i64 a0_7) := (blk_cell BK335.out 7).trans rfl; have hcz21_8 : w20.cell? ⟨gb335, 8, none⟩ = some (.int .i64 a0_8) := (blk_cell BK335.out 8).trans rfl; have hcz21_9 : w20.cell? ⟨gb335, 9, none⟩ = some (.int .i64 a0_9) := (blk_cell BK335.out 9).trans rfl; have hcz21_10 : w20.cell? ⟨gb335, 10, none⟩ = some (.slice Ao19 l0_10.length co19) := (blk_cell BK335.out 10).trans rfl; have hcz21_11 : w20.cell? ⟨gb335, 11, none⟩ = some (.slice A0_11 l0_11.length c0_11) := (blk_cell BK335.out 11).trans rfl; have hfz21_0 := blk_frozen BK335.out 0; have hfz21_1 := blk_frozen BK335.out 1; have hfz21_2 := blk_frozen BK335.out 2; have hfz21_3 := blk_frozen BK335.out 3; have hfz21_4 := blk_frozen BK335.out 4; have hfz21_5 := blk_frozen BK335.out 5; have hfz21_6 := blk_frozen BK335.out 6; have hfz21_7 := blk_frozen BK335.out 7; have hfz21_8 := blk_frozen BK335.out 8; have hfz21_9 := blk_frozen BK335.out 9; have hfz21_10 := blk_frozen BK335.out 10; have hfz21_11 := blk_frozen BK335.out 11) | ((with_reducible refine gate_callee (f := 13) rfl ?_); refine goesL_ (some 15) rfl rfl Try.func13 (by kernel_rfl) rfl #[.slice Ao19 l0_10.length co19] rfl (by (try simp only [List.map_toArray, List.map_cons, List.map_nil]); first | done | rfl | (simp only [List.length_drop, List.length_take]; rfl)) ?_; (with_reducible refine (gangsawref35_Check.calls k _ _ l0_10 t340 _ ?side1 ?side2 A17.out).mono ?_); (case side1 => repeat (first | exact (Kd.R_reads' HO0_10.out).2.2 | (with_reducible refine Kd.C_alloc ?_ _) | (with_reducible refine Kd.C_drewN ?_ _) | (with_reducible refine Kd.C_drew ?_))); (case side2 => exact (Kd.R_reads' HO0_10.out).2.1); rintro e w' ⟨rfl, ⟨nd, rfl⟩⟩; refine ⟨_, rfl, ?_⟩))
      go_ret2
      exact ⟨_, by first | rfl | (simp [errW_none, errW_some] <;> rfl) | (simp [*, errW_none, errW_some] <;> rfl), by (with_reducible repeat (first | apply Kd.R_alloc | apply Kd.R_drewN | apply Kd.R_drew)); exact HO0_10.out, by repeat (first | (with_reducible first | exact HB.out | apply below_alloc | apply pw_below_drewN | apply below_drew1 | refine below_set ?_ GE335.out) | exact HB.out), by repeat (first | (with_reducible first | exact HK.out | apply Kept.alloc | apply Kept.drewN | apply Kept.drew | refine Kept.setCell ?_ (.inr GW335.out) _) | exact HK.out)⟩
    · rw [if_neg c18] at H
      have c18b0 : (t340 == 0) = false := beq_eq_false_iff_ne.mpr c18
      have c18b1 : (t340 != 0) = true := bne_iff_ne.mpr c18
      simp only [Option.some.injEq, Prod.mk.injEq] at H
      obtain ⟨rfl, rfl⟩ := H
      obtain ⟨Ao22, co22, eo22⟩ := Kd.R_slice HO0_10.out
      subst eo22
      go_enter Try.func29, Try.ntmps29
      go_wp2_with (first | ((with_reducible refine gate_dst (N := 2) rfl ?_); refine box_event ?hg (N := 2) ?hd (cs := #[.string a0_0, .string a0_1, .int .i64 a0_2, .int .i64 a0_3, .int .i64 a0_4, .int .i64 a0_5, .int .i64 a0_6, .int .i64 a0_7, .int .i64 a0_8, .int .i64 a0_9, .slice Ao22 l0_10.length co22, .slice A0_11 l0_11.length c0_11]) (t := 47) ?hr ?_; (case hd => rfl); (case hg => first | rfl | (go_simp; done)); (case hr => first | (go_simp; done) | (go_simp; rfl)); intro gb335 hg w23 hbox hb; have n0_ := Aside0.mk (Kd.R_below (by (with_reducible repeat (first | apply Kd.R_alloc | apply Kd.R_drewN | apply Kd.R_drew)); exact HO0_10.out) hb); have n1_ := Aside0.mk (Kept.below (S := (fun k_ => P0_10_ k_)) (by repeat (first | (with_reducible first | exact HK.out | apply Kept.alloc | apply Kept.drewN | apply Kept.drew) | exact HK.out)) hb); have n2_ := Aside0.mk (below_step (by repeat (first | (with_reducible first | exact HB.out | apply below_alloc | apply pw_below_drewN | apply below_drew1) | exact HB.out)) hb); have n3_ := Aside0.mk (hbox); have n4_ := Aside0.mk ((by rw [hg]; exact (by first | exact HK.out.1 | exact (show Kept w _ (fun k_ => P0_10_ k_) from by repeat (first | (with_reducible first | exact HK.out | apply Kept.alloc | apply Kept.drewN | apply Kept.drew) | exact HK.out)).1) : w.heap.size ≤ gb335)); have n5_ := Aside0.mk ((by rw [hg]; exact (below_size (by repeat (first | (with_reducible first | exact HB.out | apply below_alloc | apply pw_below_drewN | apply below_drew1) | exact HB.out))) : w0.heap.size ≤ gb335)); clear HO0_10; clear HK; clear HB; have HO0_10 := n0_; have HK := n1_; have HB := n2_; have BK335 := n3_; have GW335 := n4_; have GE335 := n5_; clear n0_ n1_ n2_ n3_ n4_ n5_; clear hb hbox hg; have hcz24_0 : w23.cell? ⟨gb335, 0, none⟩ = some (.string a0_0) := (blk_cell BK335.out 0).trans rfl; have hcz24_1 : w23.cell? ⟨gb335, 1, none⟩ = some (.string a0_1) := (blk_cell BK335.out 1).trans rfl; have hcz24_2 : w23.cell? ⟨gb335, 2, none⟩ = some (.int .i64 a0_2) := (blk_cell BK335.out 2).trans rfl; have hcz24_3 : w23.cell? ⟨gb335, 3, none⟩ = some (.int .i64 a0_3) := (blk_cell BK335.out 3).trans rfl; have hcz24_4 : w23.cell? ⟨gb335, 4, none⟩ = some (.int .i64 a0_4) := (blk_cell BK335.out 4).trans rfl; have hcz24_5 : w23.cell? ⟨gb335, 5, none⟩ = some (.int .i64 a0_5) := (blk_cell BK335.out 5).trans rfl; have hcz24_6 : w23.cell? ⟨gb335, 6, none⟩ = some (.int .i64 a0_6) := (blk_cell BK335.out 6).trans rfl; have hcz24_7 : w23.cell? ⟨gb335, 7, none⟩ = some (.int .i64 a0_7) := (blk_cell BK335.out 7).trans rfl; have hcz24_8 : w23.cell? ⟨gb335, 8, none⟩ = some (.int .i64 a0_8) := (blk_cell BK335.out 8).trans rfl; have hcz24_9 : w23.cell? ⟨gb335, 9, none⟩ = some (.int .i64 a0_9) := (blk_cell BK335.out 9).trans rfl; have hcz24_10 : w23.cell? ⟨gb335, 10, none⟩ = some (.slice Ao22 l0_10.length co22) := (blk_cell BK335.out 10).trans rfl; have hcz24_11 : w23.cell? ⟨gb335, 11, none⟩ = some (.slice A0_11 l0_11.length c0_11) := (blk_cell BK335.out 11).trans rfl; have hfz24_0 := blk_frozen BK335.out 0; have hfz24_1 := blk_frozen BK335.out 1; have hfz24_2 := blk_frozen BK335.out 2; have hfz24_3 := blk_frozen BK335.out 3; have hfz24_4 := blk_frozen BK335.out 4; have hfz24_5 := blk_frozen BK335.out 5; have hfz24_6 := blk_frozen BK335.out 6; have hfz24_7 := blk_frozen BK335.out 7; have hfz24_8 := blk_frozen BK335.out 8; have hfz24_9 := blk_frozen BK335.out 9; have hfz24_10 := blk_frozen BK335.out 10; have hfz24_11 := blk_frozen BK335.out 11) | ((with_reducible refine gate_callee (f := 13) rfl ?_); refine goesL_ (some 15) rfl rfl Try.func13 (by kernel_rfl) rfl #[.slice Ao22 l0_10.length co22] rfl (by (try simp only [List.map_toArray, List.map_cons, List.map_nil]); first | done | rfl | (simp only [List.length_drop, List.length_take]; rfl)) ?_; (with_reducible refine (gangsawref35_Check.calls k _ _ l0_10 t340 _ ?side1 ?side2 A17.out).mono ?_); (case side1 => repeat (first | exact (Kd.R_reads' HO0_10.out).2.2 | (with_reducible refine Kd.C_alloc ?_ _) | (with_reducible refine Kd.C_drewN ?_ _) | (with_reducible refine Kd.C_drew ?_))); (case side2 => exact (Kd.R_reads' HO0_10.out).2.1); rintro e w' ⟨rfl, ⟨nd, rfl⟩⟩; refine ⟨_, rfl, ?_⟩))
      go_ret2
      exact ⟨_, by first | rfl | (simp [errW_none, errW_some] <;> rfl) | (simp [*, errW_none, errW_some] <;> rfl), by first | exact Kd.R_nil _ _ _ _ _ | exact Kd.N_nil _ _ _ _ _ | exact Kd.V_nil _ _ _ _ _ | exact Kd.Q_nil _ _ _ _ _ | exact Kd.S_nil _ _ _ _ _, by repeat (first | (with_reducible first | exact HB.out | apply below_alloc | apply pw_below_drewN | apply below_drew1 | refine below_set ?_ GE335.out) | exact HB.out), by repeat (first | (with_reducible first | exact HK.out | apply Kept.alloc | apply Kept.drewN | apply Kept.drew | refine Kept.setCell ?_ (.inr GW335.out) _) | exact HK.out)⟩

-- NOT PRINTED: function 6 (gangsawlaw35_ColourFaces)

end Go.Proofs.Ytejnelflfldfgaa.XA
