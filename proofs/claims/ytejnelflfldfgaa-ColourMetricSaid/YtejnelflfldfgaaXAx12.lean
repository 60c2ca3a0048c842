-- written by xprint.py, this project's own program (wip/), over the words of print.sh
import Derived.Test.YtejnelflfldfgaaXAx0
import Derived.Test.YtejnelflfldfgaaXAx2
import Derived.Test.YtejnelflfldfgaaXAx3
import Derived.Test.YtejnelflfldfgaaXAx6
namespace Go.Proofs.Ytejnelflfldfgaa.XA
open Go.RowKit Go.Proofs.Ytejnelflfldfgaa.Opens Go.Proofs.YtejnelflfldfgaaW.PrintWords Go.Proofs.YtejnelflfldfgaaW.PrintLast Go.Proofs.YtejnelflfldfgaaW.PrintMore
attribute [local go_sem] max2_int min2_int max_two min_two max_three min_three max_four min_four   -- for this text's walks alone
set_option linter.unusedVariables false
set_option linter.unusedSimpArgs false

/-! ### gangsawlaw35_ColourMetric: function 8 -/
mutual
def gangsawlaw35_ColourMetric.j0 : Nat → List Int → List Int → List Int → Bool → Option (Bool)
  | 0, _, _, _, _ => none
  | k + 1, x0, x1, x2, x37 => if x37 = true then (some true) else ((colour_Mismatch.f k x0 x1).bind fun bt369 => ((colour_Mismatch.f k x1 x0).bind fun bt371 => (if bt369.2 = 0 then (if bt371.2 = 0 then (if bt369.1 = bt371.1 then (if bt369.1 < 0 then (gangsawlaw35_ColourMetric.j1 k x0 x1 x2 bt369.1 true) else ((gangsawref35_Same.f k x0 x1).bind fun t373 => (gangsawlaw35_ColourMetric.j1 k x0 x1 x2 bt369.1 ((bt369.1 == 0) != t373)))) else (gangsawlaw35_ColourMetric.j1 k x0 x1 x2 bt369.1 true)) else (gangsawlaw35_ColourMetric.j1 k x0 x1 x2 bt369.1 true)) else (if bt369.1 = 0 then (if bt371.1 = 0 then (some (bt371.2 != 0)) else (some false)) else (some false)))))
def gangsawlaw35_ColourMetric.j1 : Nat → List Int → List Int → List Int → Int → Bool → Option (Bool)
  | 0, _, _, _, _, _ => none
  | k + 1, x0, x1, x2, x7, x80 => if x80 = true then (some false) else ((colour_Mirror.f k x0).bind fun bt374 => ((colour_Mirror.f k x1).bind fun bt378 => ((colour_Mirror.f k bt374.1).bind fun bt382 => ((colour_Mismatch.f k bt374.1 bt378.1).bind fun bt386 => (if bt374.2 = 0 then (if bt378.2 = 0 then (if bt382.2 = 0 then (if bt386.2 = 0 then (if bt386.1 = x7 then ((gangsawref35_Same.f k bt382.1 x0).bind fun t388 => (gangsawlaw35_ColourMetric.j2 k x0 x1 x2 x7 (!t388))) else (gangsawlaw35_ColourMetric.j2 k x0 x1 x2 x7 true)) else (gangsawlaw35_ColourMetric.j2 k x0 x1 x2 x7 true)) else (gangsawlaw35_ColourMetric.j2 k x0 x1 x2 x7 true)) else (gangsawlaw35_ColourMetric.j2 k x0 x1 x2 x7 true)) else (gangsawlaw35_ColourMetric.j2 k x0 x1 x2 x7 true))))))
def gangsawlaw35_ColourMetric.j2 : Nat → List Int → List Int → List Int → Int → Bool → Option (Bool)
  | 0, _, _, _, _, _ => none
  | k + 1, x0, x1, x2, x7, x126 => if x126 = true then (some false) else ((colour_Mismatch.f k x0 x2).bind fun bt389 => ((colour_Mismatch.f k x2 x1).bind fun bt391 => (if bt389.2 = 0 then (if bt391.2 = 0 then (some (decide (x7 ≤ (wrap64 (bt389.1 + bt391.1))))) else (some true)) else (some true))))
end
def gangsawlaw35_ColourMetric.f (k : Nat) (l0 : List Int) (l1 : List Int) (l2 : List Int) : Option (Bool) := (gangsawlaw35_awake.f k).bind fun t368 => (if t368 = true then (if (l0.length : Int) > 80 then (gangsawlaw35_ColourMetric.j0 k l0 l1 l2 true) else (if (l1.length : Int) > 80 then (gangsawlaw35_ColourMetric.j0 k l0 l1 l2 true) else (gangsawlaw35_ColourMetric.j0 k l0 l1 l2 (decide ((l2.length : Int) > 80))))) else (some false))
theorem gangsawlaw35_ColourMetric.mono_l : ∀ k, (∀ y0 y1 y2 y3, LeO (gangsawlaw35_ColourMetric.j0 k y0 y1 y2 y3) (gangsawlaw35_ColourMetric.j0 (k + 1) y0 y1 y2 y3)) ∧ (∀ y0 y1 y2 y3 y4, LeO (gangsawlaw35_ColourMetric.j1 k y0 y1 y2 y3 y4) (gangsawlaw35_ColourMetric.j1 (k + 1) y0 y1 y2 y3 y4)) ∧ (∀ y0 y1 y2 y3 y4, LeO (gangsawlaw35_ColourMetric.j2 k y0 y1 y2 y3 y4) (gangsawlaw35_ColourMetric.j2 (k + 1) y0 y1 y2 y3 y4))
  | 0 => ⟨fun _ _ _ _ r h => by simp [gangsawlaw35_ColourMetric.j0] at h, fun _ _ _ _ _ r h => by simp [gangsawlaw35_ColourMetric.j1] at h, fun _ _ _ _ _ r h => by simp [gangsawlaw35_ColourMetric.j2] at h⟩
  | k + 1 => by
    obtain ⟨ih0, ih1, ih2⟩ := gangsawlaw35_ColourMetric.mono_l k
    refine ⟨?_, ?_, ?_⟩
    · intro y0 y1 y2 y3
      unfold gangsawlaw35_ColourMetric.j0
      repeat' first
      | (with_reducible exact ih0 _ _ _ _)
      | (with_reducible exact ih1 _ _ _ _ _)
      | (with_reducible exact ih2 _ _ _ _ _)
      | (with_reducible exact colour_Mirror.mono _ _)
      | (with_reducible exact colour_Mismatch.mono _ _ _)
      | (with_reducible exact gangsawlaw35_awake.mono _)
      | (with_reducible exact gangsawref35_Same.mono _ _ _)
      | (with_reducible exact LeO.refl _)
      | (with_reducible exact LeO.none _)
      | (with_reducible refine LeO.ite ?_ ?_)
      | (with_reducible refine LeO.bind ?_ (fun _ => ?_))
      | exact ih0 _ _ _ _
      | exact ih1 _ _ _ _ _
      | exact ih2 _ _ _ _ _
      | exact colour_Mirror.mono _ _
      | exact colour_Mismatch.mono _ _ _
      | exact gangsawlaw35_awake.mono _
      | exact gangsawref35_Same.mono _ _ _
      | exact LeO.none _
      | refine LeO.ite ?_ ?_
      | refine LeO.bind ?_ (fun _ => ?_)
    · intro y0 y1 y2 y3 y4
      unfold gangsawlaw35_ColourMetric.j1
      repeat' first
      | (with_reducible exact ih0 _ _ _ _)
      | (with_reducible exact ih1 _ _ _ _ _)
      | (with_reducible exact ih2 _ _ _ _ _)
      | (with_reducible exact colour_Mirror.mono _ _)
      | (with_reducible exact colour_Mismatch.mono _ _ _)
      | (with_reducible exact gangsawlaw35_awake.mono _)
      | (with_reducible exact gangsawref35_Same.mono _ _ _)
      | (with_reducible exact LeO.refl _)
      | (with_reducible exact LeO.none _)
      | (with_reducible refine LeO.ite ?_ ?_)
      | (with_reducible refine LeO.bind ?_ (fun _ => ?_))
      | exact ih0 _ _ _ _
      | exact ih1 _ _ _ _ _
      | exact ih2 _ _ _ _ _
      | exact colour_Mirror.mono _ _
      | exact colour_Mismatch.mono _ _ _
      | exact gangsawlaw35_awake.mono _
      | exact gangsawref35_Same.mono _ _ _
      | exact LeO.none _
      | refine LeO.ite ?_ ?_
      | refine LeO.bind ?_ (fun _ => ?_)
    · intro y0 y1 y2 y3 y4
      unfold gangsawlaw35_ColourMetric.j2
      repeat' first
      | (with_reducible exact ih0 _ _ _ _)
      | (with_reducible exact ih1 _ _ _ _ _)
      | (with_reducible exact ih2 _ _ _ _ _)
      | (with_reducible exact colour_Mirror.mono _ _)
      | (with_reducible exact colour_Mismatch.mono _ _ _)
      | (with_reducible exact gangsawlaw35_awake.mono _)
      | (with_reducible exact gangsawref35_Same.mono _ _ _)
      | (with_reducible exact LeO.refl _)
      | (with_reducible exact LeO.none _)
      | (with_reducible refine LeO.ite ?_ ?_)
      | (with_reducible refine LeO.bind ?_ (fun _ => ?_))
      | exact ih0 _ _ _ _
      | exact ih1 _ _ _ _ _
      | exact ih2 _ _ _ _ _
      | exact colour_Mirror.mono _ _
      | exact colour_Mismatch.mono _ _ _
      | exact gangsawlaw35_awake.mono _
      | exact gangsawref35_Same.mono _ _ _
      | exact LeO.none _
      | refine LeO.ite ?_ ?_
      | refine LeO.bind ?_ (fun _ => ?_)
theorem gangsawlaw35_ColourMetric.mono : ∀ a0 a1 a2 k, LeO (gangsawlaw35_ColourMetric.f k a0 a1 a2) (gangsawlaw35_ColourMetric.f (k + 1) a0 a1 a2) := by
  intro a0 a1 a2 k
  obtain ⟨ih0, ih1, ih2⟩ := gangsawlaw35_ColourMetric.mono_l k
  unfold gangsawlaw35_ColourMetric.f
  repeat' first
      | (with_reducible exact ih0 _ _ _ _)
      | (with_reducible exact ih1 _ _ _ _ _)
      | (with_reducible exact ih2 _ _ _ _ _)
      | (with_reducible exact colour_Mirror.mono _ _)
      | (with_reducible exact colour_Mismatch.mono _ _ _)
      | (with_reducible exact gangsawlaw35_awake.mono _)
      | (with_reducible exact gangsawref35_Same.mono _ _ _)
      | (with_reducible exact LeO.refl _)
      | (with_reducible exact LeO.none _)
      | (with_reducible refine LeO.ite ?_ ?_)
      | (with_reducible refine LeO.bind ?_ (fun _ => ?_))
      | exact ih0 _ _ _ _
      | exact ih1 _ _ _ _ _
      | exact ih2 _ _ _ _ _
      | exact colour_Mirror.mono _ _
      | exact colour_Mismatch.mono _ _ _
      | exact gangsawlaw35_awake.mono _
      | exact gangsawref35_Same.mono _ _ _
      | exact LeO.none _
      | refine LeO.ite ?_ ?_
      | refine LeO.bind ?_ (fun _ => ?_)
set_option maxHeartbeats 8000000 in
set_option maxRecDepth 100000 in
theorem gangsawlaw35_ColourMetric.calls (k : Nat) (A0 : Option Addr) (c0 : Nat) (l0 : List Int) (A1 : Option Addr) (c1 : Nat) (l1 : List Int) (A2 : Option Addr) (c2 : Nat) (l2 : List Int) (r : Bool) (w : World) (hr0 : Kd.C (Kd.int .i64) w A0 l0.length l0) (hc0 : l0.length ≤ c0) (hr1 : Kd.C (Kd.int .i64) w A1 l1.length l1) (hc1 : l1.length ≤ c1) (hr2 : Kd.C (Kd.int .i64) w A2 l2.length l2) (hc2 : l2.length ≤ c2) (h : gangsawlaw35_ColourMetric.f k l0 l1 l2 = some r) :
    Calls Try.prog 8 #[.slice A0 l0.length c0, .slice A1 l1.length c1, .slice A2 l2.length c2] w fun e w' => e = .returned (.bool r) ∧ Below w.heap.size w w' := by
  have HR0 := Aside0.mk hr0
  have HC0 := Aside0.mk hc0
  clear hr0 hc0
  have HR1 := Aside0.mk hr1
  have HC1 := Aside0.mk hc1
  clear hr1 hc1
  have HR2 := Aside0.mk hr2
  have HC2 := Aside0.mk hc2
  clear hr2 hc2
  have HB := Aside0.mk (Below.refl w.heap.size w)
  have H : ((gangsawlaw35_awake.f k).bind fun t368 => (if t368 = true then (if (l0.length : Int) > 80 then (gangsawlaw35_ColourMetric.j0 k l0 l1 l2 true) else (if (l1.length : Int) > 80 then (gangsawlaw35_ColourMetric.j0 k l0 l1 l2 true) else (gangsawlaw35_ColourMetric.j0 k l0 l1 l2 (decide ((l2.length : Int) > 80))))) else (some false))) = some r := h
  clear h
  replace H := Option.bind_eq_some_iff.mp H
  obtain ⟨t368, A40, H⟩ := H
  replace H : (if t368 = true then (if (l0.length : Int) > 80 then (gangsawlaw35_ColourMetric.j0 k l0 l1 l2 true) else (if (l1.length : Int) > 80 then (gangsawlaw35_ColourMetric.j0 k l0 l1 l2 true) else (gangsawlaw35_ColourMetric.j0 k l0 l1 l2 (decide ((l2.length : Int) > 80))))) else (some false)) = some r := H
  have A4 := Aside0.mk A40
  clear A40
  by_cases c5 : t368 = true
  · subst c5
    have H1 : (if (l0.length : Int) > 80 then (gangsawlaw35_ColourMetric.j0 k l0 l1 l2 true) else (if (l1.length : Int) > 80 then (gangsawlaw35_ColourMetric.j0 k l0 l1 l2 true) else (gangsawlaw35_ColourMetric.j0 k l0 l1 l2 (decide ((l2.length : Int) > 80))))) = some r := by rw [if_pos rfl] at H; exact H
    clear H
    have H := H1
    clear H1
    have HC6 := Aside0.mk H
    clear H
    go_enter Try.func8, Try.ntmps8
    go_upto_region 3 with (first | ((with_reducible refine gate_callee (f := 12) rfl ?_); refine goesL_ (some 23) rfl rfl Try.func12 (by kernel_rfl) rfl #[] rfl (by (try simp only [List.map_toArray, List.map_cons, List.map_nil]); first | done | rfl | (simp only [List.length_drop, List.length_take]; rfl)) ?_; (with_reducible refine (gangsawlaw35_awake.calls k  true _ A4.out).mono ?_); rintro e w7 ⟨rfl, hb⟩; refine ⟨_, rfl, ?_⟩; have n0_ := Aside0.mk (below_step (by repeat (first | (with_reducible first | exact HB.out | apply below_alloc | apply pw_below_drewN | apply below_drew1) | exact HB.out)) hb); clear HB; have HB := n0_; clear n0_; (try clear hb); (try clear hb2); (try clear hk); (try clear hi)))
    (try simp only [Act.put, List.setIfInBounds_toArray, List.set_cons_zero, List.set_cons_succ])
    go_cut [37] (fun v37 wc => ∃ (kq : Nat) (x37_5 : Bool), v37 = .bool x37_5 ∧ Aside0 (gangsawlaw35_ColourMetric.j0 kq l0 l1 l2 x37_5 = some r) ∧ Aside0 (kq ≤ k) ∧ Aside0 (Below w.heap.size w wc))
    case first =>
      have H := HC6.out
      clear HC6
      by_cases c8 : (l0.length : Int) > 80
      · rw [if_pos c8] at H
        have c8b0 : decide (80 < (l0.length : Int)) = true := decide_eq_true c8
        have c8b1 : decide (80 < l0.length) = true := decide_eq_true (by omega)
        clear c8
        (first | rw [c8b0] | (simp only [i64_w, i32_w]; rw [c8b0]) | skip)
        have H' := Aside0.mk H
        clear H
        go_wp2
        go_meet
        case rel => exact ⟨_, (true), (by first | rfl | (simp; done) | (simp [*]; done)), H', ⟨by first | omega | exact Nat.le_refl _⟩, ⟨by repeat (first | (with_reducible first | exact HB.out | apply below_alloc | apply pw_below_drewN | apply below_drew1) | exact HB.out)⟩⟩
      · rw [if_neg c8] at H
        have c8b0 : decide (80 < (l0.length : Int)) = false := decide_eq_false c8
        have c8b1 : decide (80 < l0.length) = false := decide_eq_false (by omega)
        clear c8
        (first | rw [c8b0] | (simp only [i64_w, i32_w]; rw [c8b0]) | skip)
        by_cases c9 : (l1.length : Int) > 80
        · rw [if_pos c9] at H
          have c9b0 : decide (80 < (l1.length : Int)) = true := decide_eq_true c9
          have c9b1 : decide (80 < l1.length) = true := decide_eq_true (by omega)
          clear c9
          have H' := Aside0.mk H
          clear H
          go_wp2
          go_meet
          case rel => exact ⟨_, (true), (by first | rfl | (simp; done) | (simp [*]; done)), H', ⟨by first | omega | exact Nat.le_refl _⟩, ⟨by repeat (first | (with_reducible first | exact HB.out | apply below_alloc | apply pw_below_drewN | apply below_drew1) | exact HB.out)⟩⟩
        · rw [if_neg c9] at H
          have c9b0 : decide (80 < (l1.length : Int)) = false := decide_eq_false c9
          have c9b1 : decide (80 < l1.length) = false := decide_eq_false (by omega)
          clear c9
          have H' := Aside0.mk H
          clear H
          go_wp2
          go_meet
          case rel => exact ⟨_, (decide ((l2.length : Int) > 80)), (by first | rfl | (simp; done) | (simp [*]; done)), H', ⟨by first | omega | exact Nat.le_refl _⟩, ⟨by repeat (first | (with_reducible first | exact HB.out | apply below_alloc | apply pw_below_drewN | apply below_drew1) | exact HB.out)⟩⟩
    case rest =>
      clear HC6
      try clear c1
      try clear c2
      try clear p2
      try clear c5
      try clear c8
      try clear c8b0
      try clear c8b1
      try clear c9
      try clear c9b0
      try clear c9b1
      obtain ⟨kq, x37_5, rfl, HA, HJ5, HB⟩ := hcut
      cases kq with
      | zero => exact absurd HA.out (by simp [gangsawlaw35_ColourMetric.j0])
      | succ kj5 =>
        have H := HA.out
        clear HA
        simp only [gangsawlaw35_ColourMetric.j0] at H
        by_cases c10 : x37_5 = true
        · subst c10
          have H1 : (some true) = some r := by rw [if_pos rfl] at H; exact H
          clear H
          have H := H1
          clear H1
          obtain rfl := Option.some.inj H
          go_wp2
          go_ret
          exact ⟨by first | rfl | (simp [errW_none, errW_some] <;> rfl) | (simp [*, errW_none, errW_some] <;> rfl), by repeat (first | (with_reducible first | exact HB.out | apply below_alloc | apply pw_below_drewN | apply below_drew1) | exact HB.out)⟩
        · replace c10 := Bool.eq_false_iff.mpr c10
          subst c10
          have H1 : ((colour_Mismatch.f kj5 l0 l1).bind fun bt369 => ((colour_Mismatch.f kj5 l1 l0).bind fun bt371 => (if bt369.2 = 0 then (if bt371.2 = 0 then (if bt369.1 = bt371.1 then (if bt369.1 < 0 then (gangsawlaw35_ColourMetric.j1 kj5 l0 l1 l2 bt369.1 true) else ((gangsawref35_Same.f kj5 l0 l1).bind fun t373 => (gangsawlaw35_ColourMetric.j1 kj5 l0 l1 l2 bt369.1 ((bt369.1 == 0) != t373)))) else (gangsawlaw35_ColourMetric.j1 kj5 l0 l1 l2 bt369.1 true)) else (gangsawlaw35_ColourMetric.j1 kj5 l0 l1 l2 bt369.1 true)) else (if bt369.1 = 0 then (if bt371.1 = 0 then (some (bt371.2 != 0)) else (some false)) else (some false))))) = some r := by rw [if_neg (show ¬ (false = true) by decide)] at H; exact H
          clear H
          have H := H1
          clear H1
          replace H := Option.bind_eq_some_iff.mp H
          obtain ⟨⟨t369, t370⟩, A110, H⟩ := H
          replace H : ((colour_Mismatch.f kj5 l1 l0).bind fun bt371 => (if t370 = 0 then (if bt371.2 = 0 then (if t369 = bt371.1 then (if t369 < 0 then (gangsawlaw35_ColourMetric.j1 kj5 l0 l1 l2 t369 true) else ((gangsawref35_Same.f kj5 l0 l1).bind fun t373 => (gangsawlaw35_ColourMetric.j1 kj5 l0 l1 l2 t369 ((t369 == 0) != t373)))) else (gangsawlaw35_ColourMetric.j1 kj5 l0 l1 l2 t369 true)) else (gangsawlaw35_ColourMetric.j1 kj5 l0 l1 l2 t369 true)) else (if t369 = 0 then (if bt371.1 = 0 then (some (bt371.2 != 0)) else (some false)) else (some false)))) = some r := H
          have A11 := Aside0.mk A110
          clear A110
          replace H := Option.bind_eq_some_iff.mp H
          obtain ⟨⟨t371, t372⟩, A120, H⟩ := H
          replace H : (if t370 = 0 then (if t372 = 0 then (if t369 = t371 then (if t369 < 0 then (gangsawlaw35_ColourMetric.j1 kj5 l0 l1 l2 t369 true) else ((gangsawref35_Same.f kj5 l0 l1).bind fun t373 => (gangsawlaw35_ColourMetric.j1 kj5 l0 l1 l2 t369 ((t369 == 0) != t373)))) else (gangsawlaw35_ColourMetric.j1 kj5 l0 l1 l2 t369 true)) else (gangsawlaw35_ColourMetric.j1 kj5 l0 l1 l2 t369 true)) else (if t369 = 0 then (if t371 = 0 then (some (t372 != 0)) else (some false)) else (some false))) = some r := H
          have A12 := Aside0.mk A120
          clear A120
          by_cases c13 : t370 = 0
          · rw [if_pos c13] at H
            have c13b0 : (t370 == 0) = true := beq_iff_eq.mpr c13
            have c13b1 : (t370 != 0) = false := bne_eq_false_iff_eq.mpr c13
            clear c13
            have HC14 := Aside0.mk H
            clear H
            go_upto_region 9 with (first | ((with_reducible refine gate_callee (f := 20) rfl ?_); refine goesL_ (some 41) rfl rfl Try.func20 (by kernel_rfl) rfl #[.slice A0 l0.length c0, .slice A1 l1.length c1] rfl (by (try simp only [List.map_toArray, List.map_cons, List.map_nil]); first | done | rfl | (simp only [List.length_drop, List.length_take]; rfl)) ?_; (with_reducible refine (colour_Mismatch.calls kj5 _ _ l0 _ _ l1 t369 t370 _ ?side1 ?side2 ?side3 ?side4 A11.out).mono ?_); (case side1 => repeat (first | exact (Kd.C_below HR0.out HB.out) | (with_reducible refine Kd.C_alloc ?_ _) | (with_reducible refine Kd.C_drewN ?_ _) | (with_reducible refine Kd.C_drew ?_))); (case side2 => exact HC0.out); (case side3 => repeat (first | exact (Kd.C_below HR1.out HB.out) | (with_reducible refine Kd.C_alloc ?_ _) | (with_reducible refine Kd.C_drewN ?_ _) | (with_reducible refine Kd.C_drew ?_))); (case side4 => exact HC1.out); rintro e w15 ⟨rfl, hb⟩; refine ⟨_, rfl, ?_⟩; have n0_ := Aside0.mk (below_step (by repeat (first | (with_reducible first | exact HB.out | apply below_alloc | apply pw_below_drewN | apply below_drew1) | exact HB.out)) hb); clear HB; have HB := n0_; clear n0_; (try clear hb); (try clear hb2); (try clear hk); (try clear hi)) | ((with_reducible refine gate_callee (f := 20) rfl ?_); refine goesL_ (some 47) rfl rfl Try.func20 (by kernel_rfl) rfl #[.slice A1 l1.length c1, .slice A0 l0.length c0] rfl (by (try simp only [List.map_toArray, List.map_cons, List.map_nil]); first | done | rfl | (simp only [List.length_drop, List.length_take]; rfl)) ?_; (with_reducible refine (colour_Mismatch.calls kj5 _ _ l1 _ _ l0 t371 t372 _ ?side1 ?side2 ?side3 ?side4 A12.out).mono ?_); (case side1 => repeat (first | exact (Kd.C_below HR1.out HB.out) | (with_reducible refine Kd.C_alloc ?_ _) | (with_reducible refine Kd.C_drewN ?_ _) | (with_reducible refine Kd.C_drew ?_))); (case side2 => exact HC1.out); (case side3 => repeat (first | exact (Kd.C_below HR0.out HB.out) | (with_reducible refine Kd.C_alloc ?_ _) | (with_reducible refine Kd.C_drewN ?_ _) | (with_reducible refine Kd.C_drew ?_))); (case side4 => exact HC0.out); rintro e w16 ⟨rfl, hb⟩; refine ⟨_, rfl, ?_⟩; have n0_ := Aside0.mk (below_step (by repeat (first | (with_reducible first | exact HB.out | apply below_alloc | apply pw_below_drewN | apply below_drew1) | exact HB.out)) hb); clear HB; have HB := n0_; clear n0_; (try clear hb); (try clear hb2); (try clear hk); (try clear hi)))
            (try simp only [Act.put, List.setIfInBounds_toArray, List.set_cons_zero, List.set_cons_succ])
            go_cut [80] (fun v80 wc => ∃ (kq : Nat) (x80_13 : Bool), v80 = .bool x80_13 ∧ Aside0 (gangsawlaw35_ColourMetric.j1 kq l0 l1 l2 t369 x80_13 = some r) ∧ Aside0 (kq ≤ kj5) ∧ Aside0 (Below w.heap.size w wc))
            case first =>
              have H := HC14.out
              clear HC14
              by_cases c17 : t372 = 0
              · rw [if_pos c17] at H
                have c17b0 : (t372 == 0) = true := beq_iff_eq.mpr c17
                have c17b1 : (t372 != 0) = false := bne_eq_false_iff_eq.mpr c17
                clear c17
                (first | rw [c17b0] | (simp only [i64_w, i32_w]; rw [c17b0]) | skip)
                by_cases c18 : t369 = t371
                · rw [if_pos c18] at H
                  have c18b0 : (t369 == t371) = true := beq_iff_eq.mpr c18
                  have c18b1 : (t369 != t371) = false := bne_eq_false_iff_eq.mpr c18
                  clear c18
                  by_cases c19 : t369 < 0
                  · rw [if_pos c19] at H
                    have c19b0 : decide (t369 < 0) = true := decide_eq_true c19
                    clear c19
                    have H' := Aside0.mk H
                    clear H
                    go_wp2
                    go_meet
                    case rel => exact ⟨_, (true), (by first | rfl | (simp; done) | (simp [*]; done)), H', ⟨by have := HJ5.out; first | omega | exact Nat.le_refl _⟩, ⟨by repeat (first | (with_reducible first | exact HB.out | apply below_alloc | apply pw_below_drewN | apply below_drew1) | exact HB.out)⟩⟩
                  · rw [if_neg c19] at H
                    have c19b0 : decide (t369 < 0) = false := decide_eq_false c19
                    clear c19
                    replace H := Option.bind_eq_some_iff.mp H
                    obtain ⟨t373, A200, H⟩ := H
                    replace H : (gangsawlaw35_ColourMetric.j1 kj5 l0 l1 l2 t369 ((t369 == 0) != t373)) = some r := H
                    have A20 := Aside0.mk A200
                    clear A200
                    have H' := Aside0.mk H
                    clear H
                    go_wp2_with (first | (go_at_call 17; (with_reducible refine (gangsawref35_Same.calls kj5 _ _ l0 _ _ l1 t373 _ ?side1 ?side2 ?side3 ?side4 A20.out).mono ?_); (case side1 => repeat (first | exact (Kd.C_below HR0.out HB.out) | (with_reducible refine Kd.C_alloc ?_ _) | (with_reducible refine Kd.C_drewN ?_ _) | (with_reducible refine Kd.C_drew ?_))); (case side2 => exact HC0.out); (case side3 => repeat (first | exact (Kd.C_below HR1.out HB.out) | (with_reducible refine Kd.C_alloc ?_ _) | (with_reducible refine Kd.C_drewN ?_ _) | (with_reducible refine Kd.C_drew ?_))); (case side4 => exact HC1.out); rintro e w' ⟨rfl, ⟨nd, rfl⟩⟩))
                    go_meet
                    case rel => exact ⟨_, (((t369 == 0) != t373)), (by first | rfl | (simp; done) | (simp [*]; done)), H', ⟨by have := HJ5.out; first | omega | exact Nat.le_refl _⟩, ⟨by repeat (first | (with_reducible first | exact HB.out | apply below_alloc | apply pw_below_drewN | apply below_drew1) | exact HB.out)⟩⟩
                · rw [if_neg c18] at H
                  have c18b0 : (t369 == t371) = false := beq_eq_false_iff_ne.mpr c18
                  have c18b1 : (t369 != t371) = true := bne_iff_ne.mpr c18
                  have H' := Aside0.mk H
                  clear H
                  go_wp2
                  go_meet
                  case rel => exact ⟨_, (true), (by first | rfl | (simp; done) | (simp [*]; done)), H', ⟨by have := HJ5.out; first | omega | exact Nat.le_refl _⟩, ⟨by repeat (first | (with_reducible first | exact HB.out | apply below_alloc | apply pw_below_drewN | apply below_drew1) | exact HB.out)⟩⟩
              · rw [if_neg c17] at H
                have c17b0 : (t372 == 0) = false := beq_eq_false_iff_ne.mpr c17
                have c17b1 : (t372 != 0) = true := bne_iff_ne.mpr c17
                (first | rw [c17b0] | (simp only [i64_w, i32_w]; rw [c17b0]) | skip)
                have H' := Aside0.mk H
                clear H
                go_wp2
                go_meet
                case rel => exact ⟨_, (true), (by first | rfl | (simp; done) | (simp [*]; done)), H', ⟨by have := HJ5.out; first | omega | exact Nat.le_refl _⟩, ⟨by repeat (first | (with_reducible first | exact HB.out | apply below_alloc | apply pw_below_drewN | apply below_drew1) | exact HB.out)⟩⟩
            case rest =>
              clear HC14
              try clear c1
              try clear c2
              try clear p2
              try clear c5
              try clear c8
              try clear c8b0
              try clear c8b1
              try clear c9
              try clear c9b0
              try clear c9b1
              try clear c10
              try clear c12
              try clear c13
              try clear c13b0
              try clear c13b1
              try clear c17
              try clear c17b0
              try clear c17b1
              try clear c18
              try clear c18b0
              try clear c18b1
              try clear c19
              try clear c19b0
              try clear c20
              try clear p2
              obtain ⟨kq, x80_13, rfl, HA, HJ13, HB⟩ := hcut
              cases kq with
              | zero => exact absurd HA.out (by simp [gangsawlaw35_ColourMetric.j1])
              | succ kj13 =>
                have H := HA.out
                clear HA
                simp only [gangsawlaw35_ColourMetric.j1] at H
                by_cases c21 : x80_13 = true
                · subst c21
                  have H1 : (some false) = some r := by rw [if_pos rfl] at H; exact H
                  clear H
                  have H := H1
                  clear H1
                  obtain rfl := Option.some.inj H
                  go_wp2
                  go_ret
                  exact ⟨by first | rfl | (simp [errW_none, errW_some] <;> rfl) | (simp [*, errW_none, errW_some] <;> rfl), by repeat (first | (with_reducible first | exact HB.out | apply below_alloc | apply pw_below_drewN | apply below_drew1) | exact HB.out)⟩
                · replace c21 := Bool.eq_false_iff.mpr c21
                  subst c21
                  have H1 : ((colour_Mirror.f kj13 l0).bind fun bt374 => ((colour_Mirror.f kj13 l1).bind fun bt378 => ((colour_Mirror.f kj13 bt374.1).bind fun bt382 => ((colour_Mismatch.f kj13 bt374.1 bt378.1).bind fun bt386 => (if bt374.2 = 0 then (if bt378.2 = 0 then (if bt382.2 = 0 then (if bt386.2 = 0 then (if bt386.1 = t369 then ((gangsawref35_Same.f kj13 bt382.1 l0).bind fun t388 => (gangsawlaw35_ColourMetric.j2 kj13 l0 l1 l2 t369 (!t388))) else (gangsawlaw35_ColourMetric.j2 kj13 l0 l1 l2 t369 true)) else (gangsawlaw35_ColourMetric.j2 kj13 l0 l1 l2 t369 true)) else (gangsawlaw35_ColourMetric.j2 kj13 l0 l1 l2 t369 true)) else (gangsawlaw35_ColourMetric.j2 kj13 l0 l1 l2 t369 true)) else (gangsawlaw35_ColourMetric.j2 kj13 l0 l1 l2 t369 true)))))) = some r := by rw [if_neg (show ¬ (false = true) by decide)] at H; exact H
                  clear H
                  have H := H1
                  clear H1
                  replace H := Option.bind_eq_some_iff.mp H
                  obtain ⟨⟨t374, t375⟩, A220, H⟩ := H
                  replace H : ((colour_Mirror.f kj13 l1).bind fun bt378 => ((colour_Mirror.f kj13 t374).bind fun bt382 => ((colour_Mismatch.f kj13 t374 bt378.1).bind fun bt386 => (if t375 = 0 then (if bt378.2 = 0 then (if bt382.2 = 0 then (if bt386.2 = 0 then (if bt386.1 = t369 then ((gangsawref35_Same.f kj13 bt382.1 l0).bind fun t388 => (gangsawlaw35_ColourMetric.j2 kj13 l0 l1 l2 t369 (!t388))) else (gangsawlaw35_ColourMetric.j2 kj13 l0 l1 l2 t369 true)) else (gangsawlaw35_ColourMetric.j2 kj13 l0 l1 l2 t369 true)) else (gangsawlaw35_ColourMetric.j2 kj13 l0 l1 l2 t369 true)) else (gangsawlaw35_ColourMetric.j2 kj13 l0 l1 l2 t369 true)) else (gangsawlaw35_ColourMetric.j2 kj13 l0 l1 l2 t369 true))))) = some r := H
                  have A22 := Aside0.mk A220
                  clear A220
                  replace H := Option.bind_eq_some_iff.mp H
                  obtain ⟨⟨t378, t379⟩, A230, H⟩ := H
                  replace H : ((colour_Mirror.f kj13 t374).bind fun bt382 => ((colour_Mismatch.f kj13 t374 t378).bind fun bt386 => (if t375 = 0 then (if t379 = 0 then (if bt382.2 = 0 then (if bt386.2 = 0 then (if bt386.1 = t369 then ((gangsawref35_Same.f kj13 bt382.1 l0).bind fun t388 => (gangsawlaw35_ColourMetric.j2 kj13 l0 l1 l2 t369 (!t388))) else (gangsawlaw35_ColourMetric.j2 kj13 l0 l1 l2 t369 true)) else (gangsawlaw35_ColourMetric.j2 kj13 l0 l1 l2 t369 true)) else (gangsawlaw35_ColourMetric.j2 kj13 l0 l1 l2 t369 true)) else (gangsawlaw35_ColourMetric.j2 kj13 l0 l1 l2 t369 true)) else (gangsawlaw35_ColourMetric.j2 kj13 l0 l1 l2 t369 true)))) = some r := H
                  have A23 := Aside0.mk A230
                  clear A230
                  replace H := Option.bind_eq_some_iff.mp H
                  obtain ⟨⟨t382, t383⟩, A240, H⟩ := H
                  replace H : ((colour_Mismatch.f kj13 t374 t378).bind fun bt386 => (if t375 = 0 then (if t379 = 0 then (if t383 = 0 then (if bt386.2 = 0 then (if bt386.1 = t369 then ((gangsawref35_Same.f kj13 t382 l0).bind fun t388 => (gangsawlaw35_ColourMetric.j2 kj13 l0 l1 l2 t369 (!t388))) else (gangsawlaw35_ColourMetric.j2 kj13 l0 l1 l2 t369 true)) else (gangsawlaw35_ColourMetric.j2 kj13 l0 l1 l2 t369 true)) else (gangsawlaw35_ColourMetric.j2 kj13 l0 l1 l2 t369 true)) else (gangsawlaw35_ColourMetric.j2 kj13 l0 l1 l2 t369 true)) else (gangsawlaw35_ColourMetric.j2 kj13 l0 l1 l2 t369 true))) = some r := H
                  have A24 := Aside0.mk A240
                  clear A240
                  replace H := Option.bind_eq_some_iff.mp H
                  obtain ⟨⟨t386, t387⟩, A250, H⟩ := H
                  replace H : (if t375 = 0 then (if t379 = 0 then (if t383 = 0 then (if t387 = 0 then (if t386 = t369 then ((gangsawref35_Same.f kj13 t382 l0).bind fun t388 => (gangsawlaw35_ColourMetric.j2 kj13 l0 l1 l2 t369 (!t388))) else (gangsawlaw35_ColourMetric.j2 kj13 l0 l1 l2 t369 true)) else (gangsawlaw35_ColourMetric.j2 kj13 l0 l1 l2 t369 true)) else (gangsawlaw35_ColourMetric.j2 kj13 l0 l1 l2 t369 true)) else (gangsawlaw35_ColourMetric.j2 kj13 l0 l1 l2 t369 true)) else (gangsawlaw35_ColourMetric.j2 kj13 l0 l1 l2 t369 true)) = some r := H
                  have A25 := Aside0.mk A250
                  clear A250
                  have HC26 := Aside0.mk H
                  clear H
                  go_upto_region 15 with (first | ((with_reducible refine gate_callee (f := 14) rfl ?_); refine goesL_ (some 83) rfl rfl Try.func14 (by kernel_rfl) rfl #[.slice A0 l0.length c0] rfl (by (try simp only [List.map_toArray, List.map_cons, List.map_nil]); first | done | rfl | (simp only [List.length_drop, List.length_take]; rfl)) ?_; (with_reducible refine (colour_Mirror.calls kj13 _ _ l0 t374 t375 _ ?side1 ?side2 A22.out).mono ?_); (case side1 => repeat (first | exact (Kd.C_below HR0.out HB.out) | (with_reducible refine Kd.C_alloc ?_ _) | (with_reducible refine Kd.C_drewN ?_ _) | (with_reducible refine Kd.C_drew ?_))); (case side2 => exact HC0.out); rintro e w27 ⟨v376, rfl, ho0, hb⟩; refine ⟨_, rfl, ?_⟩; have n0_ := Aside0.mk (Kd.R_lower ho0 (below_size (by repeat (first | (with_reducible first | exact HB.out | apply below_alloc | apply pw_below_drewN | apply below_drew1) | exact HB.out)))); have n1_ := Aside0.mk (below_step (by repeat (first | (with_reducible first | exact HB.out | apply below_alloc | apply pw_below_drewN | apply below_drew1) | exact HB.out)) hb); clear HB; have HO377 := n0_; have HB := n1_; clear n0_ n1_; (try clear hb); (try clear hb2); (try clear hk); (try clear hi); (try clear ho0)) | ((with_reducible refine gate_callee (f := 14) rfl ?_); refine goesL_ (some 88) rfl rfl Try.func14 (by kernel_rfl) rfl #[.slice A1 l1.length c1] rfl (by (try simp only [List.map_toArray, List.map_cons, List.map_nil]); first | done | rfl | (simp only [List.length_drop, List.length_take]; rfl)) ?_; (with_reducible refine (colour_Mirror.calls kj13 _ _ l1 t378 t379 _ ?side1 ?side2 A23.out).mono ?_); (case side1 => repeat (first | exact (Kd.C_below HR1.out HB.out) | (with_reducible refine Kd.C_alloc ?_ _) | (with_reducible refine Kd.C_drewN ?_ _) | (with_reducible refine Kd.C_drew ?_))); (case side2 => exact HC1.out); rintro e w28 ⟨v380, rfl, ho0, hb⟩; refine ⟨_, rfl, ?_⟩; have n0_ := Aside0.mk (Kd.R_elder' (by (with_reducible repeat (first | apply Kd.R_alloc | apply Kd.R_drewN | apply Kd.R_drew)); exact HO377.out) (Kd.R_base ho0) hb); have n1_ := Aside0.mk (Kd.R_lower (Kd.R_new' ho0 (Kd.R_lt (by (with_reducible repeat (first | apply Kd.R_alloc | apply Kd.R_drewN | apply Kd.R_drew)); exact HO377.out))) (below_size (by repeat (first | (with_reducible first | exact HB.out | apply below_alloc | apply pw_below_drewN | apply below_drew1) | exact HB.out)))); have n2_ := Aside0.mk (below_step (by repeat (first | (with_reducible first | exact HB.out | apply below_alloc | apply pw_below_drewN | apply below_drew1) | exact HB.out)) hb); clear HO377; clear HB; have HO377 := n0_; have HO381 := n1_; have HB := n2_; clear n0_ n1_ n2_; (try clear hb); (try clear hb2); (try clear hk); (try clear hi); (try clear ho0); obtain ⟨Ao29, co29, eo29⟩ := Kd.R_slice HO377.out; subst eo29) | ((with_reducible refine gate_callee (f := 14) rfl ?_); refine goesL_ (some 93) rfl rfl Try.func14 (by kernel_rfl) rfl #[.slice Ao29 t374.length co29] rfl (by (try simp only [List.map_toArray, List.map_cons, List.map_nil]); first | done | rfl | (simp only [List.length_drop, List.length_take]; rfl)) ?_; (with_reducible refine (colour_Mirror.calls kj13 _ _ t374 t382 t383 _ ?side1 ?side2 A24.out).mono ?_); (case side1 => repeat (first | exact (Kd.R_reads' HO377.out).2.2 | (with_reducible refine Kd.C_alloc ?_ _) | (with_reducible refine Kd.C_drewN ?_ _) | (with_reducible refine Kd.C_drew ?_))); (case side2 => exact (Kd.R_reads' HO377.out).2.1); rintro e w30 ⟨v384, rfl, ho0, hb⟩; refine ⟨_, rfl, ?_⟩; have n0_ := Aside0.mk (Kd.R_elder' (by (with_reducible repeat (first | apply Kd.R_alloc | apply Kd.R_drewN | apply Kd.R_drew)); exact HO377.out) (Kd.R_base ho0) hb); have n1_ := Aside0.mk (Kd.R_elder' (by (with_reducible repeat (first | apply Kd.R_alloc | apply Kd.R_drewN | apply Kd.R_drew)); exact HO381.out) (Kd.R_base ho0) hb); have n2_ := Aside0.mk (Kd.R_lower (Kd.R_new' (Kd.R_new' ho0 (Kd.R_lt (by (with_reducible repeat (first | apply Kd.R_alloc | apply Kd.R_drewN | apply Kd.R_drew)); exact HO377.out))) (Kd.R_lt (by (with_reducible repeat (first | apply Kd.R_alloc | apply Kd.R_drewN | apply Kd.R_drew)); exact HO381.out))) (below_size (by repeat (first | (with_reducible first | exact HB.out | apply below_alloc | apply pw_below_drewN | apply below_drew1) | exact HB.out)))); have n3_ := Aside0.mk (below_step (by repeat (first | (with_reducible first | exact HB.out | apply below_alloc | apply pw_below_drewN | apply below_drew1) | exact HB.out)) hb); clear HO377; clear HO381; clear HB; have HO377 := n0_; have HO381 := n1_; have HO385 := n2_; have HB := n3_; clear n0_ n1_ n2_ n3_; (try clear hb); (try clear hb2); (try clear hk); (try clear hi); (try clear ho0); obtain ⟨Ao31, co31, eo31⟩ := Kd.R_slice HO381.out; subst eo31) | ((with_reducible refine gate_callee (f := 20) rfl ?_); refine goesL_ (some 99) rfl rfl Try.func20 (by kernel_rfl) rfl #[.slice Ao29 t374.length co29, .slice Ao31 t378.length co31] rfl (by (try simp only [List.map_toArray, List.map_cons, List.map_nil]); first | done | rfl | (simp only [List.length_drop, List.length_take]; rfl)) ?_; (with_reducible refine (colour_Mismatch.calls kj13 _ _ t374 _ _ t378 t386 t387 _ ?side1 ?side2 ?side3 ?side4 A25.out).mono ?_); (case side1 => repeat (first | exact (Kd.R_reads' HO377.out).2.2 | (with_reducible refine Kd.C_alloc ?_ _) | (with_reducible refine Kd.C_drewN ?_ _) | (with_reducible refine Kd.C_drew ?_))); (case side2 => exact (Kd.R_reads' HO377.out).2.1); (case side3 => repeat (first | exact (Kd.R_reads' HO381.out).2.2 | (with_reducible refine Kd.C_alloc ?_ _) | (with_reducible refine Kd.C_drewN ?_ _) | (with_reducible refine Kd.C_drew ?_))); (case side4 => exact (Kd.R_reads' HO381.out).2.1); rintro e w32 ⟨rfl, hb⟩; refine ⟨_, rfl, ?_⟩; have n0_ := Aside0.mk (Kd.R_below (by (with_reducible repeat (first | apply Kd.R_alloc | apply Kd.R_drewN | apply Kd.R_drew)); exact HO377.out) hb); have n1_ := Aside0.mk (Kd.R_below (by (with_reducible repeat (first | apply Kd.R_alloc | apply Kd.R_drewN | apply Kd.R_drew)); exact HO381.out) hb); have n2_ := Aside0.mk (Kd.R_below (by (with_reducible repeat (first | apply Kd.R_alloc | apply Kd.R_drewN | apply Kd.R_drew)); exact HO385.out) hb); have n3_ := Aside0.mk (below_step (by repeat (first | (with_reducible first | exact HB.out | apply below_alloc | apply pw_below_drewN | apply below_drew1) | exact HB.out)) hb); clear HO377; clear HO381; clear HO385; clear HB; have HO377 := n0_; have HO381 := n1_; have HO385 := n2_; have HB := n3_; clear n0_ n1_ n2_ n3_; (try clear hb); (try clear hb2); (try clear hk); (try clear hi)))
                  (try simp only [Act.put, List.setIfInBounds_toArray, List.set_cons_zero, List.set_cons_succ])
                  go_cut [126] (fun v126 wc => ∃ (kq : Nat) (x126_25 : Bool), v126 = .bool x126_25 ∧ Aside0 (gangsawlaw35_ColourMetric.j2 kq l0 l1 l2 t369 x126_25 = some r) ∧ Aside0 (kq ≤ kj13) ∧ Aside0 (Below w.heap.size w wc))
                  case first =>
                    have H := HC26.out
                    clear HC26
                    by_cases c33 : t375 = 0
                    · rw [if_pos c33] at H
                      have c33b0 : (t375 == 0) = true := beq_iff_eq.mpr c33
                      have c33b1 : (t375 != 0) = false := bne_eq_false_iff_eq.mpr c33
                      clear c33
                      (first | rw [c33b0] | (simp only [i64_w, i32_w]; rw [c33b0]) | skip)
                      by_cases c34 : t379 = 0
                      · rw [if_pos c34] at H
                        have c34b0 : (t379 == 0) = true := beq_iff_eq.mpr c34
                        have c34b1 : (t379 != 0) = false := bne_eq_false_iff_eq.mpr c34
                        clear c34
                        by_cases c35 : t383 = 0
                        · rw [if_pos c35] at H
                          have c35b0 : (t383 == 0) = true := beq_iff_eq.mpr c35
                          have c35b1 : (t383 != 0) = false := bne_eq_false_iff_eq.mpr c35
                          clear c35
                          by_cases c36 : t387 = 0
                          · rw [if_pos c36] at H
                            have c36b0 : (t387 == 0) = true := beq_iff_eq.mpr c36
                            have c36b1 : (t387 != 0) = false := bne_eq_false_iff_eq.mpr c36
                            clear c36
                            by_cases c37 : t386 = t369
                            · rw [if_pos c37] at H
                              have c37b0 : (t386 == t369) = true := beq_iff_eq.mpr c37
                              have c37b1 : (t386 != t369) = false := bne_eq_false_iff_eq.mpr c37
                              clear c37
                              replace H := Option.bind_eq_some_iff.mp H
                              obtain ⟨t388, A380, H⟩ := H
                              replace H : (gangsawlaw35_ColourMetric.j2 kj13 l0 l1 l2 t369 (!t388)) = some r := H
                              have A38 := Aside0.mk A380
                              clear A380
                              have H' := Aside0.mk H
                              clear H
                              obtain ⟨Ao39, co39, eo39⟩ := Kd.R_slice HO385.out
                              subst eo39
                              go_wp2_with (first | (go_at_call 17; (with_reducible refine (gangsawref35_Same.calls kj13 _ _ t382 _ _ l0 t388 _ ?side1 ?side2 ?side3 ?side4 A38.out).mono ?_); (case side1 => repeat (first | exact (Kd.R_reads' HO385.out).2.2 | (with_reducible refine Kd.C_alloc ?_ _) | (with_reducible refine Kd.C_drewN ?_ _) | (with_reducible refine Kd.C_drew ?_))); (case side2 => exact (Kd.R_reads' HO385.out).2.1); (case side3 => repeat (first | exact (Kd.C_below HR0.out HB.out) | (with_reducible refine Kd.C_alloc ?_ _) | (with_reducible refine Kd.C_drewN ?_ _) | (with_reducible refine Kd.C_drew ?_))); (case side4 => exact HC0.out); rintro e w' ⟨rfl, ⟨nd, rfl⟩⟩))
                              go_meet
                              case rel => exact ⟨_, (!t388), (by first | rfl | (simp; done) | (simp [*]; done)), H', ⟨by have := HJ5.out; have := HJ13.out; first | omega | exact Nat.le_refl _⟩, ⟨by repeat (first | (with_reducible first | exact HB.out | apply below_alloc | apply pw_below_drewN | apply below_drew1) | exact HB.out)⟩⟩
                            · rw [if_neg c37] at H
                              have c37b0 : (t386 == t369) = false := beq_eq_false_iff_ne.mpr c37
                              have c37b1 : (t386 != t369) = true := bne_iff_ne.mpr c37
                              have H' := Aside0.mk H
                              clear H
                              go_wp2
                              go_meet
                              case rel => exact ⟨_, (true), (by first | rfl | (simp; done) | (simp [*]; done)), H', ⟨by have := HJ5.out; have := HJ13.out; first | omega | exact Nat.le_refl _⟩, ⟨by repeat (first | (with_reducible first | exact HB.out | apply below_alloc | apply pw_below_drewN | apply below_drew1) | exact HB.out)⟩⟩
                          · rw [if_neg c36] at H
                            have c36b0 : (t387 == 0) = false := beq_eq_false_iff_ne.mpr c36
                            have c36b1 : (t387 != 0) = true := bne_iff_ne.mpr c36
                            have H' := Aside0.mk H
                            clear H
                            go_wp2
                            go_meet
                            case rel => exact ⟨_, (true), (by first | rfl | (simp; done) | (simp [*]; done)), H', ⟨by have := HJ5.out; have := HJ13.out; first | omega | exact Nat.le_refl _⟩, ⟨by repeat (first | (with_reducible first | exact HB.out | apply below_alloc | apply pw_below_drewN | apply below_drew1) | exact HB.out)⟩⟩
                        · rw [if_neg c35] at H
                          have c35b0 : (t383 == 0) = false := beq_eq_false_iff_ne.mpr c35
                          have c35b1 : (t383 != 0) = true := bne_iff_ne.mpr c35
                          have H' := Aside0.mk H
                          clear H
                          go_wp2
                          go_meet
                          case rel => exact ⟨_, (true), (by first | rfl | (simp; done) | (simp [*]; done)), H', ⟨by have := HJ5.out; have := HJ13.out; first | omega | exact Nat.le_refl _⟩, ⟨by repeat (first | (with_reducible first | exact HB.out | apply below_alloc | apply pw_below_drewN | apply below_drew1) | exact HB.out)⟩⟩
                      · rw [if_neg c34] at H
                        have c34b0 : (t379 == 0) = false := beq_eq_false_iff_ne.mpr c34
                        have c34b1 : (t379 != 0) = true := bne_iff_ne.mpr c34
                        have H' := Aside0.mk H
                        clear H
                        go_wp2
                        go_meet
                        case rel => exact ⟨_, (true), (by first | rfl | (simp; done) | (simp [*]; done)), H', ⟨by have := HJ5.out; have := HJ13.out; first | omega | exact Nat.le_refl _⟩, ⟨by repeat (first | (with_reducible first | exact HB.out | apply below_alloc | apply pw_below_drewN | apply below_drew1) | exact HB.out)⟩⟩
                    · rw [if_neg c33] at H
                      have c33b0 : (t375 == 0) = false := beq_eq_false_iff_ne.mpr c33
                      have c33b1 : (t375 != 0) = true := bne_iff_ne.mpr c33
                      (first | rw [c33b0] | (simp only [i64_w, i32_w]; rw [c33b0]) | skip)
                      have H' := Aside0.mk H
                      clear H
                      go_wp2
                      go_meet
                      case rel => exact ⟨_, (true), (by first | rfl | (simp; done) | (simp [*]; done)), H', ⟨by have := HJ5.out; have := HJ13.out; first | omega | exact Nat.le_refl _⟩, ⟨by repeat (first | (with_reducible first | exact HB.out | apply below_alloc | apply pw_below_drewN | apply below_drew1) | exact HB.out)⟩⟩
                  case rest =>
                    clear HC26
                    try clear c1
                    try clear c2
                    try clear p2
                    try clear c3
                    try clear c5
                    try clear c8
                    try clear c8b0
                    try clear c8b1
                    try clear c9
                    try clear c9b0
                    try clear c9b1
                    try clear c10
                    try clear c12
                    try clear c13
                    try clear c13b0
                    try clear c13b1
                    try clear c14
                    try clear c17
                    try clear c17b0
                    try clear c17b1
                    try clear c18
                    try clear c18b0
                    try clear c18b1
                    try clear c19
                    try clear c19b0
                    try clear c20
                    try clear c21
                    try clear c33
                    try clear c33b0
                    try clear c33b1
                    try clear c34
                    try clear c34b0
                    try clear c34b1
                    try clear c35
                    try clear c35b0
                    try clear c35b1
                    try clear c36
                    try clear c36b0
                    try clear c36b1
                    try clear c37
                    try clear c37b0
                    try clear c37b1
                    try clear p2
                    obtain ⟨kq, x126_25, rfl, HA, HJ25, HB⟩ := hcut
                    cases kq with
                    | zero => exact absurd HA.out (by simp [gangsawlaw35_ColourMetric.j2])
                    | succ kj25 =>
                      have H := HA.out
                      clear HA
                      simp only [gangsawlaw35_ColourMetric.j2] at H
                      by_cases c40 : x126_25 = true
                      · subst c40
                        have H1 : (some false) = some r := by rw [if_pos rfl] at H; exact H
                        clear H
                        have H := H1
                        clear H1
                        obtain rfl := Option.some.inj H
                        go_wp2
                        go_ret
                        exact ⟨by first | rfl | (simp [errW_none, errW_some] <;> rfl) | (simp [*, errW_none, errW_some] <;> rfl), by repeat (first | (with_reducible first | exact HB.out | apply below_alloc | apply pw_below_drewN | apply below_drew1) | exact HB.out)⟩
                      · replace c40 := Bool.eq_false_iff.mpr c40
                        subst c40
                        have H1 : ((colour_Mismatch.f kj25 l0 l2).bind fun bt389 => ((colour_Mismatch.f kj25 l2 l1).bind fun bt391 => (if bt389.2 = 0 then (if bt391.2 = 0 then (some (decide (t369 ≤ (wrap64 (bt389.1 + bt391.1))))) else (some true)) else (some true)))) = some r := by rw [if_neg (show ¬ (false = true) by decide)] at H; exact H
                        clear H
                        have H := H1
                        clear H1
                        replace H := Option.bind_eq_some_iff.mp H
                        obtain ⟨⟨t389, t390⟩, A410, H⟩ := H
                        replace H : ((colour_Mismatch.f kj25 l2 l1).bind fun bt391 => (if t390 = 0 then (if bt391.2 = 0 then (some (decide (t369 ≤ (wrap64 (t389 + bt391.1))))) else (some true)) else (some true))) = some r := H
                        have A41 := Aside0.mk A410
                        clear A410
                        replace H := Option.bind_eq_some_iff.mp H
                        obtain ⟨⟨t391, t392⟩, A420, H⟩ := H
                        replace H : (if t390 = 0 then (if t392 = 0 then (some (decide (t369 ≤ (wrap64 (t389 + t391))))) else (some true)) else (some true)) = some r := H
                        have A42 := Aside0.mk A420
                        clear A420
                        by_cases c43 : t390 = 0
                        · rw [if_pos c43] at H
                          have c43b0 : (t390 == 0) = true := beq_iff_eq.mpr c43
                          have c43b1 : (t390 != 0) = false := bne_eq_false_iff_eq.mpr c43
                          clear c43
                          by_cases c44 : t392 = 0
                          · rw [if_pos c44] at H
                            have c44b0 : (t392 == 0) = true := beq_iff_eq.mpr c44
                            have c44b1 : (t392 != 0) = false := bne_eq_false_iff_eq.mpr c44
                            clear c44
                            obtain rfl := Option.some.inj H
                            go_wp2_with (first | ((with_reducible refine gate_callee (f := 20) rfl ?_); refine goesL_ (some 130) rfl rfl Try.func20 (by kernel_rfl) rfl #[.slice A0 l0.length c0, .slice A2 l2.length c2] rfl (by (try simp only [List.map_toArray, List.map_cons, List.map_nil]); first | done | rfl | (simp only [List.length_drop, List.length_take]; rfl)) ?_; (with_reducible refine (colour_Mismatch.calls kj25 _ _ l0 _ _ l2 t389 t390 _ ?side1 ?side2 ?side3 ?side4 A41.out).mono ?_); (case side1 => repeat (first | exact (Kd.C_below HR0.out HB.out) | (with_reducible refine Kd.C_alloc ?_ _) | (with_reducible refine Kd.C_drewN ?_ _) | (with_reducible refine Kd.C_drew ?_))); (case side2 => exact HC0.out); (case side3 => repeat (first | exact (Kd.C_below HR2.out HB.out) | (with_reducible refine Kd.C_alloc ?_ _) | (with_reducible refine Kd.C_drewN ?_ _) | (with_reducible refine Kd.C_drew ?_))); (case side4 => exact HC2.out); rintro e w45 ⟨rfl, hb⟩; refine ⟨_, rfl, ?_⟩; have n0_ := Aside0.mk (below_step (by repeat (first | (with_reducible first | exact HB.out | apply below_alloc | apply pw_below_drewN | apply below_drew1) | exact HB.out)) hb); clear HB; have HB := n0_; clear n0_; (try clear hb); (try clear hb2); (try clear hk); (try clear hi)) | ((with_reducible refine gate_callee (f := 20) rfl ?_); refine goesL_ (some 136) rfl rfl Try.func20 (by kernel_rfl) rfl #[.slice A2 l2.length c2, .slice A1 l1.length c1] rfl (by (try simp only [List.map_toArray, List.map_cons, List.map_nil]); first | done | rfl | (simp only [List.length_drop, List.length_take]; rfl)) ?_; (with_reducible refine (colour_Mismatch.calls kj25 _ _ l2 _ _ l1 t391 t392 _ ?side1 ?side2 ?side3 ?side4 A42.out).mono ?_); (case side1 => repeat (first | exact (Kd.C_below HR2.out HB.out) | (with_reducible refine Kd.C_alloc ?_ _) | (with_reducible refine Kd.C_drewN ?_ _) | (with_reducible refine Kd.C_drew ?_))); (case side2 => exact HC2.out); (case side3 => repeat (first | exact (Kd.C_below HR1.out HB.out) | (with_reducible refine Kd.C_alloc ?_ _) | (with_reducible refine Kd.C_drewN ?_ _) | (with_reducible refine Kd.C_drew ?_))); (case side4 => exact HC1.out); rintro e w46 ⟨rfl, hb⟩; refine ⟨_, rfl, ?_⟩; have n0_ := Aside0.mk (below_step (by repeat (first | (with_reducible first | exact HB.out | apply below_alloc | apply pw_below_drewN | apply below_drew1) | exact HB.out)) hb); clear HB; have HB := n0_; clear n0_; (try clear hb); (try clear hb2); (try clear hk); (try clear hi)))
                            go_ret
                            exact ⟨by first | rfl | (simp [errW_none, errW_some] <;> rfl) | (simp [*, errW_none, errW_some] <;> rfl), by repeat (first | (with_reducible first | exact HB.out | apply below_alloc | apply pw_below_drewN | apply below_drew1) | exact HB.out)⟩
                          · rw [if_neg c44] at H
                            have c44b0 : (t392 == 0) = false := beq_eq_false_iff_ne.mpr c44
                            have c44b1 : (t392 != 0) = true := bne_iff_ne.mpr c44
                            obtain rfl := Option.some.inj H
                            go_wp2_with (first | ((with_reducible refine gate_callee (f := 20) rfl ?_); refine goesL_ (some 130) rfl rfl Try.func20 (by kernel_rfl) rfl #[.slice A0 l0.length c0, .slice A2 l2.length c2] rfl (by (try simp only [List.map_toArray, List.map_cons, List.map_nil]); first | done | rfl | (simp only [List.length_drop, List.length_take]; rfl)) ?_; (with_reducible refine (colour_Mismatch.calls kj25 _ _ l0 _ _ l2 t389 t390 _ ?side1 ?side2 ?side3 ?side4 A41.out).mono ?_); (case side1 => repeat (first | exact (Kd.C_below HR0.out HB.out) | (with_reducible refine Kd.C_alloc ?_ _) | (with_reducible refine Kd.C_drewN ?_ _) | (with_reducible refine Kd.C_drew ?_))); (case side2 => exact HC0.out); (case side3 => repeat (first | exact (Kd.C_below HR2.out HB.out) | (with_reducible refine Kd.C_alloc ?_ _) | (with_reducible refine Kd.C_drewN ?_ _) | (with_reducible refine Kd.C_drew ?_))); (case side4 => exact HC2.out); rintro e w47 ⟨rfl, hb⟩; refine ⟨_, rfl, ?_⟩; have n0_ := Aside0.mk (below_step (by repeat (first | (with_reducible first | exact HB.out | apply below_alloc | apply pw_below_drewN | apply below_drew1) | exact HB.out)) hb); clear HB; have HB := n0_; clear n0_; (try clear hb); (try clear hb2); (try clear hk); (try clear hi)) | ((with_reducible refine gate_callee (f := 20) rfl ?_); refine goesL_ (some 136) rfl rfl Try.func20 (by kernel_rfl) rfl #[.slice A2 l2.length c2, .slice A1 l1.length c1] rfl (by (try simp only [List.map_toArray, List.map_cons, List.map_nil]); first | done | rfl | (simp only [List.length_drop, List.length_take]; rfl)) ?_; (with_reducible refine (colour_Mismatch.calls kj25 _ _ l2 _ _ l1 t391 t392 _ ?side1 ?side2 ?side3 ?side4 A42.out).mono ?_); (case side1 => repeat (first | exact (Kd.C_below HR2.out HB.out) | (with_reducible refine Kd.C_alloc ?_ _) | (with_reducible refine Kd.C_drewN ?_ _) | (with_reducible refine Kd.C_drew ?_))); (case side2 => exact HC2.out); (case side3 => repeat (first | exact (Kd.C_below HR1.out HB.out) | (with_reducible refine Kd.C_alloc ?_ _) | (with_reducible refine Kd.C_drewN ?_ _) | (with_reducible refine Kd.C_drew ?_))); (case side4 => exact HC1.out); rintro e w48 ⟨rfl, hb⟩; refine ⟨_, rfl, ?_⟩; have n0_ := Aside0.mk (below_step (by repeat (first | (with_reducible first | exact HB.out | apply below_alloc | apply pw_below_drewN | apply below_drew1) | exact HB.out)) hb); clear HB; have HB := n0_; clear n0_; (try clear hb); (try clear hb2); (try clear hk); (try clear hi)))
                            go_ret
                            exact ⟨by first | rfl | (simp [errW_none, errW_some] <;> rfl) | (simp [*, errW_none, errW_some] <;> rfl), by repeat (first | (with_reducible first | exact HB.out | apply below_alloc | apply pw_below_drewN | apply below_drew1) | exact HB.out)⟩
                        · rw [if_neg c43] at H
                          have c43b0 : (t390 == 0) = false := beq_eq_false_iff_ne.mpr c43
                          have c43b1 : (t390 != 0) = true := bne_iff_ne.mpr c43
                          obtain rfl := Option.some.inj H
                          go_wp2_with (first | ((with_reducible refine gate_callee (f := 20) rfl ?_); refine goesL_ (some 130) rfl rfl Try.func20 (by kernel_rfl) rfl #[.slice A0 l0.length c0, .slice A2 l2.length c2] rfl (by (try simp only [List.map_toArray, List.map_cons, List.map_nil]); first | done | rfl | (simp only [List.length_drop, List.length_take]; rfl)) ?_; (with_reducible refine (colour_Mismatch.calls kj25 _ _ l0 _ _ l2 t389 t390 _ ?side1 ?side2 ?side3 ?side4 A41.out).mono ?_); (case side1 => repeat (first | exact (Kd.C_below HR0.out HB.out) | (with_reducible refine Kd.C_alloc ?_ _) | (with_reducible refine Kd.C_drewN ?_ _) | (with_reducible refine Kd.C_drew ?_))); (case side2 => exact HC0.out); (case side3 => repeat (first | exact (Kd.C_below HR2.out HB.out) | (with_reducible refine Kd.C_alloc ?_ _) | (with_reducible refine Kd.C_drewN ?_ _) | (with_reducible refine Kd.C_drew ?_))); (case side4 => exact HC2.out); rintro e w49 ⟨rfl, hb⟩; refine ⟨_, rfl, ?_⟩; have n0_ := Aside0.mk (below_step (by repeat (first | (with_reducible first | exact HB.out | apply below_alloc | apply pw_below_drewN | apply below_drew1) | exact HB.out)) hb); clear HB; have HB := n0_; clear n0_; (try clear hb); (try clear hb2); (try clear hk); (try clear hi)) | ((with_reducible refine gate_callee (f := 20) rfl ?_); refine goesL_ (some 136) rfl rfl Try.func20 (by kernel_rfl) rfl #[.slice A2 l2.length c2, .slice A1 l1.length c1] rfl (by (try simp only [List.map_toArray, List.map_cons, List.map_nil]); first | done | rfl | (simp only [List.length_drop, List.length_take]; rfl)) ?_; (with_reducible refine (colour_Mismatch.calls kj25 _ _ l2 _ _ l1 t391 t392 _ ?side1 ?side2 ?side3 ?side4 A42.out).mono ?_); (case side1 => repeat (first | exact (Kd.C_below HR2.out HB.out) | (with_reducible refine Kd.C_alloc ?_ _) | (with_reducible refine Kd.C_drewN ?_ _) | (with_reducible refine Kd.C_drew ?_))); (case side2 => exact HC2.out); (case side3 => repeat (first | exact (Kd.C_below HR1.out HB.out) | (with_reducible refine Kd.C_alloc ?_ _) | (with_reducible refine Kd.C_drewN ?_ _) | (with_reducible refine Kd.C_drew ?_))); (case side4 => exact HC1.out); rintro e w50 ⟨rfl, hb⟩; refine ⟨_, rfl, ?_⟩; have n0_ := Aside0.mk (below_step (by repeat (first | (with_reducible first | exact HB.out | apply below_alloc | apply pw_below_drewN | apply below_drew1) | exact HB.out)) hb); clear HB; have HB := n0_; clear n0_; (try clear hb); (try clear hb2); (try clear hk); (try clear hi)))
                          go_ret
                          exact ⟨by first | rfl | (simp [errW_none, errW_some] <;> rfl) | (simp [*, errW_none, errW_some] <;> rfl), by repeat (first | (with_reducible first | exact HB.out | apply below_alloc | apply pw_below_drewN | apply below_drew1) | exact HB.out)⟩
          · rw [if_neg c13] at H
            have c13b0 : (t370 == 0) = false := beq_eq_false_iff_ne.mpr c13
            have c13b1 : (t370 != 0) = true := bne_iff_ne.mpr c13
            by_cases c51 : t369 = 0
            · rw [if_pos c51] at H
              have c51b0 : (t369 == 0) = true := beq_iff_eq.mpr c51
              have c51b1 : (t369 != 0) = false := bne_eq_false_iff_eq.mpr c51
              clear c51
              by_cases c52 : t371 = 0
              · rw [if_pos c52] at H
                have c52b0 : (t371 == 0) = true := beq_iff_eq.mpr c52
                have c52b1 : (t371 != 0) = false := bne_eq_false_iff_eq.mpr c52
                clear c52
                obtain rfl := Option.some.inj H
                go_wp2_with (first | ((with_reducible refine gate_callee (f := 20) rfl ?_); refine goesL_ (some 41) rfl rfl Try.func20 (by kernel_rfl) rfl #[.slice A0 l0.length c0, .slice A1 l1.length c1] rfl (by (try simp only [List.map_toArray, List.map_cons, List.map_nil]); first | done | rfl | (simp only [List.length_drop, List.length_take]; rfl)) ?_; (with_reducible refine (colour_Mismatch.calls kj5 _ _ l0 _ _ l1 t369 t370 _ ?side1 ?side2 ?side3 ?side4 A11.out).mono ?_); (case side1 => repeat (first | exact (Kd.C_below HR0.out HB.out) | (with_reducible refine Kd.C_alloc ?_ _) | (with_reducible refine Kd.C_drewN ?_ _) | (with_reducible refine Kd.C_drew ?_))); (case side2 => exact HC0.out); (case side3 => repeat (first | exact (Kd.C_below HR1.out HB.out) | (with_reducible refine Kd.C_alloc ?_ _) | (with_reducible refine Kd.C_drewN ?_ _) | (with_reducible refine Kd.C_drew ?_))); (case side4 => exact HC1.out); rintro e w53 ⟨rfl, hb⟩; refine ⟨_, rfl, ?_⟩; have n0_ := Aside0.mk (below_step (by repeat (first | (with_reducible first | exact HB.out | apply below_alloc | apply pw_below_drewN | apply below_drew1) | exact HB.out)) hb); clear HB; have HB := n0_; clear n0_; (try clear hb); (try clear hb2); (try clear hk); (try clear hi)) | ((with_reducible refine gate_callee (f := 20) rfl ?_); refine goesL_ (some 47) rfl rfl Try.func20 (by kernel_rfl) rfl #[.slice A1 l1.length c1, .slice A0 l0.length c0] rfl (by (try simp only [List.map_toArray, List.map_cons, List.map_nil]); first | done | rfl | (simp only [List.length_drop, List.length_take]; rfl)) ?_; (with_reducible refine (colour_Mismatch.calls kj5 _ _ l1 _ _ l0 t371 t372 _ ?side1 ?side2 ?side3 ?side4 A12.out).mono ?_); (case side1 => repeat (first | exact (Kd.C_below HR1.out HB.out) | (with_reducible refine Kd.C_alloc ?_ _) | (with_reducible refine Kd.C_drewN ?_ _) | (with_reducible refine Kd.C_drew ?_))); (case side2 => exact HC1.out); (case side3 => repeat (first | exact (Kd.C_below HR0.out HB.out) | (with_reducible refine Kd.C_alloc ?_ _) | (with_reducible refine Kd.C_drewN ?_ _) | (with_reducible refine Kd.C_drew ?_))); (case side4 => exact HC0.out); rintro e w54 ⟨rfl, hb⟩; refine ⟨_, rfl, ?_⟩; have n0_ := Aside0.mk (below_step (by repeat (first | (with_reducible first | exact HB.out | apply below_alloc | apply pw_below_drewN | apply below_drew1) | exact HB.out)) hb); clear HB; have HB := n0_; clear n0_; (try clear hb); (try clear hb2); (try clear hk); (try clear hi)))
                go_ret
                exact ⟨by first | rfl | (simp [errW_none, errW_some] <;> rfl) | (simp [*, errW_none, errW_some] <;> rfl), by repeat (first | (with_reducible first | exact HB.out | apply below_alloc | apply pw_below_drewN | apply below_drew1) | exact HB.out)⟩
              · rw [if_neg c52] at H
                have c52b0 : (t371 == 0) = false := beq_eq_false_iff_ne.mpr c52
                have c52b1 : (t371 != 0) = true := bne_iff_ne.mpr c52
                obtain rfl := Option.some.inj H
                go_wp2_with (first | ((with_reducible refine gate_callee (f := 20) rfl ?_); refine goesL_ (some 41) rfl rfl Try.func20 (by kernel_rfl) rfl #[.slice A0 l0.length c0, .slice A1 l1.length c1] rfl (by (try simp only [List.map_toArray, List.map_cons, List.map_nil]); first | done | rfl | (simp only [List.length_drop, List.length_take]; rfl)) ?_; (with_reducible refine (colour_Mismatch.calls kj5 _ _ l0 _ _ l1 t369 t370 _ ?side1 ?side2 ?side3 ?side4 A11.out).mono ?_); (case side1 => repeat (first | exact (Kd.C_below HR0.out HB.out) | (with_reducible refine Kd.C_alloc ?_ _) | (with_reducible refine Kd.C_drewN ?_ _) | (with_reducible refine Kd.C_drew ?_))); (case side2 => exact HC0.out); (case side3 => repeat (first | exact (Kd.C_below HR1.out HB.out) | (with_reducible refine Kd.C_alloc ?_ _) | (with_reducible refine Kd.C_drewN ?_ _) | (with_reducible refine Kd.C_drew ?_))); (case side4 => exact HC1.out); rintro e w55 ⟨rfl, hb⟩; refine ⟨_, rfl, ?_⟩; have n0_ := Aside0.mk (below_step (by repeat (first | (with_reducible first | exact HB.out | apply below_alloc | apply pw_below_drewN | apply below_drew1) | exact HB.out)) hb); clear HB; have HB := n0_; clear n0_; (try clear hb); (try clear hb2); (try clear hk); (try clear hi)) | ((with_reducible refine gate_callee (f := 20) rfl ?_); refine goesL_ (some 47) rfl rfl Try.func20 (by kernel_rfl) rfl #[.slice A1 l1.length c1, .slice A0 l0.length c0] rfl (by (try simp only [List.map_toArray, List.map_cons, List.map_nil]); first | done | rfl | (simp only [List.length_drop, List.length_take]; rfl)) ?_; (with_reducible refine (colour_Mismatch.calls kj5 _ _ l1 _ _ l0 t371 t372 _ ?side1 ?side2 ?side3 ?side4 A12.out).mono ?_); (case side1 => repeat (first | exact (Kd.C_below HR1.out HB.out) | (with_reducible refine Kd.C_alloc ?_ _) | (with_reducible refine Kd.C_drewN ?_ _) | (with_reducible refine Kd.C_drew ?_))); (case side2 => exact HC1.out); (case side3 => repeat (first | exact (Kd.C_below HR0.out HB.out) | (with_reducible refine Kd.C_alloc ?_ _) | (with_reducible refine Kd.C_drewN ?_ _) | (with_reducible refine Kd.C_drew ?_))); (case side4 => exact HC0.out); rintro e w56 ⟨rfl, hb⟩; refine ⟨_, rfl, ?_⟩; have n0_ := Aside0.mk (below_step (by repeat (first | (with_reducible first | exact HB.out | apply below_alloc | apply pw_below_drewN | apply below_drew1) | exact HB.out)) hb); clear HB; have HB := n0_; clear n0_; (try clear hb); (try clear hb2); (try clear hk); (try clear hi)))
                go_ret
                exact ⟨by first | rfl | (simp [errW_none, errW_some] <;> rfl) | (simp [*, errW_none, errW_some] <;> rfl), by repeat (first | (with_reducible first | exact HB.out | apply below_alloc | apply pw_below_drewN | apply below_drew1) | exact HB.out)⟩
            · rw [if_neg c51] at H
              have c51b0 : (t369 == 0) = false := beq_eq_false_iff_ne.mpr c51
              have c51b1 : (t369 != 0) = true := bne_iff_ne.mpr c51
              obtain rfl := Option.some.inj H
              go_wp2_with (first | ((with_reducible refine gate_callee (f := 20) rfl ?_); refine goesL_ (some 41) rfl rfl Try.func20 (by kernel_rfl) rfl #[.slice A0 l0.length c0, .slice A1 l1.length c1] rfl (by (try simp only [List.map_toArray, List.map_cons, List.map_nil]); first | done | rfl | (simp only [List.length_drop, List.length_take]; rfl)) ?_; (with_reducible refine (colour_Mismatch.calls kj5 _ _ l0 _ _ l1 t369 t370 _ ?side1 ?side2 ?side3 ?side4 A11.out).mono ?_); (case side1 => repeat (first | exact (Kd.C_below HR0.out HB.out) | (with_reducible refine Kd.C_alloc ?_ _) | (with_reducible refine Kd.C_drewN ?_ _) | (with_reducible refine Kd.C_drew ?_))); (case side2 => exact HC0.out); (case side3 => repeat (first | exact (Kd.C_below HR1.out HB.out) | (with_reducible refine Kd.C_alloc ?_ _) | (with_reducible refine Kd.C_drewN ?_ _) | (with_reducible refine Kd.C_drew ?_))); (case side4 => exact HC1.out); rintro e w57 ⟨rfl, hb⟩; refine ⟨_, rfl, ?_⟩; have n0_ := Aside0.mk (below_step (by repeat (first | (with_reducible first | exact HB.out | apply below_alloc | apply pw_below_drewN | apply below_drew1) | exact HB.out)) hb); clear HB; have HB := n0_; clear n0_; (try clear hb); (try clear hb2); (try clear hk); (try clear hi)) | ((with_reducible refine gate_callee (f := 20) rfl ?_); refine goesL_ (some 47) rfl rfl Try.func20 (by kernel_rfl) rfl #[.slice A1 l1.length c1, .slice A0 l0.length c0] rfl (by (try simp only [List.map_toArray, List.map_cons, List.map_nil]); first | done | rfl | (simp only [List.length_drop, List.length_take]; rfl)) ?_; (with_reducible refine (colour_Mismatch.calls kj5 _ _ l1 _ _ l0 t371 t372 _ ?side1 ?side2 ?side3 ?side4 A12.out).mono ?_); (case side1 => repeat (first | exact (Kd.C_below HR1.out HB.out) | (with_reducible refine Kd.C_alloc ?_ _) | (with_reducible refine Kd.C_drewN ?_ _) | (with_reducible refine Kd.C_drew ?_))); (case side2 => exact HC1.out); (case side3 => repeat (first | exact (Kd.C_below HR0.out HB.out) | (with_reducible refine Kd.C_alloc ?_ _) | (with_reducible refine Kd.C_drewN ?_ _) | (with_reducible refine Kd.C_drew ?_))); (case side4 => exact HC0.out); rintro e w58 ⟨rfl, hb⟩; refine ⟨_, rfl, ?_⟩; have n0_ := Aside0.mk (below_step (by repeat (first | (with_reducible first | exact HB.out | apply below_alloc | apply pw_below_drewN | apply below_drew1) | exact HB.out)) hb); clear HB; have HB := n0_; clear n0_; (try clear hb); (try clear hb2); (try clear hk); (try clear hi)))
              go_ret
              exact ⟨by first | rfl | (simp [errW_none, errW_some] <;> rfl) | (simp [*, errW_none, errW_some] <;> rfl), by repeat (first | (with_reducible first | exact HB.out | apply below_alloc | apply pw_below_drewN | apply below_drew1) | exact HB.out)⟩
  · replace c5 := Bool.eq_false_iff.mpr c5
    subst c5
    have H1 : (some false) = some r := by rw [if_neg (show ¬ (false = true) by decide)] at H; exact H
    clear H
    have H := H1
    clear H1
    obtain rfl := Option.some.inj H
    go_enter Try.func8, Try.ntmps8
    go_wp2_with (first | ((with_reducible refine gate_callee (f := 12) rfl ?_); refine goesL_ (some 23) rfl rfl Try.func12 (by kernel_rfl) rfl #[] rfl (by (try simp only [List.map_toArray, List.map_cons, List.map_nil]); first | done | rfl | (simp only [List.length_drop, List.length_take]; rfl)) ?_; (with_reducible refine (gangsawlaw35_awake.calls k  false _ A4.out).mono ?_); rintro e w59 ⟨rfl, hb⟩; refine ⟨_, rfl, ?_⟩; have n0_ := Aside0.mk (below_step (by repeat (first | (with_reducible first | exact HB.out | apply below_alloc | apply pw_below_drewN | apply below_drew1) | exact HB.out)) hb); clear HB; have HB := n0_; clear n0_; (try clear hb); (try clear hb2); (try clear hk); (try clear hi)))
    go_ret
    exact ⟨by first | rfl | (simp [errW_none, errW_some] <;> rfl) | (simp [*, errW_none, errW_some] <;> rfl), by repeat (first | (with_reducible first | exact HB.out | apply below_alloc | apply pw_below_drewN | apply below_drew1) | exact HB.out)⟩

/-- THE ONE PURE STATEMENT of gangsawlaw35_ColourMetric. -/
def gangsawlaw35_ColourMetric.Pure : Prop := ∀ (l0 : List Int) (l1 : List Int) (l2 : List Int), (gSl (gInt .i64)) l0 → (gSl (gInt .i64)) l1 → (gSl (gInt .i64)) l2 → ∃ k, gangsawlaw35_ColourMetric.f k l0 l1 l2 = some true
theorem gangsawlaw35_ColourMetric.walk (P : gangsawlaw35_ColourMetric.Pure) (A0 : Option Addr) (c0 : Nat) (l0 : List Int) (A1 : Option Addr) (c1 : Nat) (l1 : List Int) (A2 : Option Addr) (c2 : Nat) (l2 : List Int) (w : World) (w0 : (gSl (gInt .i64)) l0) (w1 : (gSl (gInt .i64)) l1) (w2 : (gSl (gInt .i64)) l2) (hr0 : Kd.C (Kd.int .i64) w A0 l0.length l0) (hc0 : l0.length ≤ c0) (hr1 : Kd.C (Kd.int .i64) w A1 l1.length l1) (hc1 : l1.length ≤ c1) (hr2 : Kd.C (Kd.int .i64) w A2 l2.length l2) (hc2 : l2.length ≤ c2) :
    Calls Try.prog 8 #[.slice A0 l0.length c0, .slice A1 l1.length c1, .slice A2 l2.length c2] w fun e w' => e = .returned (.bool true) ∧ Below w.heap.size w w' := by
  obtain ⟨k, h⟩ := P l0 l1 l2 w0 w1 w2
  refine (gangsawlaw35_ColourMetric.calls k _ _ l0 _ _ l1 _ _ l2 true w hr0 hc0 hr1 hc1 hr2 hc2 h).mono ?_
  rintro e w' ⟨rfl, hd⟩
  exact ⟨rfl, hd⟩

end Go.Proofs.Ytejnelflfldfgaa.XA
