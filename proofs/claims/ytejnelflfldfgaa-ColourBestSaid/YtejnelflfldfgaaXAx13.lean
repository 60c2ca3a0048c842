-- written by xprint.py, this project's own program (wip/), over the words of print.sh
import Derived.Test.YtejnelflfldfgaaXAx0
import Derived.Test.YtejnelflfldfgaaXAx3
import Derived.Test.YtejnelflfldfgaaXAx4
import Derived.Test.YtejnelflfldfgaaXAx6
namespace Go.Proofs.Ytejnelflfldfgaa.XA
open Go.RowKit Go.Proofs.Ytejnelflfldfgaa.Opens Go.Proofs.YtejnelflfldfgaaW.PrintWords Go.Proofs.YtejnelflfldfgaaW.PrintLast Go.Proofs.YtejnelflfldfgaaW.PrintMore
attribute [local go_sem] max2_int min2_int max_two min_two max_three min_three max_four min_four   -- for this text's walks alone
set_option linter.unusedVariables false
set_option linter.unusedSimpArgs false

/-! ### gangsawlaw35_ColourBest: function 9 -/
mutual
def gangsawlaw35_ColourBest.j0 : Nat → List Int → List Int → Int → Int → Bool → Option (Bool)
  | 0, _, _, _, _, _ => none
  | k + 1, x0, x1, x2, x3, x29 => if x29 = true then (some true) else ((colour_Align.f k x0 x1 x2).bind fun bt394 => (if bt394.2.2 = 0 then ((colour_Offset.f k x0 x1 bt394.1).bind fun bt397 => ((colour_Mismatch.f k x0 x1).bind fun bt399 => ((colour_Offset.f k x0 x1 0).bind fun bt401 => (if bt397.2 = 0 then (if bt397.1 = bt394.2.1 then (if bt394.1 < (wrap64 (-x2)) then (gangsawlaw35_ColourBest.j1 k x0 x1 x2 x3 bt394.2.1 true) else (if bt394.1 > x2 then (gangsawlaw35_ColourBest.j1 k x0 x1 x2 x3 bt394.2.1 true) else (if bt399.2 = 0 then (if bt401.2 = 0 then (if (x0.length : Int) = 0 then (gangsawlaw35_ColourBest.j1 k x0 x1 x2 x3 bt394.2.1 true) else (if bt401.1 = (wrap64 (Int.tdiv (wrap64 (1000 * bt399.1)) (x0.length : Int))) then (gangsawlaw35_ColourBest.j1 k x0 x1 x2 x3 bt394.2.1 (decide (bt394.2.1 > bt401.1))) else (gangsawlaw35_ColourBest.j1 k x0 x1 x2 x3 bt394.2.1 true))) else (gangsawlaw35_ColourBest.j1 k x0 x1 x2 x3 bt394.2.1 true)) else (gangsawlaw35_ColourBest.j1 k x0 x1 x2 x3 bt394.2.1 true)))) else (gangsawlaw35_ColourBest.j1 k x0 x1 x2 x3 bt394.2.1 true)) else (gangsawlaw35_ColourBest.j1 k x0 x1 x2 x3 bt394.2.1 true))))) else (if bt394.1 = 0 then (some (bt394.2.1 == 0)) else (some false))))
def gangsawlaw35_ColourBest.j1 : Nat → List Int → List Int → Int → Int → Int → Bool → Option (Bool)
  | 0, _, _, _, _, _, _ => none
  | k + 1, x0, x1, x2, x3, x10, x109 => if x109 = true then (some false) else (if x3 < (wrap64 (-x2)) then (some true) else (if x3 > x2 then (some true) else ((colour_Offset.f k x0 x1 x3).bind fun bt403 => (if bt403.2 = 0 then (some (decide (x10 ≤ bt403.1))) else (some false)))))
end
def gangsawlaw35_ColourBest.f (k : Nat) (l0 : List Int) (l1 : List Int) (a2 : Int) (a3 : Int) : Option (Bool) := (gangsawlaw35_awake.f k).bind fun t393 => (if t393 = true then (if (l0.length : Int) > 80 then (gangsawlaw35_ColourBest.j0 k l0 l1 a2 a3 true) else (gangsawlaw35_ColourBest.j0 k l0 l1 a2 a3 (decide ((l1.length : Int) > 80)))) else (some false))
theorem gangsawlaw35_ColourBest.mono_l : ∀ k, (∀ y0 y1 y2 y3 y4, LeO (gangsawlaw35_ColourBest.j0 k y0 y1 y2 y3 y4) (gangsawlaw35_ColourBest.j0 (k + 1) y0 y1 y2 y3 y4)) ∧ (∀ y0 y1 y2 y3 y4 y5, LeO (gangsawlaw35_ColourBest.j1 k y0 y1 y2 y3 y4 y5) (gangsawlaw35_ColourBest.j1 (k + 1) y0 y1 y2 y3 y4 y5))
  | 0 => ⟨fun _ _ _ _ _ r h => by simp [gangsawlaw35_ColourBest.j0] at h, fun _ _ _ _ _ _ r h => by simp [gangsawlaw35_ColourBest.j1] at h⟩
  | k + 1 => by
    obtain ⟨ih0, ih1⟩ := gangsawlaw35_ColourBest.mono_l k
    refine ⟨?_, ?_⟩
    · intro y0 y1 y2 y3 y4
      unfold gangsawlaw35_ColourBest.j0
      repeat' first
      | (with_reducible exact ih0 _ _ _ _ _)
      | (with_reducible exact ih1 _ _ _ _ _ _)
      | (with_reducible exact colour_Align.mono _ _ _ _)
      | (with_reducible exact colour_Mismatch.mono _ _ _)
      | (with_reducible exact colour_Offset.mono _ _ _ _)
      | (with_reducible exact gangsawlaw35_awake.mono _)
      | (with_reducible exact LeO.refl _)
      | (with_reducible exact LeO.none _)
      | (with_reducible refine LeO.ite ?_ ?_)
      | (with_reducible refine LeO.bind ?_ (fun _ => ?_))
      | exact ih0 _ _ _ _ _
      | exact ih1 _ _ _ _ _ _
      | exact colour_Align.mono _ _ _ _
      | exact colour_Mismatch.mono _ _ _
      | exact colour_Offset.mono _ _ _ _
      | exact gangsawlaw35_awake.mono _
      | exact LeO.none _
      | refine LeO.ite ?_ ?_
      | refine LeO.bind ?_ (fun _ => ?_)
    · intro y0 y1 y2 y3 y4 y5
      unfold gangsawlaw35_ColourBest.j1
      repeat' first
      | (with_reducible exact ih0 _ _ _ _ _)
      | (with_reducible exact ih1 _ _ _ _ _ _)
      | (with_reducible exact colour_Align.mono _ _ _ _)
      | (with_reducible exact colour_Mismatch.mono _ _ _)
      | (with_reducible exact colour_Offset.mono _ _ _ _)
      | (with_reducible exact gangsawlaw35_awake.mono _)
      | (with_reducible exact LeO.refl _)
      | (with_reducible exact LeO.none _)
      | (with_reducible refine LeO.ite ?_ ?_)
      | (with_reducible refine LeO.bind ?_ (fun _ => ?_))
      | exact ih0 _ _ _ _ _
      | exact ih1 _ _ _ _ _ _
      | exact colour_Align.mono _ _ _ _
      | exact colour_Mismatch.mono _ _ _
      | exact colour_Offset.mono _ _ _ _
      | exact gangsawlaw35_awake.mono _
      | exact LeO.none _
      | refine LeO.ite ?_ ?_
      | refine LeO.bind ?_ (fun _ => ?_)
theorem gangsawlaw35_ColourBest.mono : ∀ a0 a1 a2 a3 k, LeO (gangsawlaw35_ColourBest.f k a0 a1 a2 a3) (gangsawlaw35_ColourBest.f (k + 1) a0 a1 a2 a3) := by
  intro a0 a1 a2 a3 k
  obtain ⟨ih0, ih1⟩ := gangsawlaw35_ColourBest.mono_l k
  unfold gangsawlaw35_ColourBest.f
  repeat' first
      | (with_reducible exact ih0 _ _ _ _ _)
      | (with_reducible exact ih1 _ _ _ _ _ _)
      | (with_reducible exact colour_Align.mono _ _ _ _)
      | (with_reducible exact colour_Mismatch.mono _ _ _)
      | (with_reducible exact colour_Offset.mono _ _ _ _)
      | (with_reducible exact gangsawlaw35_awake.mono _)
      | (with_reducible exact LeO.refl _)
      | (with_reducible exact LeO.none _)
      | (with_reducible refine LeO.ite ?_ ?_)
      | (with_reducible refine LeO.bind ?_ (fun _ => ?_))
      | exact ih0 _ _ _ _ _
      | exact ih1 _ _ _ _ _ _
      | exact colour_Align.mono _ _ _ _
      | exact colour_Mismatch.mono _ _ _
      | exact colour_Offset.mono _ _ _ _
      | exact gangsawlaw35_awake.mono _
      | exact LeO.none _
      | refine LeO.ite ?_ ?_
      | refine LeO.bind ?_ (fun _ => ?_)
set_option maxHeartbeats 8000000 in
set_option maxRecDepth 100000 in
theorem gangsawlaw35_ColourBest.calls (k : Nat) (A0 : Option Addr) (c0 : Nat) (l0 : List Int) (A1 : Option Addr) (c1 : Nat) (l1 : List Int) (a2 : Int) (a3 : Int) (r : Bool) (w : World) (hr0 : Kd.C (Kd.int .i64) w A0 l0.length l0) (hc0 : l0.length ≤ c0) (hr1 : Kd.C (Kd.int .i64) w A1 l1.length l1) (hc1 : l1.length ≤ c1) (h : gangsawlaw35_ColourBest.f k l0 l1 a2 a3 = some r) :
    Calls Try.prog 9 #[.slice A0 l0.length c0, .slice A1 l1.length c1, .int .i64 a2, .int .i64 a3] w fun e w' => e = .returned (.bool r) ∧ Below w.heap.size w w' := by
  have HR0 := Aside0.mk hr0
  have HC0 := Aside0.mk hc0
  clear hr0 hc0
  have HR1 := Aside0.mk hr1
  have HC1 := Aside0.mk hc1
  clear hr1 hc1
  have HB := Aside0.mk (Below.refl w.heap.size w)
  have H : ((gangsawlaw35_awake.f k).bind fun t393 => (if t393 = true then (if (l0.length : Int) > 80 then (gangsawlaw35_ColourBest.j0 k l0 l1 a2 a3 true) else (gangsawlaw35_ColourBest.j0 k l0 l1 a2 a3 (decide ((l1.length : Int) > 80)))) else (some false))) = some r := h
  clear h
  replace H := Option.bind_eq_some_iff.mp H
  obtain ⟨t393, A50, H⟩ := H
  replace H : (if t393 = true then (if (l0.length : Int) > 80 then (gangsawlaw35_ColourBest.j0 k l0 l1 a2 a3 true) else (gangsawlaw35_ColourBest.j0 k l0 l1 a2 a3 (decide ((l1.length : Int) > 80)))) else (some false)) = some r := H
  have A5 := Aside0.mk A50
  clear A50
  by_cases c6 : t393 = true
  · subst c6
    have H1 : (if (l0.length : Int) > 80 then (gangsawlaw35_ColourBest.j0 k l0 l1 a2 a3 true) else (gangsawlaw35_ColourBest.j0 k l0 l1 a2 a3 (decide ((l1.length : Int) > 80)))) = some r := by rw [if_pos rfl] at H; exact H
    clear H
    have H := H1
    clear H1
    have HC7 := Aside0.mk H
    clear H
    go_enter Try.func9, Try.ntmps9
    go_upto_region 3 with (first | ((with_reducible refine gate_callee (f := 12) rfl ?_); refine goesL_ (some 20) rfl rfl Try.func12 (by kernel_rfl) rfl #[] rfl (by (try simp only [List.map_toArray, List.map_cons, List.map_nil]); first | done | rfl | (simp only [List.length_drop, List.length_take]; rfl)) ?_; (with_reducible refine (gangsawlaw35_awake.calls k  true _ A5.out).mono ?_); rintro e w8 ⟨rfl, hb⟩; refine ⟨_, rfl, ?_⟩; have n0_ := Aside0.mk (below_step (by repeat (first | (with_reducible first | exact HB.out | apply below_alloc | apply pw_below_drewN | apply below_drew1) | exact HB.out)) hb); clear HB; have HB := n0_; clear n0_; (try clear hb); (try clear hb2); (try clear hk); (try clear hi)))
    (try simp only [Act.put, List.setIfInBounds_toArray, List.set_cons_zero, List.set_cons_succ])
    go_cut [29] (fun v29 wc => ∃ (kq : Nat) (x29_6 : Bool), v29 = .bool x29_6 ∧ Aside0 (gangsawlaw35_ColourBest.j0 kq l0 l1 a2 a3 x29_6 = some r) ∧ Aside0 (kq ≤ k) ∧ Aside0 (Below w.heap.size w wc))
    case first =>
      have H := HC7.out
      clear HC7
      by_cases c9 : (l0.length : Int) > 80
      · rw [if_pos c9] at H
        have c9b0 : decide (80 < (l0.length : Int)) = true := decide_eq_true c9
        have c9b1 : decide (80 < l0.length) = true := decide_eq_true (by omega)
        clear c9
        (first | rw [c9b0] | (simp only [i64_w, i32_w]; rw [c9b0]) | skip)
        have H' := Aside0.mk H
        clear H
        go_wp2
        go_meet
        case rel => exact ⟨_, (true), (by first | rfl | (simp; done) | (simp [*]; done)), H', ⟨by first | omega | exact Nat.le_refl _⟩, ⟨by repeat (first | (with_reducible first | exact HB.out | apply below_alloc | apply pw_below_drewN | apply below_drew1) | exact HB.out)⟩⟩
      · rw [if_neg c9] at H
        have c9b0 : decide (80 < (l0.length : Int)) = false := decide_eq_false c9
        have c9b1 : decide (80 < l0.length) = false := decide_eq_false (by omega)
        clear c9
        (first | rw [c9b0] | (simp only [i64_w, i32_w]; rw [c9b0]) | skip)
        have H' := Aside0.mk H
        clear H
        go_wp2
        go_meet
        case rel => exact ⟨_, (decide ((l1.length : Int) > 80)), (by first | rfl | (simp; done) | (simp [*]; done)), H', ⟨by first | omega | exact Nat.le_refl _⟩, ⟨by repeat (first | (with_reducible first | exact HB.out | apply below_alloc | apply pw_below_drewN | apply below_drew1) | exact HB.out)⟩⟩
    case rest =>
      clear HC7
      try clear c1
      try clear p2
      try clear c6
      try clear c9
      try clear c9b0
      try clear c9b1
      obtain ⟨kq, x29_6, rfl, HA, HJ6, HB⟩ := hcut
      cases kq with
      | zero => exact absurd HA.out (by simp [gangsawlaw35_ColourBest.j0])
      | succ kj6 =>
        have H := HA.out
        clear HA
        simp only [gangsawlaw35_ColourBest.j0] at H
        by_cases c10 : x29_6 = true
        · subst c10
          have H1 : (some true) = some r := by rw [if_pos rfl] at H; exact H
          clear H
          have H := H1
          clear H1
          obtain rfl := Option.some.inj H
          go_wp2
          go_ret
          exact ⟨by first | rfl | (simp [errW_none, errW_some] <;> rfl) | (simp [*, errW_none, errW_some] <;> rfl), by repeat (first | (with_reducible first | exact HB.out | apply below_alloc | apply pw_below_drewN | apply below_drew1) | exact HB.out)⟩
        · replace c10 := Bool.eq_false_iff.mpr c10
          subst c10
          have H1 : ((colour_Align.f kj6 l0 l1 a2).bind fun bt394 => (if bt394.2.2 = 0 then ((colour_Offset.f kj6 l0 l1 bt394.1).bind fun bt397 => ((colour_Mismatch.f kj6 l0 l1).bind fun bt399 => ((colour_Offset.f kj6 l0 l1 0).bind fun bt401 => (if bt397.2 = 0 then (if bt397.1 = bt394.2.1 then (if bt394.1 < (wrap64 (-a2)) then (gangsawlaw35_ColourBest.j1 kj6 l0 l1 a2 a3 bt394.2.1 true) else (if bt394.1 > a2 then (gangsawlaw35_ColourBest.j1 kj6 l0 l1 a2 a3 bt394.2.1 true) else (if bt399.2 = 0 then (if bt401.2 = 0 then (if (l0.length : Int) = 0 then (gangsawlaw35_ColourBest.j1 kj6 l0 l1 a2 a3 bt394.2.1 true) else (if bt401.1 = (wrap64 (Int.tdiv (wrap64 (1000 * bt399.1)) (l0.length : Int))) then (gangsawlaw35_ColourBest.j1 kj6 l0 l1 a2 a3 bt394.2.1 (decide (bt394.2.1 > bt401.1))) else (gangsawlaw35_ColourBest.j1 kj6 l0 l1 a2 a3 bt394.2.1 true))) else (gangsawlaw35_ColourBest.j1 kj6 l0 l1 a2 a3 bt394.2.1 true)) else (gangsawlaw35_ColourBest.j1 kj6 l0 l1 a2 a3 bt394.2.1 true)))) else (gangsawlaw35_ColourBest.j1 kj6 l0 l1 a2 a3 bt394.2.1 true)) else (gangsawlaw35_ColourBest.j1 kj6 l0 l1 a2 a3 bt394.2.1 true))))) else (if bt394.1 = 0 then (some (bt394.2.1 == 0)) else (some false)))) = some r := by rw [if_neg (show ¬ (false = true) by decide)] at H; exact H
          clear H
          have H := H1
          clear H1
          replace H := Option.bind_eq_some_iff.mp H
          obtain ⟨⟨t394, t395, t396⟩, A110, H⟩ := H
          replace H : (if t396 = 0 then ((colour_Offset.f kj6 l0 l1 t394).bind fun bt397 => ((colour_Mismatch.f kj6 l0 l1).bind fun bt399 => ((colour_Offset.f kj6 l0 l1 0).bind fun bt401 => (if bt397.2 = 0 then (if bt397.1 = t395 then (if t394 < (wrap64 (-a2)) then (gangsawlaw35_ColourBest.j1 kj6 l0 l1 a2 a3 t395 true) else (if t394 > a2 then (gangsawlaw35_ColourBest.j1 kj6 l0 l1 a2 a3 t395 true) else (if bt399.2 = 0 then (if bt401.2 = 0 then (if (l0.length : Int) = 0 then (gangsawlaw35_ColourBest.j1 kj6 l0 l1 a2 a3 t395 true) else (if bt401.1 = (wrap64 (Int.tdiv (wrap64 (1000 * bt399.1)) (l0.length : Int))) then (gangsawlaw35_ColourBest.j1 kj6 l0 l1 a2 a3 t395 (decide (t395 > bt401.1))) else (gangsawlaw35_ColourBest.j1 kj6 l0 l1 a2 a3 t395 true))) else (gangsawlaw35_ColourBest.j1 kj6 l0 l1 a2 a3 t395 true)) else (gangsawlaw35_ColourBest.j1 kj6 l0 l1 a2 a3 t395 true)))) else (gangsawlaw35_ColourBest.j1 kj6 l0 l1 a2 a3 t395 true)) else (gangsawlaw35_ColourBest.j1 kj6 l0 l1 a2 a3 t395 true))))) else (if t394 = 0 then (some (t395 == 0)) else (some false))) = some r := H
          have A11 := Aside0.mk A110
          clear A110
          by_cases c12 : t396 = 0
          · rw [if_pos c12] at H
            have c12b0 : (t396 == 0) = true := beq_iff_eq.mpr c12
            have c12b1 : (t396 != 0) = false := bne_eq_false_iff_eq.mpr c12
            clear c12
            replace H := Option.bind_eq_some_iff.mp H
            obtain ⟨⟨t397, t398⟩, A130, H⟩ := H
            replace H : ((colour_Mismatch.f kj6 l0 l1).bind fun bt399 => ((colour_Offset.f kj6 l0 l1 0).bind fun bt401 => (if t398 = 0 then (if t397 = t395 then (if t394 < (wrap64 (-a2)) then (gangsawlaw35_ColourBest.j1 kj6 l0 l1 a2 a3 t395 true) else (if t394 > a2 then (gangsawlaw35_ColourBest.j1 kj6 l0 l1 a2 a3 t395 true) else (if bt399.2 = 0 then (if bt401.2 = 0 then (if (l0.length : Int) = 0 then (gangsawlaw35_ColourBest.j1 kj6 l0 l1 a2 a3 t395 true) else (if bt401.1 = (wrap64 (Int.tdiv (wrap64 (1000 * bt399.1)) (l0.length : Int))) then (gangsawlaw35_ColourBest.j1 kj6 l0 l1 a2 a3 t395 (decide (t395 > bt401.1))) else (gangsawlaw35_ColourBest.j1 kj6 l0 l1 a2 a3 t395 true))) else (gangsawlaw35_ColourBest.j1 kj6 l0 l1 a2 a3 t395 true)) else (gangsawlaw35_ColourBest.j1 kj6 l0 l1 a2 a3 t395 true)))) else (gangsawlaw35_ColourBest.j1 kj6 l0 l1 a2 a3 t395 true)) else (gangsawlaw35_ColourBest.j1 kj6 l0 l1 a2 a3 t395 true)))) = some r := H
            have A13 := Aside0.mk A130
            clear A130
            replace H := Option.bind_eq_some_iff.mp H
            obtain ⟨⟨t399, t400⟩, A140, H⟩ := H
            replace H : ((colour_Offset.f kj6 l0 l1 0).bind fun bt401 => (if t398 = 0 then (if t397 = t395 then (if t394 < (wrap64 (-a2)) then (gangsawlaw35_ColourBest.j1 kj6 l0 l1 a2 a3 t395 true) else (if t394 > a2 then (gangsawlaw35_ColourBest.j1 kj6 l0 l1 a2 a3 t395 true) else (if t400 = 0 then (if bt401.2 = 0 then (if (l0.length : Int) = 0 then (gangsawlaw35_ColourBest.j1 kj6 l0 l1 a2 a3 t395 true) else (if bt401.1 = (wrap64 (Int.tdiv (wrap64 (1000 * t399)) (l0.length : Int))) then (gangsawlaw35_ColourBest.j1 kj6 l0 l1 a2 a3 t395 (decide (t395 > bt401.1))) else (gangsawlaw35_ColourBest.j1 kj6 l0 l1 a2 a3 t395 true))) else (gangsawlaw35_ColourBest.j1 kj6 l0 l1 a2 a3 t395 true)) else (gangsawlaw35_ColourBest.j1 kj6 l0 l1 a2 a3 t395 true)))) else (gangsawlaw35_ColourBest.j1 kj6 l0 l1 a2 a3 t395 true)) else (gangsawlaw35_ColourBest.j1 kj6 l0 l1 a2 a3 t395 true))) = some r := H
            have A14 := Aside0.mk A140
            clear A140
            replace H := Option.bind_eq_some_iff.mp H
            obtain ⟨⟨t401, t402⟩, A150, H⟩ := H
            replace H : (if t398 = 0 then (if t397 = t395 then (if t394 < (wrap64 (-a2)) then (gangsawlaw35_ColourBest.j1 kj6 l0 l1 a2 a3 t395 true) else (if t394 > a2 then (gangsawlaw35_ColourBest.j1 kj6 l0 l1 a2 a3 t395 true) else (if t400 = 0 then (if t402 = 0 then (if (l0.length : Int) = 0 then (gangsawlaw35_ColourBest.j1 kj6 l0 l1 a2 a3 t395 true) else (if t401 = (wrap64 (Int.tdiv (wrap64 (1000 * t399)) (l0.length : Int))) then (gangsawlaw35_ColourBest.j1 kj6 l0 l1 a2 a3 t395 (decide (t395 > t401))) else (gangsawlaw35_ColourBest.j1 kj6 l0 l1 a2 a3 t395 true))) else (gangsawlaw35_ColourBest.j1 kj6 l0 l1 a2 a3 t395 true)) else (gangsawlaw35_ColourBest.j1 kj6 l0 l1 a2 a3 t395 true)))) else (gangsawlaw35_ColourBest.j1 kj6 l0 l1 a2 a3 t395 true)) else (gangsawlaw35_ColourBest.j1 kj6 l0 l1 a2 a3 t395 true)) = some r := H
            have A15 := Aside0.mk A150
            clear A150
            have HC16 := Aside0.mk H
            clear H
            go_upto_region 11 with (first | ((with_reducible refine gate_callee (f := 25) rfl ?_); refine goesL_ (some 34) rfl rfl Try.func25 (by kernel_rfl) rfl #[.slice A0 l0.length c0, .slice A1 l1.length c1, .int .i64 a2] rfl (by (try simp only [List.map_toArray, List.map_cons, List.map_nil]); first | done | rfl | (simp only [List.length_drop, List.length_take]; rfl)) ?_; (with_reducible refine (colour_Align.calls kj6 _ _ l0 _ _ l1 a2 t394 t395 t396 _ ?side1 ?side2 ?side3 ?side4 A11.out).mono ?_); (case side1 => repeat (first | exact (Kd.C_below HR0.out HB.out) | (with_reducible refine Kd.C_alloc ?_ _) | (with_reducible refine Kd.C_drewN ?_ _) | (with_reducible refine Kd.C_drew ?_))); (case side2 => exact HC0.out); (case side3 => repeat (first | exact (Kd.C_below HR1.out HB.out) | (with_reducible refine Kd.C_alloc ?_ _) | (with_reducible refine Kd.C_drewN ?_ _) | (with_reducible refine Kd.C_drew ?_))); (case side4 => exact HC1.out); rintro e w17 ⟨rfl, hb⟩; refine ⟨_, rfl, ?_⟩; have n0_ := Aside0.mk (below_step (by repeat (first | (with_reducible first | exact HB.out | apply below_alloc | apply pw_below_drewN | apply below_drew1) | exact HB.out)) hb); clear HB; have HB := n0_; clear n0_; (try clear hb); (try clear hb2); (try clear hk); (try clear hi)) | ((with_reducible refine gate_callee (f := 21) rfl ?_); refine goesL_ (some 50) rfl rfl Try.func21 (by kernel_rfl) rfl #[.slice A0 l0.length c0, .slice A1 l1.length c1, .int .i64 t394] rfl (by (try simp only [List.map_toArray, List.map_cons, List.map_nil]); first | done | rfl | (simp only [List.length_drop, List.length_take]; rfl)) ?_; (with_reducible refine (colour_Offset.calls kj6 _ _ l0 _ _ l1 t394 t397 t398 _ ?side1 ?side2 ?side3 ?side4 A13.out).mono ?_); (case side1 => repeat (first | exact (Kd.C_below HR0.out HB.out) | (with_reducible refine Kd.C_alloc ?_ _) | (with_reducible refine Kd.C_drewN ?_ _) | (with_reducible refine Kd.C_drew ?_))); (case side2 => exact HC0.out); (case side3 => repeat (first | exact (Kd.C_below HR1.out HB.out) | (with_reducible refine Kd.C_alloc ?_ _) | (with_reducible refine Kd.C_drewN ?_ _) | (with_reducible refine Kd.C_drew ?_))); (case side4 => exact HC1.out); rintro e w18 ⟨rfl, hb⟩; refine ⟨_, rfl, ?_⟩; have n0_ := Aside0.mk (below_step (by repeat (first | (with_reducible first | exact HB.out | apply below_alloc | apply pw_below_drewN | apply below_drew1) | exact HB.out)) hb); clear HB; have HB := n0_; clear n0_; (try clear hb); (try clear hb2); (try clear hk); (try clear hi)) | ((with_reducible refine gate_callee (f := 20) rfl ?_); refine goesL_ (some 56) rfl rfl Try.func20 (by kernel_rfl) rfl #[.slice A0 l0.length c0, .slice A1 l1.length c1] rfl (by (try simp only [List.map_toArray, List.map_cons, List.map_nil]); first | done | rfl | (simp only [List.length_drop, List.length_take]; rfl)) ?_; (with_reducible refine (colour_Mismatch.calls kj6 _ _ l0 _ _ l1 t399 t400 _ ?side1 ?side2 ?side3 ?side4 A14.out).mono ?_); (case side1 => repeat (first | exact (Kd.C_below HR0.out HB.out) | (with_reducible refine Kd.C_alloc ?_ _) | (with_reducible refine Kd.C_drewN ?_ _) | (with_reducible refine Kd.C_drew ?_))); (case side2 => exact HC0.out); (case side3 => repeat (first | exact (Kd.C_below HR1.out HB.out) | (with_reducible refine Kd.C_alloc ?_ _) | (with_reducible refine Kd.C_drewN ?_ _) | (with_reducible refine Kd.C_drew ?_))); (case side4 => exact HC1.out); rintro e w19 ⟨rfl, hb⟩; refine ⟨_, rfl, ?_⟩; have n0_ := Aside0.mk (below_step (by repeat (first | (with_reducible first | exact HB.out | apply below_alloc | apply pw_below_drewN | apply below_drew1) | exact HB.out)) hb); clear HB; have HB := n0_; clear n0_; (try clear hb); (try clear hb2); (try clear hk); (try clear hi)) | ((with_reducible refine gate_callee (f := 21) rfl ?_); refine goesL_ (some 62) rfl rfl Try.func21 (by kernel_rfl) rfl #[.slice A0 l0.length c0, .slice A1 l1.length c1, .int .i64 0] rfl (by (try simp only [List.map_toArray, List.map_cons, List.map_nil]); first | done | rfl | (simp only [List.length_drop, List.length_take]; rfl)) ?_; (with_reducible refine (colour_Offset.calls kj6 _ _ l0 _ _ l1 0 t401 t402 _ ?side1 ?side2 ?side3 ?side4 A15.out).mono ?_); (case side1 => repeat (first | exact (Kd.C_below HR0.out HB.out) | (with_reducible refine Kd.C_alloc ?_ _) | (with_reducible refine Kd.C_drewN ?_ _) | (with_reducible refine Kd.C_drew ?_))); (case side2 => exact HC0.out); (case side3 => repeat (first | exact (Kd.C_below HR1.out HB.out) | (with_reducible refine Kd.C_alloc ?_ _) | (with_reducible refine Kd.C_drewN ?_ _) | (with_reducible refine Kd.C_drew ?_))); (case side4 => exact HC1.out); rintro e w20 ⟨rfl, hb⟩; refine ⟨_, rfl, ?_⟩; have n0_ := Aside0.mk (below_step (by repeat (first | (with_reducible first | exact HB.out | apply below_alloc | apply pw_below_drewN | apply below_drew1) | exact HB.out)) hb); clear HB; have HB := n0_; clear n0_; (try clear hb); (try clear hb2); (try clear hk); (try clear hi)))
            (try simp only [Act.put, List.setIfInBounds_toArray, List.set_cons_zero, List.set_cons_succ])
            go_cut [109] (fun v109 wc => ∃ (kq : Nat) (x109_15 : Bool), v109 = .bool x109_15 ∧ Aside0 (gangsawlaw35_ColourBest.j1 kq l0 l1 a2 a3 t395 x109_15 = some r) ∧ Aside0 (kq ≤ kj6) ∧ Aside0 (Below w.heap.size w wc))
            case first =>
              have H := HC16.out
              clear HC16
              by_cases c21 : t398 = 0
              · rw [if_pos c21] at H
                have c21b0 : (t398 == 0) = true := beq_iff_eq.mpr c21
                have c21b1 : (t398 != 0) = false := bne_eq_false_iff_eq.mpr c21
                clear c21
                (first | rw [c21b0] | (simp only [i64_w, i32_w]; rw [c21b0]) | skip)
                by_cases c22 : t397 = t395
                · rw [if_pos c22] at H
                  have c22b0 : (t397 == t395) = true := beq_iff_eq.mpr c22
                  have c22b1 : (t397 != t395) = false := bne_eq_false_iff_eq.mpr c22
                  clear c22
                  by_cases c23 : t394 < (wrap64 (-a2))
                  · rw [if_pos c23] at H
                    have c23b0 : decide (t394 < (wrap64 (-a2))) = true := decide_eq_true c23
                    clear c23
                    have H' := Aside0.mk H
                    clear H
                    go_wp2
                    go_meet
                    case rel => exact ⟨_, (true), (by first | rfl | (simp; done) | (simp [*]; done)), H', ⟨by have := HJ6.out; first | omega | exact Nat.le_refl _⟩, ⟨by repeat (first | (with_reducible first | exact HB.out | apply below_alloc | apply pw_below_drewN | apply below_drew1) | exact HB.out)⟩⟩
                  · rw [if_neg c23] at H
                    have c23b0 : decide (t394 < (wrap64 (-a2))) = false := decide_eq_false c23
                    clear c23
                    by_cases c24 : t394 > a2
                    · rw [if_pos c24] at H
                      have c24b0 : decide (a2 < t394) = true := decide_eq_true c24
                      clear c24
                      have H' := Aside0.mk H
                      clear H
                      go_wp2
                      go_meet
                      case rel => exact ⟨_, (true), (by first | rfl | (simp; done) | (simp [*]; done)), H', ⟨by have := HJ6.out; first | omega | exact Nat.le_refl _⟩, ⟨by repeat (first | (with_reducible first | exact HB.out | apply below_alloc | apply pw_below_drewN | apply below_drew1) | exact HB.out)⟩⟩
                    · rw [if_neg c24] at H
                      have c24b0 : decide (a2 < t394) = false := decide_eq_false c24
                      clear c24
                      by_cases c25 : t400 = 0
                      · rw [if_pos c25] at H
                        have c25b0 : (t400 == 0) = true := beq_iff_eq.mpr c25
                        have c25b1 : (t400 != 0) = false := bne_eq_false_iff_eq.mpr c25
                        clear c25
                        by_cases c26 : t402 = 0
                        · rw [if_pos c26] at H
                          have c26b0 : (t402 == 0) = true := beq_iff_eq.mpr c26
                          have c26b1 : (t402 != 0) = false := bne_eq_false_iff_eq.mpr c26
                          clear c26
                          by_cases c27 : (l0.length : Int) = 0
                          · rw [if_pos c27] at H
                            have c27b0 : ((l0.length : Int) == 0) = true := beq_iff_eq.mpr c27
                            have c27b1 : ((l0.length : Int) != 0) = false := bne_eq_false_iff_eq.mpr c27
                            clear c27
                            have H' := Aside0.mk H
                            clear H
                            go_wp2
                            go_meet
                            case rel => exact ⟨_, (true), (by first | rfl | (simp; done) | (simp [*]; done)), H', ⟨by have := HJ6.out; first | omega | exact Nat.le_refl _⟩, ⟨by repeat (first | (with_reducible first | exact HB.out | apply below_alloc | apply pw_below_drewN | apply below_drew1) | exact HB.out)⟩⟩
                          · rw [if_neg c27] at H
                            have c27b0 : ((l0.length : Int) == 0) = false := beq_eq_false_iff_ne.mpr c27
                            have c27b1 : ((l0.length : Int) != 0) = true := bne_iff_ne.mpr c27
                            have c27b2 : ¬ (l0 = []) := fun h_ => c27 (by rw [h_]; rfl)
                            by_cases c28 : t401 = (wrap64 (Int.tdiv (wrap64 (1000 * t399)) (l0.length : Int)))
                            · rw [if_pos c28] at H
                              have c28b0 : (t401 == (wrap64 (Int.tdiv (wrap64 (1000 * t399)) (l0.length : Int)))) = true := beq_iff_eq.mpr c28
                              have c28b1 : (t401 != (wrap64 (Int.tdiv (wrap64 (1000 * t399)) (l0.length : Int)))) = false := bne_eq_false_iff_eq.mpr c28
                              clear c28
                              have H' := Aside0.mk H
                              clear H
                              go_wp2
                              go_meet
                              case rel => exact ⟨_, (decide (t395 > t401)), (by first | rfl | (simp; done) | (simp [*]; done)), H', ⟨by have := HJ6.out; first | omega | exact Nat.le_refl _⟩, ⟨by repeat (first | (with_reducible first | exact HB.out | apply below_alloc | apply pw_below_drewN | apply below_drew1) | exact HB.out)⟩⟩
                            · rw [if_neg c28] at H
                              have c28b0 : (t401 == (wrap64 (Int.tdiv (wrap64 (1000 * t399)) (l0.length : Int)))) = false := beq_eq_false_iff_ne.mpr c28
                              have c28b1 : (t401 != (wrap64 (Int.tdiv (wrap64 (1000 * t399)) (l0.length : Int)))) = true := bne_iff_ne.mpr c28
                              have H' := Aside0.mk H
                              clear H
                              go_wp2
                              go_meet
                              case rel => exact ⟨_, (true), (by first | rfl | (simp; done) | (simp [*]; done)), H', ⟨by have := HJ6.out; first | omega | exact Nat.le_refl _⟩, ⟨by repeat (first | (with_reducible first | exact HB.out | apply below_alloc | apply pw_below_drewN | apply below_drew1) | exact HB.out)⟩⟩
                        · rw [if_neg c26] at H
                          have c26b0 : (t402 == 0) = false := beq_eq_false_iff_ne.mpr c26
                          have c26b1 : (t402 != 0) = true := bne_iff_ne.mpr c26
                          have H' := Aside0.mk H
                          clear H
                          go_wp2
                          go_meet
                          case rel => exact ⟨_, (true), (by first | rfl | (simp; done) | (simp [*]; done)), H', ⟨by have := HJ6.out; first | omega | exact Nat.le_refl _⟩, ⟨by repeat (first | (with_reducible first | exact HB.out | apply below_alloc | apply pw_below_drewN | apply below_drew1) | exact HB.out)⟩⟩
                      · rw [if_neg c25] at H
                        have c25b0 : (t400 == 0) = false := beq_eq_false_iff_ne.mpr c25
                        have c25b1 : (t400 != 0) = true := bne_iff_ne.mpr c25
                        have H' := Aside0.mk H
                        clear H
                        go_wp2
                        go_meet
                        case rel => exact ⟨_, (true), (by first | rfl | (simp; done) | (simp [*]; done)), H', ⟨by have := HJ6.out; first | omega | exact Nat.le_refl _⟩, ⟨by repeat (first | (with_reducible first | exact HB.out | apply below_alloc | apply pw_below_drewN | apply below_drew1) | exact HB.out)⟩⟩
                · rw [if_neg c22] at H
                  have c22b0 : (t397 == t395) = false := beq_eq_false_iff_ne.mpr c22
                  have c22b1 : (t397 != t395) = true := bne_iff_ne.mpr c22
                  have H' := Aside0.mk H
                  clear H
                  go_wp2
                  go_meet
                  case rel => exact ⟨_, (true), (by first | rfl | (simp; done) | (simp [*]; done)), H', ⟨by have := HJ6.out; first | omega | exact Nat.le_refl _⟩, ⟨by repeat (first | (with_reducible first | exact HB.out | apply below_alloc | apply pw_below_drewN | apply below_drew1) | exact HB.out)⟩⟩
              · rw [if_neg c21] at H
                have c21b0 : (t398 == 0) = false := beq_eq_false_iff_ne.mpr c21
                have c21b1 : (t398 != 0) = true := bne_iff_ne.mpr c21
                (first | rw [c21b0] | (simp only [i64_w, i32_w]; rw [c21b0]) | skip)
                have H' := Aside0.mk H
                clear H
                go_wp2
                go_meet
                case rel => exact ⟨_, (true), (by first | rfl | (simp; done) | (simp [*]; done)), H', ⟨by have := HJ6.out; first | omega | exact Nat.le_refl _⟩, ⟨by repeat (first | (with_reducible first | exact HB.out | apply below_alloc | apply pw_below_drewN | apply below_drew1) | exact HB.out)⟩⟩
            case rest =>
              clear HC16
              try clear c1
              try clear c2
              try clear p2
              try clear c6
              try clear p6
              try clear c9
              try clear c9b0
              try clear c9b1
              try clear c10
              try clear c12
              try clear c12b0
              try clear c12b1
              try clear c20
              try clear c21
              try clear c21b0
              try clear c21b1
              try clear c22
              try clear c22b0
              try clear c22b1
              try clear c23
              try clear c23b0
              try clear c24
              try clear c24b0
              try clear c25
              try clear c25b0
              try clear c25b1
              try clear c26
              try clear c26b0
              try clear c26b1
              try clear c27
              try clear c27b0
              try clear c27b1
              try clear c27b2
              try clear c28
              try clear c28b0
              try clear c28b1
              try clear p2
              obtain ⟨kq, x109_15, rfl, HA, HJ15, HB⟩ := hcut
              cases kq with
              | zero => exact absurd HA.out (by simp [gangsawlaw35_ColourBest.j1])
              | succ kj15 =>
                have H := HA.out
                clear HA
                simp only [gangsawlaw35_ColourBest.j1] at H
                by_cases c29 : x109_15 = true
                · subst c29
                  have H1 : (some false) = some r := by rw [if_pos rfl] at H; exact H
                  clear H
                  have H := H1
                  clear H1
                  obtain rfl := Option.some.inj H
                  go_wp2
                  go_ret
                  exact ⟨by first | rfl | (simp [errW_none, errW_some] <;> rfl) | (simp [*, errW_none, errW_some] <;> rfl), by repeat (first | (with_reducible first | exact HB.out | apply below_alloc | apply pw_below_drewN | apply below_drew1) | exact HB.out)⟩
                · replace c29 := Bool.eq_false_iff.mpr c29
                  subst c29
                  have H1 : (if a3 < (wrap64 (-a2)) then (some true) else (if a3 > a2 then (some true) else ((colour_Offset.f kj15 l0 l1 a3).bind fun bt403 => (if bt403.2 = 0 then (some (decide (t395 ≤ bt403.1))) else (some false))))) = some r := by rw [if_neg (show ¬ (false = true) by decide)] at H; exact H
                  clear H
                  have H := H1
                  clear H1
                  by_cases c30 : a3 < (wrap64 (-a2))
                  · rw [if_pos c30] at H
                    have c30b0 : decide (a3 < (wrap64 (-a2))) = true := decide_eq_true c30
                    clear c30
                    obtain rfl := Option.some.inj H
                    go_wp2
                    go_ret
                    exact ⟨by first | rfl | (simp [errW_none, errW_some] <;> rfl) | (simp [*, errW_none, errW_some] <;> rfl), by repeat (first | (with_reducible first | exact HB.out | apply below_alloc | apply pw_below_drewN | apply below_drew1) | exact HB.out)⟩
                  · rw [if_neg c30] at H
                    have c30b0 : decide (a3 < (wrap64 (-a2))) = false := decide_eq_false c30
                    clear c30
                    by_cases c31 : a3 > a2
                    · rw [if_pos c31] at H
                      have c31b0 : decide (a2 < a3) = true := decide_eq_true c31
                      clear c31
                      obtain rfl := Option.some.inj H
                      go_wp2
                      go_ret
                      exact ⟨by first | rfl | (simp [errW_none, errW_some] <;> rfl) | (simp [*, errW_none, errW_some] <;> rfl), by repeat (first | (with_reducible first | exact HB.out | apply below_alloc | apply pw_below_drewN | apply below_drew1) | exact HB.out)⟩
                    · rw [if_neg c31] at H
                      have c31b0 : decide (a2 < a3) = false := decide_eq_false c31
                      clear c31
                      replace H := Option.bind_eq_some_iff.mp H
                      obtain ⟨⟨t403, t404⟩, A320, H⟩ := H
                      replace H : (if t404 = 0 then (some (decide (t395 ≤ t403))) else (some false)) = some r := H
                      have A32 := Aside0.mk A320
                      clear A320
                      by_cases c33 : t404 = 0
                      · rw [if_pos c33] at H
                        have c33b0 : (t404 == 0) = true := beq_iff_eq.mpr c33
                        have c33b1 : (t404 != 0) = false := bne_eq_false_iff_eq.mpr c33
                        clear c33
                        obtain rfl := Option.some.inj H
                        go_wp2_with (first | ((with_reducible refine gate_callee (f := 21) rfl ?_); refine goesL_ (some 123) rfl rfl Try.func21 (by kernel_rfl) rfl #[.slice A0 l0.length c0, .slice A1 l1.length c1, .int .i64 a3] rfl (by (try simp only [List.map_toArray, List.map_cons, List.map_nil]); first | done | rfl | (simp only [List.length_drop, List.length_take]; rfl)) ?_; (with_reducible refine (colour_Offset.calls kj15 _ _ l0 _ _ l1 a3 t403 t404 _ ?side1 ?side2 ?side3 ?side4 A32.out).mono ?_); (case side1 => repeat (first | exact (Kd.C_below HR0.out HB.out) | (with_reducible refine Kd.C_alloc ?_ _) | (with_reducible refine Kd.C_drewN ?_ _) | (with_reducible refine Kd.C_drew ?_))); (case side2 => exact HC0.out); (case side3 => repeat (first | exact (Kd.C_below HR1.out HB.out) | (with_reducible refine Kd.C_alloc ?_ _) | (with_reducible refine Kd.C_drewN ?_ _) | (with_reducible refine Kd.C_drew ?_))); (case side4 => exact HC1.out); rintro e w34 ⟨rfl, hb⟩; refine ⟨_, rfl, ?_⟩; have n0_ := Aside0.mk (below_step (by repeat (first | (with_reducible first | exact HB.out | apply below_alloc | apply pw_below_drewN | apply below_drew1) | exact HB.out)) hb); clear HB; have HB := n0_; clear n0_; (try clear hb); (try clear hb2); (try clear hk); (try clear hi)))
                        go_ret
                        exact ⟨by first | rfl | (simp [errW_none, errW_some] <;> rfl) | (simp [*, errW_none, errW_some] <;> rfl), by repeat (first | (with_reducible first | exact HB.out | apply below_alloc | apply pw_below_drewN | apply below_drew1) | exact HB.out)⟩
                      · rw [if_neg c33] at H
                        have c33b0 : (t404 == 0) = false := beq_eq_false_iff_ne.mpr c33
                        have c33b1 : (t404 != 0) = true := bne_iff_ne.mpr c33
                        obtain rfl := Option.some.inj H
                        go_wp2_with (first | ((with_reducible refine gate_callee (f := 21) rfl ?_); refine goesL_ (some 123) rfl rfl Try.func21 (by kernel_rfl) rfl #[.slice A0 l0.length c0, .slice A1 l1.length c1, .int .i64 a3] rfl (by (try simp only [List.map_toArray, List.map_cons, List.map_nil]); first | done | rfl | (simp only [List.length_drop, List.length_take]; rfl)) ?_; (with_reducible refine (colour_Offset.calls kj15 _ _ l0 _ _ l1 a3 t403 t404 _ ?side1 ?side2 ?side3 ?side4 A32.out).mono ?_); (case side1 => repeat (first | exact (Kd.C_below HR0.out HB.out) | (with_reducible refine Kd.C_alloc ?_ _) | (with_reducible refine Kd.C_drewN ?_ _) | (with_reducible refine Kd.C_drew ?_))); (case side2 => exact HC0.out); (case side3 => repeat (first | exact (Kd.C_below HR1.out HB.out) | (with_reducible refine Kd.C_alloc ?_ _) | (with_reducible refine Kd.C_drewN ?_ _) | (with_reducible refine Kd.C_drew ?_))); (case side4 => exact HC1.out); rintro e w35 ⟨rfl, hb⟩; refine ⟨_, rfl, ?_⟩; have n0_ := Aside0.mk (below_step (by repeat (first | (with_reducible first | exact HB.out | apply below_alloc | apply pw_below_drewN | apply below_drew1) | exact HB.out)) hb); clear HB; have HB := n0_; clear n0_; (try clear hb); (try clear hb2); (try clear hk); (try clear hi)))
                        go_ret
                        exact ⟨by first | rfl | (simp [errW_none, errW_some] <;> rfl) | (simp [*, errW_none, errW_some] <;> rfl), by repeat (first | (with_reducible first | exact HB.out | apply below_alloc | apply pw_below_drewN | apply below_drew1) | exact HB.out)⟩
          · rw [if_neg c12] at H
            have c12b0 : (t396 == 0) = false := beq_eq_false_iff_ne.mpr c12
            have c12b1 : (t396 != 0) = true := bne_iff_ne.mpr c12
            by_cases c36 : t394 = 0
            · rw [if_pos c36] at H
              have c36b0 : (t394 == 0) = true := beq_iff_eq.mpr c36
              have c36b1 : (t394 != 0) = false := bne_eq_false_iff_eq.mpr c36
              clear c36
              obtain rfl := Option.some.inj H
              go_wp2_with (first | ((with_reducible refine gate_callee (f := 25) rfl ?_); refine goesL_ (some 34) rfl rfl Try.func25 (by kernel_rfl) rfl #[.slice A0 l0.length c0, .slice A1 l1.length c1, .int .i64 a2] rfl (by (try simp only [List.map_toArray, List.map_cons, List.map_nil]); first | done | rfl | (simp only [List.length_drop, List.length_take]; rfl)) ?_; (with_reducible refine (colour_Align.calls kj6 _ _ l0 _ _ l1 a2 t394 t395 t396 _ ?side1 ?side2 ?side3 ?side4 A11.out).mono ?_); (case side1 => repeat (first | exact (Kd.C_below HR0.out HB.out) | (with_reducible refine Kd.C_alloc ?_ _) | (with_reducible refine Kd.C_drewN ?_ _) | (with_reducible refine Kd.C_drew ?_))); (case side2 => exact HC0.out); (case side3 => repeat (first | exact (Kd.C_below HR1.out HB.out) | (with_reducible refine Kd.C_alloc ?_ _) | (with_reducible refine Kd.C_drewN ?_ _) | (with_reducible refine Kd.C_drew ?_))); (case side4 => exact HC1.out); rintro e w37 ⟨rfl, hb⟩; refine ⟨_, rfl, ?_⟩; have n0_ := Aside0.mk (below_step (by repeat (first | (with_reducible first | exact HB.out | apply below_alloc | apply pw_below_drewN | apply below_drew1) | exact HB.out)) hb); clear HB; have HB := n0_; clear n0_; (try clear hb); (try clear hb2); (try clear hk); (try clear hi)))
              go_ret
              exact ⟨by first | rfl | (simp [errW_none, errW_some] <;> rfl) | (simp [*, errW_none, errW_some] <;> rfl), by repeat (first | (with_reducible first | exact HB.out | apply below_alloc | apply pw_below_drewN | apply below_drew1) | exact HB.out)⟩
            · rw [if_neg c36] at H
              have c36b0 : (t394 == 0) = false := beq_eq_false_iff_ne.mpr c36
              have c36b1 : (t394 != 0) = true := bne_iff_ne.mpr c36
              obtain rfl := Option.some.inj H
              go_wp2_with (first | ((with_reducible refine gate_callee (f := 25) rfl ?_); refine goesL_ (some 34) rfl rfl Try.func25 (by kernel_rfl) rfl #[.slice A0 l0.length c0, .slice A1 l1.length c1, .int .i64 a2] rfl (by (try simp only [List.map_toArray, List.map_cons, List.map_nil]); first | done | rfl | (simp only [List.length_drop, List.length_take]; rfl)) ?_; (with_reducible refine (colour_Align.calls kj6 _ _ l0 _ _ l1 a2 t394 t395 t396 _ ?side1 ?side2 ?side3 ?side4 A11.out).mono ?_); (case side1 => repeat (first | exact (Kd.C_below HR0.out HB.out) | (with_reducible refine Kd.C_alloc ?_ _) | (with_reducible refine Kd.C_drewN ?_ _) | (with_reducible refine Kd.C_drew ?_))); (case side2 => exact HC0.out); (case side3 => repeat (first | exact (Kd.C_below HR1.out HB.out) | (with_reducible refine Kd.C_alloc ?_ _) | (with_reducible refine Kd.C_drewN ?_ _) | (with_reducible refine Kd.C_drew ?_))); (case side4 => exact HC1.out); rintro e w38 ⟨rfl, hb⟩; refine ⟨_, rfl, ?_⟩; have n0_ := Aside0.mk (below_step (by repeat (first | (with_reducible first | exact HB.out | apply below_alloc | apply pw_below_drewN | apply below_drew1) | exact HB.out)) hb); clear HB; have HB := n0_; clear n0_; (try clear hb); (try clear hb2); (try clear hk); (try clear hi)))
              go_ret
              exact ⟨by first | rfl | (simp [errW_none, errW_some] <;> rfl) | (simp [*, errW_none, errW_some] <;> rfl), by repeat (first | (with_reducible first | exact HB.out | apply below_alloc | apply pw_below_drewN | apply below_drew1) | exact HB.out)⟩
  · replace c6 := Bool.eq_false_iff.mpr c6
    subst c6
    have H1 : (some false) = some r := by rw [if_neg (show ¬ (false = true) by decide)] at H; exact H
    clear H
    have H := H1
    clear H1
    obtain rfl := Option.some.inj H
    go_enter Try.func9, Try.ntmps9
    go_wp2_with (first | ((with_reducible refine gate_callee (f := 12) rfl ?_); refine goesL_ (some 20) rfl rfl Try.func12 (by kernel_rfl) rfl #[] rfl (by (try simp only [List.map_toArray, List.map_cons, List.map_nil]); first | done | rfl | (simp only [List.length_drop, List.length_take]; rfl)) ?_; (with_reducible refine (gangsawlaw35_awake.calls k  false _ A5.out).mono ?_); rintro e w39 ⟨rfl, hb⟩; refine ⟨_, rfl, ?_⟩; have n0_ := Aside0.mk (below_step (by repeat (first | (with_reducible first | exact HB.out | apply below_alloc | apply pw_below_drewN | apply below_drew1) | exact HB.out)) hb); clear HB; have HB := n0_; clear n0_; (try clear hb); (try clear hb2); (try clear hk); (try clear hi)))
    go_ret
    exact ⟨by first | rfl | (simp [errW_none, errW_some] <;> rfl) | (simp [*, errW_none, errW_some] <;> rfl), by repeat (first | (with_reducible first | exact HB.out | apply below_alloc | apply pw_below_drewN | apply below_drew1) | exact HB.out)⟩

/-- THE ONE PURE STATEMENT of gangsawlaw35_ColourBest. -/
def gangsawlaw35_ColourBest.Pure : Prop := ∀ (l0 : List Int) (l1 : List Int) (a2 : Int) (a3 : Int), (gSl (gInt .i64)) l0 → (gSl (gInt .i64)) l1 → (gInt .i64) a2 → (gInt .i64) a3 → ∃ k, gangsawlaw35_ColourBest.f k l0 l1 a2 a3 = some true
theorem gangsawlaw35_ColourBest.walk (P : gangsawlaw35_ColourBest.Pure) (A0 : Option Addr) (c0 : Nat) (l0 : List Int) (A1 : Option Addr) (c1 : Nat) (l1 : List Int) (a2 : Int) (a3 : Int) (w : World) (w0 : (gSl (gInt .i64)) l0) (w1 : (gSl (gInt .i64)) l1) (w2 : (gInt .i64) a2) (w3 : (gInt .i64) a3) (hr0 : Kd.C (Kd.int .i64) w A0 l0.length l0) (hc0 : l0.length ≤ c0) (hr1 : Kd.C (Kd.int .i64) w A1 l1.length l1) (hc1 : l1.length ≤ c1) :
    Calls Try.prog 9 #[.slice A0 l0.length c0, .slice A1 l1.length c1, .int .i64 a2, .int .i64 a3] w fun e w' => e = .returned (.bool true) ∧ Below w.heap.size w w' := by
  obtain ⟨k, h⟩ := P l0 l1 a2 a3 w0 w1 w2 w3
  refine (gangsawlaw35_ColourBest.calls k _ _ l0 _ _ l1 a2 a3 true w hr0 hc0 hr1 hc1 h).mono ?_
  rintro e w' ⟨rfl, hd⟩
  exact ⟨rfl, hd⟩

end Go.Proofs.Ytejnelflfldfgaa.XA
