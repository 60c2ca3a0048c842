-- written by xprint.py, this project's own program (wip/), over the words of print.sh
import Derived.Test.YtejnelflfldfgaaXAx0
import Derived.Test.YtejnelflfldfgaaXAx1
import Derived.Test.YtejnelflfldfgaaXAx5
import Derived.Test.YtejnelflfldfgaaXAx6
import Derived.Test.YtejnelflfldfgaaXAx9
import Derived.Test.YtejnelflfldfgaaXAx10
namespace Go.Proofs.Ytejnelflfldfgaa.XA
open Go.RowKit Go.Proofs.Ytejnelflfldfgaa.Opens Go.Proofs.YtejnelflfldfgaaW.PrintWords Go.Proofs.YtejnelflfldfgaaW.PrintLast Go.Proofs.YtejnelflfldfgaaW.PrintMore
attribute [local go_sem] max2_int min2_int max_two min_two max_three min_three max_four min_four   -- for this text's walks alone
set_option linter.unusedVariables false
set_option linter.unusedSimpArgs false

/-! ### gangsawlaw35_ColourNearest: function 7 -/
mutual
def gangsawlaw35_ColourNearest.j0 : Nat → List Int → Int → List (S47) → Bool → Option (Bool)
  | 0, _, _, _, _ => none
  | k + 1, x0, x1, x2, x26 => if x26 = true then (some true) else (gangsawlaw35_ColourNearest.l0 k x0 x1 x2 0)
def gangsawlaw35_ColourNearest.l0 : Nat → List Int → Int → List (S47) → Int → Option (Bool)
  | 0, _, _, _, _ => none
  | k + 1, x0, x1, x2, x7 => if x7 < (x2.length : Int) then (gangsawlaw35_ColourNearest.j2 k x0 x1 x2 x7 (decide ((x2.length : Int) ≤ 30))) else (gangsawlaw35_ColourNearest.j2 k x0 x1 x2 x7 false)
def gangsawlaw35_ColourNearest.j2 : Nat → List Int → Int → List (S47) → Int → Bool → Option (Bool)
  | 0, _, _, _, _, _ => none
  | k + 1, x0, x1, x2, x7, x35 => if x35 = true then (if 0 ≤ x7 then (if x7 < (x2.length : Int) then ((gangsawref35_Short.f ((rd_T47 x2 x7).f0) ((rd_T47 x2 x7).f1) ((rd_T47 x2 x7).f2) ((rd_T47 x2 x7).f3.f0.f0) ((rd_T47 x2 x7).f3.f0.f1) ((rd_T47 x2 x7).f3.f0.f2) ((rd_T47 x2 x7).f3.f1.f0) ((rd_T47 x2 x7).f3.f1.f1) ((rd_T47 x2 x7).f3.f1.f2) ((rd_T47 x2 x7).f4) ((rd_T47 x2 x7).f5) ((rd_T47 x2 x7).f6)).bind fun t363 => (if t363 = true then (gangsawlaw35_ColourNearest.l0 k x0 x1 x2 (wrap64 (x7 + 1))) else (some true))) else (none)) else (none)) else ((colour_Nearest.f k x0 x1 x2).bind fun bt364 => ((gangsawref35_Nearest.f k x0 x1 x2).bind fun bt366 => (if bt364.1 = bt366.1 then (some (bt364.2 == bt366.2)) else (some false))))
end
def gangsawlaw35_ColourNearest.f (k : Nat) (l0 : List Int) (a1 : Int) (l2 : List (S47)) : Option (Bool) := (gangsawlaw35_awake.f k).bind fun t361 => (if t361 = true then (if (l0.length : Int) > 80 then (gangsawlaw35_ColourNearest.j0 k l0 a1 l2 true) else (if (l2.length : Int) > 30 then (gangsawlaw35_ColourNearest.j0 k l0 a1 l2 (decide ((l2.length : Int) ≤ 256))) else (gangsawlaw35_ColourNearest.j0 k l0 a1 l2 false))) else (some false))
theorem gangsawlaw35_ColourNearest.mono_l : ∀ k, (∀ y0 y1 y2 y3, LeO (gangsawlaw35_ColourNearest.j0 k y0 y1 y2 y3) (gangsawlaw35_ColourNearest.j0 (k + 1) y0 y1 y2 y3)) ∧ (∀ y0 y1 y2 y3, LeO (gangsawlaw35_ColourNearest.l0 k y0 y1 y2 y3) (gangsawlaw35_ColourNearest.l0 (k + 1) y0 y1 y2 y3)) ∧ (∀ y0 y1 y2 y3 y4, LeO (gangsawlaw35_ColourNearest.j2 k y0 y1 y2 y3 y4) (gangsawlaw35_ColourNearest.j2 (k + 1) y0 y1 y2 y3 y4))
  | 0 => ⟨fun _ _ _ _ r h => by simp [gangsawlaw35_ColourNearest.j0] at h, fun _ _ _ _ r h => by simp [gangsawlaw35_ColourNearest.l0] at h, fun _ _ _ _ _ r h => by simp [gangsawlaw35_ColourNearest.j2] at h⟩
  | k + 1 => by
    obtain ⟨ih0, ih1, ih2⟩ := gangsawlaw35_ColourNearest.mono_l k
    refine ⟨?_, ?_, ?_⟩
    · intro y0 y1 y2 y3
      unfold gangsawlaw35_ColourNearest.j0
      repeat' first
      | (with_reducible exact ih0 _ _ _ _)
      | (with_reducible exact ih1 _ _ _ _)
      | (with_reducible exact ih2 _ _ _ _ _)
      | (with_reducible exact colour_Nearest.mono _ _ _ _)
      | (with_reducible exact gangsawlaw35_awake.mono _)
      | (with_reducible exact gangsawref35_Nearest.mono _ _ _ _)
      | (with_reducible exact LeO.refl _)
      | (with_reducible exact LeO.none _)
      | (with_reducible refine LeO.ite ?_ ?_)
      | (with_reducible refine LeO.bind ?_ (fun _ => ?_))
      | exact ih0 _ _ _ _
      | exact ih1 _ _ _ _
      | exact ih2 _ _ _ _ _
      | exact colour_Nearest.mono _ _ _ _
      | exact gangsawlaw35_awake.mono _
      | exact gangsawref35_Nearest.mono _ _ _ _
      | exact LeO.none _
      | refine LeO.ite ?_ ?_
      | refine LeO.bind ?_ (fun _ => ?_)
    · intro y0 y1 y2 y3
      unfold gangsawlaw35_ColourNearest.l0
      repeat' first
      | (with_reducible exact ih0 _ _ _ _)
      | (with_reducible exact ih1 _ _ _ _)
      | (with_reducible exact ih2 _ _ _ _ _)
      | (with_reducible exact colour_Nearest.mono _ _ _ _)
      | (with_reducible exact gangsawlaw35_awake.mono _)
      | (with_reducible exact gangsawref35_Nearest.mono _ _ _ _)
      | (with_reducible exact LeO.refl _)
      | (with_reducible exact LeO.none _)
      | (with_reducible refine LeO.ite ?_ ?_)
      | (with_reducible refine LeO.bind ?_ (fun _ => ?_))
      | exact ih0 _ _ _ _
      | exact ih1 _ _ _ _
      | exact ih2 _ _ _ _ _
      | exact colour_Nearest.mono _ _ _ _
      | exact gangsawlaw35_awake.mono _
      | exact gangsawref35_Nearest.mono _ _ _ _
      | exact LeO.none _
      | refine LeO.ite ?_ ?_
      | refine LeO.bind ?_ (fun _ => ?_)
    · intro y0 y1 y2 y3 y4
      unfold gangsawlaw35_ColourNearest.j2
      repeat' first
      | (with_reducible exact ih0 _ _ _ _)
      | (with_reducible exact ih1 _ _ _ _)
      | (with_reducible exact ih2 _ _ _ _ _)
      | (with_reducible exact colour_Nearest.mono _ _ _ _)
      | (with_reducible exact gangsawlaw35_awake.mono _)
      | (with_reducible exact gangsawref35_Nearest.mono _ _ _ _)
      | (with_reducible exact LeO.refl _)
      | (with_reducible exact LeO.none _)
      | (with_reducible refine LeO.ite ?_ ?_)
      | (with_reducible refine LeO.bind ?_ (fun _ => ?_))
      | exact ih0 _ _ _ _
      | exact ih1 _ _ _ _
      | exact ih2 _ _ _ _ _
      | exact colour_Nearest.mono _ _ _ _
      | exact gangsawlaw35_awake.mono _
      | exact gangsawref35_Nearest.mono _ _ _ _
      | exact LeO.none _
      | refine LeO.ite ?_ ?_
      | refine LeO.bind ?_ (fun _ => ?_)
theorem gangsawlaw35_ColourNearest.mono : ∀ a0 a1 a2 k, LeO (gangsawlaw35_ColourNearest.f k a0 a1 a2) (gangsawlaw35_ColourNearest.f (k + 1) a0 a1 a2) := by
  intro a0 a1 a2 k
  obtain ⟨ih0, ih1, ih2⟩ := gangsawlaw35_ColourNearest.mono_l k
  unfold gangsawlaw35_ColourNearest.f
  repeat' first
      | (with_reducible exact ih0 _ _ _ _)
      | (with_reducible exact ih1 _ _ _ _)
      | (with_reducible exact ih2 _ _ _ _ _)
      | (with_reducible exact colour_Nearest.mono _ _ _ _)
      | (with_reducible exact gangsawlaw35_awake.mono _)
      | (with_reducible exact gangsawref35_Nearest.mono _ _ _ _)
      | (with_reducible exact LeO.refl _)
      | (with_reducible exact LeO.none _)
      | (with_reducible refine LeO.ite ?_ ?_)
      | (with_reducible refine LeO.bind ?_ (fun _ => ?_))
      | exact ih0 _ _ _ _
      | exact ih1 _ _ _ _
      | exact ih2 _ _ _ _ _
      | exact colour_Nearest.mono _ _ _ _
      | exact gangsawlaw35_awake.mono _
      | exact gangsawref35_Nearest.mono _ _ _ _
      | exact LeO.none _
      | refine LeO.ite ?_ ?_
      | refine LeO.bind ?_ (fun _ => ?_)
set_option maxHeartbeats 8000000 in
set_option maxRecDepth 100000 in
theorem gangsawlaw35_ColourNearest.calls (k : Nat) (A0 : Option Addr) (c0 : Nat) (l0 : List Int) (a1 : Int) (A2 : Option Addr) (c2 : Nat) (l2 : List (S47)) (r : Bool) (w : World) (hr0 : Kd.C (Kd.int .i64) w A0 l0.length l0) (hc0 : l0.length ≤ c0) (hr2 : Kd.C k47 w A2 l2.length l2) (hc2 : l2.length ≤ c2) (h : gangsawlaw35_ColourNearest.f k l0 a1 l2 = some r) :
    Calls Try.prog 7 #[.slice A0 l0.length c0, .int .i64 a1, .slice A2 l2.length c2] w fun e w' => e = .returned (.bool r) ∧ Below w.heap.size w w' := by
  have hu47 := Try.underlying47
  have HR0 := Aside0.mk hr0
  have HC0 := Aside0.mk hc0
  clear hr0 hc0
  have HR2 := Aside0.mk hr2
  have HC2 := Aside0.mk hc2
  clear hr2 hc2
  have HB := Aside0.mk (Below.refl w.heap.size w)
  have H : ((gangsawlaw35_awake.f k).bind fun t361 => (if t361 = true then (if (l0.length : Int) > 80 then (gangsawlaw35_ColourNearest.j0 k l0 a1 l2 true) else (if (l2.length : Int) > 30 then (gangsawlaw35_ColourNearest.j0 k l0 a1 l2 (decide ((l2.length : Int) ≤ 256))) else (gangsawlaw35_ColourNearest.j0 k l0 a1 l2 false))) else (some false))) = some r := h
  clear h
  replace H := Option.bind_eq_some_iff.mp H
  obtain ⟨t361, A40, H⟩ := H
  replace H : (if t361 = true then (if (l0.length : Int) > 80 then (gangsawlaw35_ColourNearest.j0 k l0 a1 l2 true) else (if (l2.length : Int) > 30 then (gangsawlaw35_ColourNearest.j0 k l0 a1 l2 (decide ((l2.length : Int) ≤ 256))) else (gangsawlaw35_ColourNearest.j0 k l0 a1 l2 false))) else (some false)) = some r := H
  have A4 := Aside0.mk A40
  clear A40
  by_cases c5 : t361 = true
  · subst c5
    have H1 : (if (l0.length : Int) > 80 then (gangsawlaw35_ColourNearest.j0 k l0 a1 l2 true) else (if (l2.length : Int) > 30 then (gangsawlaw35_ColourNearest.j0 k l0 a1 l2 (decide ((l2.length : Int) ≤ 256))) else (gangsawlaw35_ColourNearest.j0 k l0 a1 l2 false))) = some r := by rw [if_pos rfl] at H; exact H
    clear H
    have H := H1
    clear H1
    have HC6 := Aside0.mk H
    clear H
    go_enter Try.func7, Try.ntmps7
    go_upto_region 3 with (first | ((with_reducible refine gate_callee (f := 12) rfl ?_); refine goesL_ (some 12) rfl rfl Try.func12 (by kernel_rfl) rfl #[] rfl (by (try simp only [List.map_toArray, List.map_cons, List.map_nil]); first | done | rfl | (simp only [List.length_drop, List.length_take]; rfl)) ?_; (with_reducible refine (gangsawlaw35_awake.calls k  true _ A4.out).mono ?_); rintro e w7 ⟨rfl, hb⟩; refine ⟨_, rfl, ?_⟩; have n0_ := Aside0.mk (below_step (by repeat (first | (with_reducible first | exact HB.out | apply below_alloc | apply pw_below_drewN | apply below_drew1) | exact HB.out)) hb); clear HB; have HB := n0_; clear n0_; (try clear hb); (try clear hb2); (try clear hk); (try clear hi)))
    (try simp only [Act.put, List.setIfInBounds_toArray, List.set_cons_zero, List.set_cons_succ])
    go_cut [26] (fun v26 wc => ∃ (kq : Nat) (x26_5 : Bool), v26 = .bool x26_5 ∧ Aside0 (gangsawlaw35_ColourNearest.j0 kq l0 a1 l2 x26_5 = some r) ∧ Aside0 (kq ≤ k) ∧ Aside0 (Below w.heap.size w wc))
    case first =>
      have H := HC6.out
      clear HC6
      by_cases c8 : (l0.length : Int) > 80
      · rw [if_pos c8] at H
        have c8b0 : decide (80 < (l0.length : Int)) = true := decide_eq_true c8
        have c8b1 : decide (80 < l0.length) = true := decide_eq_true (by omega)
        clear c8
        (first | rw [c8b0] | (simp only [i64_w, i32_w]; rw [c8b0]) | skip)
        have H' := Aside0.mk H
        clear H
        go_wp2
        go_meet
        case rel => exact ⟨_, (true), (by first | rfl | (simp; done) | (simp [*]; done)), H', ⟨by first | omega | exact Nat.le_refl _⟩, ⟨by repeat (first | (with_reducible first | exact HB.out | apply below_alloc | apply pw_below_drewN | apply below_drew1) | exact HB.out)⟩⟩
      · rw [if_neg c8] at H
        have c8b0 : decide (80 < (l0.length : Int)) = false := decide_eq_false c8
        have c8b1 : decide (80 < l0.length) = false := decide_eq_false (by omega)
        clear c8
        (first | rw [c8b0] | (simp only [i64_w, i32_w]; rw [c8b0]) | skip)
        by_cases c9 : (l2.length : Int) > 30
        · rw [if_pos c9] at H
          have c9b0 : decide (30 < (l2.length : Int)) = true := decide_eq_true c9
          have c9b1 : decide (30 < l2.length) = true := decide_eq_true (by omega)
          clear c9
          have H' := Aside0.mk H
          clear H
          go_wp2
          go_meet
          case rel => exact ⟨_, (decide ((l2.length : Int) ≤ 256)), (by first | rfl | (simp; done) | (simp [*]; done)), H', ⟨by first | omega | exact Nat.le_refl _⟩, ⟨by repeat (first | (with_reducible first | exact HB.out | apply below_alloc | apply pw_below_drewN | apply below_drew1) | exact HB.out)⟩⟩
        · rw [if_neg c9] at H
          have c9b0 : decide (30 < (l2.length : Int)) = false := decide_eq_false c9
          have c9b1 : decide (30 < l2.length) = false := decide_eq_false (by omega)
          clear c9
          have H' := Aside0.mk H
          clear H
          go_wp2
          go_meet
          case rel => exact ⟨_, (false), (by first | rfl | (simp; done) | (simp [*]; done)), H', ⟨by first | omega | exact Nat.le_refl _⟩, ⟨by repeat (first | (with_reducible first | exact HB.out | apply below_alloc | apply pw_below_drewN | apply below_drew1) | exact HB.out)⟩⟩
    case rest =>
      clear HC6
      try clear c1
      try clear c2
      try clear p2
      try clear c5
      try clear c7
      try clear c8
      try clear c8b0
      try clear c8b1
      try clear c9
      try clear c9b0
      try clear c9b1
      obtain ⟨kq, x26_5, rfl, HA, HJ5, HB⟩ := hcut
      cases kq with
      | zero => exact absurd HA.out (by simp [gangsawlaw35_ColourNearest.j0])
      | succ kj5 =>
        have H := HA.out
        clear HA
        simp only [gangsawlaw35_ColourNearest.j0] at H
        by_cases c10 : x26_5 = true
        · subst c10
          have H1 : (some true) = some r := by rw [if_pos rfl] at H; exact H
          clear H
          have H := H1
          clear H1
          obtain rfl := Option.some.inj H
          go_wp2
          go_ret
          exact ⟨by first | rfl | (simp [errW_none, errW_some] <;> rfl) | (simp [*, errW_none, errW_some] <;> rfl), by repeat (first | (with_reducible first | exact HB.out | apply below_alloc | apply pw_below_drewN | apply below_drew1) | exact HB.out)⟩
        · replace c10 := Bool.eq_false_iff.mpr c10
          subst c10
          have H1 : (gangsawlaw35_ColourNearest.l0 kj5 l0 a1 l2 0) = some r := by rw [if_neg (show ¬ (false = true) by decide)] at H; exact H
          clear H
          have H := H1
          clear H1
          have H' := Aside0.mk H
          clear H
          go_wp2
          go_loopg [7] kj5 (fun kq v7 w' => ∃ (x7_2 : Int), v7 = .int .i64 x7_2 ∧ Aside0 (gangsawlaw35_ColourNearest.l0 kq l0 a1 l2 x7_2 = some r) ∧ Aside0 (kq ≤ kj5) ∧ Aside0 (Below w.heap.size w w'))
          case atStart => exact ⟨(0), (by first | rfl | (simp; done) | (simp [*]; done)), H', ⟨Nat.le_refl _⟩, ⟨by repeat (first | (with_reducible first | exact HB.out | apply below_alloc | apply pw_below_drewN | apply below_drew1) | exact HB.out)⟩⟩
          case round =>
            clear H'
            try clear c1
            try clear c2
            try clear p2
            try clear c5
            try clear c7
            try clear c8
            try clear c8b0
            try clear c8b1
            try clear c9
            try clear c9b0
            try clear c9b1
            try clear c10
            try clear p2
            obtain ⟨x7_2, rfl, HA, HK2, HB⟩ := hrel
            cases gk with
            | zero => exact absurd HA.out (by simp [gangsawlaw35_ColourNearest.l0])
            | succ k2 =>
              have H := HA.out
              clear HA
              simp only [gangsawlaw35_ColourNearest.l0] at H
              have HC11 := Aside0.mk H
              clear H
              go_upto_region 6 with (fail)
              go_cut [35] (fun v35 wc => ∃ (kq : Nat) (x35_10 : Bool), v35 = .bool x35_10 ∧ Aside0 (gangsawlaw35_ColourNearest.j2 kq l0 a1 l2 x7_2 x35_10 = some r) ∧ Aside0 (kq ≤ k2) ∧ Aside0 (Below w.heap.size w wc))
              case first =>
                have H := HC11.out
                clear HC11
                by_cases c12 : x7_2 < (l2.length : Int)
                · rw [if_pos c12] at H
                  have c12b0 : decide (x7_2 < (l2.length : Int)) = true := decide_eq_true c12
                  clear c12
                  (first | rw [c12b0] | (simp only [i64_w, i32_w]; rw [c12b0]) | skip)
                  have H' := Aside0.mk H
                  clear H
                  go_wp2
                  go_meet
                  case rel => exact ⟨_, (decide ((l2.length : Int) ≤ 30)), (by first | rfl | (simp; done) | (simp [*]; done)), H', ⟨by have := HJ5.out; have := HK2.out; first | omega | exact Nat.le_refl _⟩, ⟨by repeat (first | (with_reducible first | exact HB.out | apply below_alloc | apply pw_below_drewN | apply below_drew1) | exact HB.out)⟩⟩
                · rw [if_neg c12] at H
                  have c12b0 : decide (x7_2 < (l2.length : Int)) = false := decide_eq_false c12
                  clear c12
                  (first | rw [c12b0] | (simp only [i64_w, i32_w]; rw [c12b0]) | skip)
                  have H' := Aside0.mk H
                  clear H
                  go_wp2
                  go_meet
                  case rel => exact ⟨_, (false), (by first | rfl | (simp; done) | (simp [*]; done)), H', ⟨by have := HJ5.out; have := HK2.out; first | omega | exact Nat.le_refl _⟩, ⟨by repeat (first | (with_reducible first | exact HB.out | apply below_alloc | apply pw_below_drewN | apply below_drew1) | exact HB.out)⟩⟩
              case rest =>
                clear HC11
                try clear c1
                try clear c2
                try clear p2
                try clear c5
                try clear c7
                try clear c8
                try clear c8b0
                try clear c8b1
                try clear c9
                try clear c9b0
                try clear c9b1
                try clear c10
                try clear c12
                try clear c12b0
                try clear p2
                obtain ⟨kq, x35_10, rfl, HA, HJ10, HB⟩ := hcut
                cases kq with
                | zero => exact absurd HA.out (by simp [gangsawlaw35_ColourNearest.j2])
                | succ kj10 =>
                  have H := HA.out
                  clear HA
                  simp only [gangsawlaw35_ColourNearest.j2] at H
                  by_cases c13 : x35_10 = true
                  · subst c13
                    have H1 : (if 0 ≤ x7_2 then (if x7_2 < (l2.length : Int) then ((gangsawref35_Short.f ((rd_T47 l2 x7_2).f0) ((rd_T47 l2 x7_2).f1) ((rd_T47 l2 x7_2).f2) ((rd_T47 l2 x7_2).f3.f0.f0) ((rd_T47 l2 x7_2).f3.f0.f1) ((rd_T47 l2 x7_2).f3.f0.f2) ((rd_T47 l2 x7_2).f3.f1.f0) ((rd_T47 l2 x7_2).f3.f1.f1) ((rd_T47 l2 x7_2).f3.f1.f2) ((rd_T47 l2 x7_2).f4) ((rd_T47 l2 x7_2).f5) ((rd_T47 l2 x7_2).f6)).bind fun t363 => (if t363 = true then (gangsawlaw35_ColourNearest.l0 kj10 l0 a1 l2 (wrap64 (x7_2 + 1))) else (some true))) else (none)) else (none)) = some r := by rw [if_pos rfl] at H; exact H
                    clear H
                    have H := H1
                    clear H1
                    by_cases c14 : 0 ≤ x7_2
                    · rw [if_pos c14] at H
                      have c14b0 : decide (0 ≤ x7_2) = true := decide_eq_true c14
                      clear c14
                      by_cases c15 : x7_2 < (l2.length : Int)
                      · rw [if_pos c15] at H
                        have c15b0 : decide (x7_2 < (l2.length : Int)) = true := decide_eq_true c15
                        clear c15
                        replace H := Option.bind_eq_some_iff.mp H
                        obtain ⟨t363, A160, H⟩ := H
                        replace H : (if t363 = true then (gangsawlaw35_ColourNearest.l0 kj10 l0 a1 l2 (wrap64 (x7_2 + 1))) else (some true)) = some r := H
                        have A16 := Aside0.mk A160
                        clear A160
                        by_cases c17 : t363 = true
                        · subst c17
                          have H1 : (gangsawlaw35_ColourNearest.l0 kj10 l0 a1 l2 (wrap64 (x7_2 + 1))) = some r := by rw [if_pos rfl] at H; exact H
                          clear H
                          have H := H1
                          clear H1
                          have H' := Aside0.mk H
                          clear H
                          have p362 : 0 ≤ (x7_2 : Int) := of_decide_eq_true (by first | (with_reducible assumption) | assumption)
                          have q362 : x7_2 < (l2.length : Int) := of_decide_eq_true (by first | (with_reducible assumption) | assumption)
                          obtain ⟨ad362, A362_10, c362_10, A362_11, c362_11, e362, hx362_0, hx362_1, hx362_2, hx362_3, hx362_4, hx362_5, hx362_6, hx362_7, hx362_8, hx362_9, hx362_10, hx362_11, hl362_10, hi362_10, hl362_11, hi362_11⟩ := at_T47 HR2.out x7_2 p362 q362
                          cases e362
                          replace hx362_0 := (HB.out.cell (World.block_lt_of_cell? w _ hx362_0)).trans hx362_0
                          replace hx362_1 := (HB.out.cell (World.block_lt_of_cell? w _ hx362_1)).trans hx362_1
                          replace hx362_2 := (HB.out.cell (World.block_lt_of_cell? w _ hx362_2)).trans hx362_2
                          replace hx362_3 := (HB.out.cell (World.block_lt_of_cell? w _ hx362_3)).trans hx362_3
                          replace hx362_4 := (HB.out.cell (World.block_lt_of_cell? w _ hx362_4)).trans hx362_4
                          replace hx362_5 := (HB.out.cell (World.block_lt_of_cell? w _ hx362_5)).trans hx362_5
                          replace hx362_6 := (HB.out.cell (World.block_lt_of_cell? w _ hx362_6)).trans hx362_6
                          replace hx362_7 := (HB.out.cell (World.block_lt_of_cell? w _ hx362_7)).trans hx362_7
                          replace hx362_8 := (HB.out.cell (World.block_lt_of_cell? w _ hx362_8)).trans hx362_8
                          replace hx362_9 := (HB.out.cell (World.block_lt_of_cell? w _ hx362_9)).trans hx362_9
                          replace hx362_10 := (HB.out.cell (World.block_lt_of_cell? w _ hx362_10)).trans hx362_10
                          replace hx362_11 := (HB.out.cell (World.block_lt_of_cell? w _ hx362_11)).trans hx362_11
                          have HR362_10 := Aside0.mk hi362_10
                          have HC362_10 := Aside0.mk hl362_10
                          clear hi362_10 hl362_10
                          have HR362_11 := Aside0.mk hi362_11
                          have HC362_11 := Aside0.mk hl362_11
                          clear hi362_11 hl362_11
                          replace p362 := eq_true p362
                          replace q362 := eq_true q362
                          go_wp2_with (first | ((with_reducible refine gate_callee (f := 27) rfl ?_); refine goesL_ (some 42) rfl rfl Try.func27 (by kernel_rfl) rfl #[.agg #[.string ((rd_T47 l2 x7_2).f0), .string ((rd_T47 l2 x7_2).f1), .int .i64 ((rd_T47 l2 x7_2).f2), .int .i64 ((rd_T47 l2 x7_2).f3.f0.f0), .int .i64 ((rd_T47 l2 x7_2).f3.f0.f1), .int .i64 ((rd_T47 l2 x7_2).f3.f0.f2), .int .i64 ((rd_T47 l2 x7_2).f3.f1.f0), .int .i64 ((rd_T47 l2 x7_2).f3.f1.f1), .int .i64 ((rd_T47 l2 x7_2).f3.f1.f2), .int .i64 ((rd_T47 l2 x7_2).f4), .slice A362_10 ((rd_T47 l2 x7_2).f5).length c362_10, .slice A362_11 ((rd_T47 l2 x7_2).f6).length c362_11]] rfl (by (try simp only [List.map_toArray, List.map_cons, List.map_nil]); first | done | rfl | (simp only [List.length_drop, List.length_take]; rfl)) ?_; (with_reducible refine (gangsawref35_Short.calls ((rd_T47 l2 x7_2).f0) ((rd_T47 l2 x7_2).f1) ((rd_T47 l2 x7_2).f2) ((rd_T47 l2 x7_2).f3.f0.f0) ((rd_T47 l2 x7_2).f3.f0.f1) ((rd_T47 l2 x7_2).f3.f0.f2) ((rd_T47 l2 x7_2).f3.f1.f0) ((rd_T47 l2 x7_2).f3.f1.f1) ((rd_T47 l2 x7_2).f3.f1.f2) ((rd_T47 l2 x7_2).f4) _ _ ((rd_T47 l2 x7_2).f5) _ _ ((rd_T47 l2 x7_2).f6) true _ ?side1 ?side2 ?side3 ?side4 A16.out).mono ?_); (case side1 => repeat (first | exact (Kd.C_below HR362_10.out HB.out) | (with_reducible refine Kd.C_alloc ?_ _) | (with_reducible refine Kd.C_drewN ?_ _) | (with_reducible refine Kd.C_drew ?_))); (case side2 => exact HC362_10.out); (case side3 => repeat (first | exact (Kd.C_below HR362_11.out HB.out) | (with_reducible refine Kd.C_alloc ?_ _) | (with_reducible refine Kd.C_drewN ?_ _) | (with_reducible refine Kd.C_drew ?_))); (case side4 => exact HC362_11.out); rintro e w18 ⟨rfl, hb⟩; refine ⟨_, rfl, ?_⟩; have n0_ := Aside0.mk (below_step (by repeat (first | (with_reducible first | exact HB.out | apply below_alloc | apply pw_below_drewN | apply below_drew1) | exact HB.out)) hb); clear HB; have HB := n0_; clear n0_; (try clear hb); (try clear hb2); (try clear hk); (try clear hi)))
                          go_roundg kj10
                          case measure => have := HJ5.out; have := HK2.out; have := HJ10.out; omega
                          case rel => exact ⟨(wrap64 (x7_2 + 1)), (by first | rfl | (simp; done) | (simp [*]; done)), H', ⟨by have := HJ5.out; have := HK2.out; have := HJ10.out; omega⟩, ⟨by repeat (first | (with_reducible first | exact HB.out | apply below_alloc | apply pw_below_drewN | apply below_drew1) | exact HB.out)⟩⟩
                        · replace c17 := Bool.eq_false_iff.mpr c17
                          subst c17
                          have H1 : (some true) = some r := by rw [if_neg (show ¬ (false = true) by decide)] at H; exact H
                          clear H
                          have H := H1
                          clear H1
                          obtain rfl := Option.some.inj H
                          have p362 : 0 ≤ (x7_2 : Int) := of_decide_eq_true (by first | (with_reducible assumption) | assumption)
                          have q362 : x7_2 < (l2.length : Int) := of_decide_eq_true (by first | (with_reducible assumption) | assumption)
                          obtain ⟨ad362, A362_10, c362_10, A362_11, c362_11, e362, hx362_0, hx362_1, hx362_2, hx362_3, hx362_4, hx362_5, hx362_6, hx362_7, hx362_8, hx362_9, hx362_10, hx362_11, hl362_10, hi362_10, hl362_11, hi362_11⟩ := at_T47 HR2.out x7_2 p362 q362
                          cases e362
                          replace hx362_0 := (HB.out.cell (World.block_lt_of_cell? w _ hx362_0)).trans hx362_0
                          replace hx362_1 := (HB.out.cell (World.block_lt_of_cell? w _ hx362_1)).trans hx362_1
                          replace hx362_2 := (HB.out.cell (World.block_lt_of_cell? w _ hx362_2)).trans hx362_2
                          replace hx362_3 := (HB.out.cell (World.block_lt_of_cell? w _ hx362_3)).trans hx362_3
                          replace hx362_4 := (HB.out.cell (World.block_lt_of_cell? w _ hx362_4)).trans hx362_4
                          replace hx362_5 := (HB.out.cell (World.block_lt_of_cell? w _ hx362_5)).trans hx362_5
                          replace hx362_6 := (HB.out.cell (World.block_lt_of_cell? w _ hx362_6)).trans hx362_6
                          replace hx362_7 := (HB.out.cell (World.block_lt_of_cell? w _ hx362_7)).trans hx362_7
                          replace hx362_8 := (HB.out.cell (World.block_lt_of_cell? w _ hx362_8)).trans hx362_8
                          replace hx362_9 := (HB.out.cell (World.block_lt_of_cell? w _ hx362_9)).trans hx362_9
                          replace hx362_10 := (HB.out.cell (World.block_lt_of_cell? w _ hx362_10)).trans hx362_10
                          replace hx362_11 := (HB.out.cell (World.block_lt_of_cell? w _ hx362_11)).trans hx362_11
                          have HR362_10 := Aside0.mk hi362_10
                          have HC362_10 := Aside0.mk hl362_10
                          clear hi362_10 hl362_10
                          have HR362_11 := Aside0.mk hi362_11
                          have HC362_11 := Aside0.mk hl362_11
                          clear hi362_11 hl362_11
                          replace p362 := eq_true p362
                          replace q362 := eq_true q362
                          go_wp2_with (first | ((with_reducible refine gate_callee (f := 27) rfl ?_); refine goesL_ (some 42) rfl rfl Try.func27 (by kernel_rfl) rfl #[.agg #[.string ((rd_T47 l2 x7_2).f0), .string ((rd_T47 l2 x7_2).f1), .int .i64 ((rd_T47 l2 x7_2).f2), .int .i64 ((rd_T47 l2 x7_2).f3.f0.f0), .int .i64 ((rd_T47 l2 x7_2).f3.f0.f1), .int .i64 ((rd_T47 l2 x7_2).f3.f0.f2), .int .i64 ((rd_T47 l2 x7_2).f3.f1.f0), .int .i64 ((rd_T47 l2 x7_2).f3.f1.f1), .int .i64 ((rd_T47 l2 x7_2).f3.f1.f2), .int .i64 ((rd_T47 l2 x7_2).f4), .slice A362_10 ((rd_T47 l2 x7_2).f5).length c362_10, .slice A362_11 ((rd_T47 l2 x7_2).f6).length c362_11]] rfl (by (try simp only [List.map_toArray, List.map_cons, List.map_nil]); first | done | rfl | (simp only [List.length_drop, List.length_take]; rfl)) ?_; (with_reducible refine (gangsawref35_Short.calls ((rd_T47 l2 x7_2).f0) ((rd_T47 l2 x7_2).f1) ((rd_T47 l2 x7_2).f2) ((rd_T47 l2 x7_2).f3.f0.f0) ((rd_T47 l2 x7_2).f3.f0.f1) ((rd_T47 l2 x7_2).f3.f0.f2) ((rd_T47 l2 x7_2).f3.f1.f0) ((rd_T47 l2 x7_2).f3.f1.f1) ((rd_T47 l2 x7_2).f3.f1.f2) ((rd_T47 l2 x7_2).f4) _ _ ((rd_T47 l2 x7_2).f5) _ _ ((rd_T47 l2 x7_2).f6) false _ ?side1 ?side2 ?side3 ?side4 A16.out).mono ?_); (case side1 => repeat (first | exact (Kd.C_below HR362_10.out HB.out) | (with_reducible refine Kd.C_alloc ?_ _) | (with_reducible refine Kd.C_drewN ?_ _) | (with_reducible refine Kd.C_drew ?_))); (case side2 => exact HC362_10.out); (case side3 => repeat (first | exact (Kd.C_below HR362_11.out HB.out) | (with_reducible refine Kd.C_alloc ?_ _) | (with_reducible refine Kd.C_drewN ?_ _) | (with_reducible refine Kd.C_drew ?_))); (case side4 => exact HC362_11.out); rintro e w19 ⟨rfl, hb⟩; refine ⟨_, rfl, ?_⟩; have n0_ := Aside0.mk (below_step (by repeat (first | (with_reducible first | exact HB.out | apply below_alloc | apply pw_below_drewN | apply below_drew1) | exact HB.out)) hb); clear HB; have HB := n0_; clear n0_; (try clear hb); (try clear hb2); (try clear hk); (try clear hi)))
                          go_ret
                          exact ⟨by first | rfl | (simp [errW_none, errW_some] <;> rfl) | (simp [*, errW_none, errW_some] <;> rfl), by repeat (first | (with_reducible first | exact HB.out | apply below_alloc | apply pw_below_drewN | apply below_drew1) | exact HB.out)⟩
                      · rw [if_neg c15] at H
                        exact absurd H (by simp)
                    · rw [if_neg c14] at H
                      exact absurd H (by simp)
                  · replace c13 := Bool.eq_false_iff.mpr c13
                    subst c13
                    have H1 : ((colour_Nearest.f kj10 l0 a1 l2).bind fun bt364 => ((gangsawref35_Nearest.f kj10 l0 a1 l2).bind fun bt366 => (if bt364.1 = bt366.1 then (some (bt364.2 == bt366.2)) else (some false)))) = some r := by rw [if_neg (show ¬ (false = true) by decide)] at H; exact H
                    clear H
                    have H := H1
                    clear H1
                    replace H := Option.bind_eq_some_iff.mp H
                    obtain ⟨⟨t364, t365⟩, A200, H⟩ := H
                    replace H : ((gangsawref35_Nearest.f kj10 l0 a1 l2).bind fun bt366 => (if t364 = bt366.1 then (some (t365 == bt366.2)) else (some false))) = some r := H
                    have A20 := Aside0.mk A200
                    clear A200
                    replace H := Option.bind_eq_some_iff.mp H
                    obtain ⟨⟨t366, t367⟩, A210, H⟩ := H
                    replace H : (if t364 = t366 then (some (t365 == t367)) else (some false)) = some r := H
                    have A21 := Aside0.mk A210
                    clear A210
                    by_cases c22 : t364 = t366
                    · rw [if_pos c22] at H
                      have c22b0 : (t364 == t366) = true := beq_iff_eq.mpr c22
                      have c22b1 : (t364 != t366) = false := bne_eq_false_iff_eq.mpr c22
                      clear c22
                      obtain rfl := Option.some.inj H
                      go_wp2_with (first | ((with_reducible refine gate_callee (f := 31) rfl ?_); refine goesL_ (some 48) rfl rfl Try.func31 (by kernel_rfl) rfl #[.slice A0 l0.length c0, .int .i64 a1, .slice A2 l2.length c2] rfl (by (try simp only [List.map_toArray, List.map_cons, List.map_nil]); first | done | rfl | (simp only [List.length_drop, List.length_take]; rfl)) ?_; (with_reducible refine (colour_Nearest.calls kj10 _ _ l0 a1 _ _ l2 t364 t365 _ ?side1 ?side2 ?side3 ?side4 A20.out).mono ?_); (case side1 => repeat (first | exact (Kd.C_below HR0.out HB.out) | (with_reducible refine Kd.C_alloc ?_ _) | (with_reducible refine Kd.C_drewN ?_ _) | (with_reducible refine Kd.C_drew ?_))); (case side2 => exact HC0.out); (case side3 => repeat (first | exact (Kd.C_below HR2.out HB.out) | (with_reducible refine Kd.C_alloc ?_ _) | (with_reducible refine Kd.C_drewN ?_ _) | (with_reducible refine Kd.C_drew ?_))); (case side4 => exact HC2.out); rintro e w23 ⟨rfl, hb⟩; refine ⟨_, rfl, ?_⟩; have n0_ := Aside0.mk (below_step (by repeat (first | (with_reducible first | exact HB.out | apply below_alloc | apply pw_below_drewN | apply below_drew1) | exact HB.out)) hb); clear HB; have HB := n0_; clear n0_; (try clear hb); (try clear hb2); (try clear hk); (try clear hi)) | ((with_reducible refine gate_callee (f := 32) rfl ?_); refine goesL_ (some 55) rfl rfl Try.func32 (by kernel_rfl) rfl #[.slice A0 l0.length c0, .int .i64 a1, .slice A2 l2.length c2] rfl (by (try simp only [List.map_toArray, List.map_cons, List.map_nil]); first | done | rfl | (simp only [List.length_drop, List.length_take]; rfl)) ?_; (with_reducible refine (gangsawref35_Nearest.calls kj10 _ _ l0 a1 _ _ l2 t366 t367 _ ?side1 ?side2 ?side3 ?side4 A21.out).mono ?_); (case side1 => repeat (first | exact (Kd.C_below HR0.out HB.out) | (with_reducible refine Kd.C_alloc ?_ _) | (with_reducible refine Kd.C_drewN ?_ _) | (with_reducible refine Kd.C_drew ?_))); (case side2 => exact HC0.out); (case side3 => repeat (first | exact (Kd.C_below HR2.out HB.out) | (with_reducible refine Kd.C_alloc ?_ _) | (with_reducible refine Kd.C_drewN ?_ _) | (with_reducible refine Kd.C_drew ?_))); (case side4 => exact HC2.out); rintro e w' ⟨rfl, ⟨nd, rfl⟩⟩; refine ⟨_, rfl, ?_⟩))
                      go_ret
                      exact ⟨by first | rfl | (simp [errW_none, errW_some] <;> rfl) | (simp [*, errW_none, errW_some] <;> rfl), by repeat (first | (with_reducible first | exact HB.out | apply below_alloc | apply pw_below_drewN | apply below_drew1) | exact HB.out)⟩
                    · rw [if_neg c22] at H
                      have c22b0 : (t364 == t366) = false := beq_eq_false_iff_ne.mpr c22
                      have c22b1 : (t364 != t366) = true := bne_iff_ne.mpr c22
                      obtain rfl := Option.some.inj H
                      go_wp2_with (first | ((with_reducible refine gate_callee (f := 31) rfl ?_); refine goesL_ (some 48) rfl rfl Try.func31 (by kernel_rfl) rfl #[.slice A0 l0.length c0, .int .i64 a1, .slice A2 l2.length c2] rfl (by (try simp only [List.map_toArray, List.map_cons, List.map_nil]); first | done | rfl | (simp only [List.length_drop, List.length_take]; rfl)) ?_; (with_reducible refine (colour_Nearest.calls kj10 _ _ l0 a1 _ _ l2 t364 t365 _ ?side1 ?side2 ?side3 ?side4 A20.out).mono ?_); (case side1 => repeat (first | exact (Kd.C_below HR0.out HB.out) | (with_reducible refine Kd.C_alloc ?_ _) | (with_reducible refine Kd.C_drewN ?_ _) | (with_reducible refine Kd.C_drew ?_))); (case side2 => exact HC0.out); (case side3 => repeat (first | exact (Kd.C_below HR2.out HB.out) | (with_reducible refine Kd.C_alloc ?_ _) | (with_reducible refine Kd.C_drewN ?_ _) | (with_reducible refine Kd.C_drew ?_))); (case side4 => exact HC2.out); rintro e w24 ⟨rfl, hb⟩; refine ⟨_, rfl, ?_⟩; have n0_ := Aside0.mk (below_step (by repeat (first | (with_reducible first | exact HB.out | apply below_alloc | apply pw_below_drewN | apply below_drew1) | exact HB.out)) hb); clear HB; have HB := n0_; clear n0_; (try clear hb); (try clear hb2); (try clear hk); (try clear hi)) | ((with_reducible refine gate_callee (f := 32) rfl ?_); refine goesL_ (some 55) rfl rfl Try.func32 (by kernel_rfl) rfl #[.slice A0 l0.length c0, .int .i64 a1, .slice A2 l2.length c2] rfl (by (try simp only [List.map_toArray, List.map_cons, List.map_nil]); first | done | rfl | (simp only [List.length_drop, List.length_take]; rfl)) ?_; (with_reducible refine (gangsawref35_Nearest.calls kj10 _ _ l0 a1 _ _ l2 t366 t367 _ ?side1 ?side2 ?side3 ?side4 A21.out).mono ?_); (case side1 => repeat (first | exact (Kd.C_below HR0.out HB.out) | (with_reducible refine Kd.C_alloc ?_ _) | (with_reducible refine Kd.C_drewN ?_ _) | (with_reducible refine Kd.C_drew ?_))); (case side2 => exact HC0.out); (case side3 => repeat (first | exact (Kd.C_below HR2.out HB.out) | (with_reducible refine Kd.C_alloc ?_ _) | (with_reducible refine Kd.C_drewN ?_ _) | (with_reducible refine Kd.C_drew ?_))); (case side4 => exact HC2.out); rintro e w' ⟨rfl, ⟨nd, rfl⟩⟩; refine ⟨_, rfl, ?_⟩))
                      go_ret
                      exact ⟨by first | rfl | (simp [errW_none, errW_some] <;> rfl) | (simp [*, errW_none, errW_some] <;> rfl), by repeat (first | (with_reducible first | exact HB.out | apply below_alloc | apply pw_below_drewN | apply below_drew1) | exact HB.out)⟩
  · replace c5 := Bool.eq_false_iff.mpr c5
    subst c5
    have H1 : (some false) = some r := by rw [if_neg (show ¬ (false = true) by decide)] at H; exact H
    clear H
    have H := H1
    clear H1
    obtain rfl := Option.some.inj H
    go_enter Try.func7, Try.ntmps7
    go_wp2_with (first | ((with_reducible refine gate_callee (f := 12) rfl ?_); refine goesL_ (some 12) rfl rfl Try.func12 (by kernel_rfl) rfl #[] rfl (by (try simp only [List.map_toArray, List.map_cons, List.map_nil]); first | done | rfl | (simp only [List.length_drop, List.length_take]; rfl)) ?_; (with_reducible refine (gangsawlaw35_awake.calls k  false _ A4.out).mono ?_); rintro e w25 ⟨rfl, hb⟩; refine ⟨_, rfl, ?_⟩; have n0_ := Aside0.mk (below_step (by repeat (first | (with_reducible first | exact HB.out | apply below_alloc | apply pw_below_drewN | apply below_drew1) | exact HB.out)) hb); clear HB; have HB := n0_; clear n0_; (try clear hb); (try clear hb2); (try clear hk); (try clear hi)))
    go_ret
    exact ⟨by first | rfl | (simp [errW_none, errW_some] <;> rfl) | (simp [*, errW_none, errW_some] <;> rfl), by repeat (first | (with_reducible first | exact HB.out | apply below_alloc | apply pw_below_drewN | apply below_drew1) | exact HB.out)⟩

/-- THE ONE PURE STATEMENT of gangsawlaw35_ColourNearest. -/
def gangsawlaw35_ColourNearest.Pure : Prop := ∀ (l0 : List Int) (a1 : Int) (l2 : List (S47)), (gSl (gInt .i64)) l0 → (gInt .i64) a1 → (gSl g47) l2 → ∃ k, gangsawlaw35_ColourNearest.f k l0 a1 l2 = some true
theorem gangsawlaw35_ColourNearest.walk (P : gangsawlaw35_ColourNearest.Pure) (A0 : Option Addr) (c0 : Nat) (l0 : List Int) (a1 : Int) (A2 : Option Addr) (c2 : Nat) (l2 : List (S47)) (w : World) (w0 : (gSl (gInt .i64)) l0) (w1 : (gInt .i64) a1) (w2 : (gSl g47) l2) (hr0 : Kd.C (Kd.int .i64) w A0 l0.length l0) (hc0 : l0.length ≤ c0) (hr2 : Kd.C k47 w A2 l2.length l2) (hc2 : l2.length ≤ c2) :
    Calls Try.prog 7 #[.slice A0 l0.length c0, .int .i64 a1, .slice A2 l2.length c2] w fun e w' => e = .returned (.bool true) ∧ Below w.heap.size w w' := by
  obtain ⟨k, h⟩ := P l0 a1 l2 w0 w1 w2
  refine (gangsawlaw35_ColourNearest.calls k _ _ l0 a1 _ _ l2 true w hr0 hc0 hr2 hc2 h).mono ?_
  rintro e w' ⟨rfl, hd⟩
  exact ⟨rfl, hd⟩

end Go.Proofs.Ytejnelflfldfgaa.XA
