-- written by xprint.py, this project's own program (wip/), over the words of print.sh
import Derived.Test.YtaainbbkengjfaaXAx0
import Derived.Test.YtaainbbkengjfaaXAx6
import Derived.Test.YtaainbbkengjfaaXAx9
import Derived.Test.YtaainbbkengjfaaXAx11
import Derived.Test.YtaainbbkengjfaaXAx12
namespace Go.Proofs.Ytaainbbkengjfaa.XA
open Go.RowKit Go.Proofs.Ytaainbbkengjfaa.Opens Go.Proofs.YtaainbbkengjfaaW.PrintWords Go.Proofs.YtaainbbkengjfaaW.PrintLast Go.Proofs.YtaainbbkengjfaaW.PrintMore
attribute [local go_sem] max2_int min2_int max_two min_two max_three min_three max_four min_four   -- for this text's walks alone
set_option linter.unusedVariables false
set_option linter.unusedSimpArgs false

/-! ### gangsawlaw42_StairLevels: function 9 -/
mutual
def gangsawlaw42_StairLevels.l0 : Nat → Int → List Int → Int → Int → Int → Int → Int → Int → Int → Int → Int → Option (Bool)
  | 0, _, _, _, _, _, _, _, _, _, _, _ => none
  | k + 1, x3, x6, x7, x8, x9, x387000, x387001, x387002, x387003, x387004, x387005 => if x9 < x387000 then (gangsawlaw42_StairLevels.j1 k x3 x6 x7 x8 x9 (decide (x9 < 100)) x387000 x387001 x387002 x387003 x387004 x387005) else (gangsawlaw42_StairLevels.j1 k x3 x6 x7 x8 x9 false x387000 x387001 x387002 x387003 x387004 x387005)
def gangsawlaw42_StairLevels.j1 : Nat → Int → List Int → Int → Int → Int → Bool → Int → Int → Int → Int → Int → Int → Option (Bool)
  | 0, _, _, _, _, _, _, _, _, _, _, _, _ => none
  | k + 1, x3, x6, x7, x8, x9, x33, x387000, x387001, x387002, x387003, x387004, x387005 => if x33 = true then ((stair_Level.f x387000 x387001 x387002 x387003 x387004 x387005 x9).bind fun bt393 => (if bt393.2 = 0 then (if (wrap64 (bt393.1 - x7)) = x387001 then (gangsawlaw42_StairLevels.j2 k x3 x6 x7 x8 x9 bt393.1 false x387000 x387001 x387002 x387003 x387004 x387005) else (if (wrap64 (bt393.1 - x7)) = (wrap64 (x387001 + 1)) then (gangsawlaw42_StairLevels.j2 k x3 x6 x7 x8 x9 bt393.1 (x8 != x9) x387000 x387001 x387002 x387003 x387004 x387005) else (gangsawlaw42_StairLevels.j2 k x3 x6 x7 x8 x9 bt393.1 true x387000 x387001 x387002 x387003 x387004 x387005))) else (gangsawlaw42_StairLevels.j2 k x3 x6 x7 x8 x9 bt393.1 true x387000 x387001 x387002 x387003 x387004 x387005))) else ((stair_Even.f k x6).bind fun bt391 => (if x7 = x3 then (if x8 = x387002 then (if (x6.length : Int) < 2 then (if bt391.2 = 9 then (some true) else (if bt391.2 = 0 then (some (decide (bt391.1 ≤ 1))) else (some false))) else (if bt391.2 = 0 then (some (decide (bt391.1 ≤ 1))) else (some false))) else (some false)) else (some false)))
def gangsawlaw42_StairLevels.j2 : Nat → Int → List Int → Int → Int → Int → Int → Bool → Int → Int → Int → Int → Int → Int → Option (Bool)
  | 0, _, _, _, _, _, _, _, _, _, _, _, _, _ => none
  | k + 1, x3, x6, x7, x8, x9, x10, x65, x387000, x387001, x387002, x387003, x387004, x387005 => if x65 = true then (some false) else (if (wrap64 (x10 - x7)) = (wrap64 (x387001 + 1)) then (if x6.length < 17592186044416 then (gangsawlaw42_StairLevels.l0 k x3 (x6 ++ [x10]) x10 (wrap64 (x8 + 1)) (wrap64 (x9 + 1)) x387000 x387001 x387002 x387003 x387004 x387005) else (none)) else (if x6.length < 17592186044416 then (gangsawlaw42_StairLevels.l0 k x3 (x6 ++ [x10]) x10 x8 (wrap64 (x9 + 1)) x387000 x387001 x387002 x387003 x387004 x387005) else (none)))
end
def gangsawlaw42_StairLevels.f (k : Nat) (a0_0 : Int) (a0_1 : Int) (a0_2 : Int) (a0_3 : Int) (a0_4 : Int) (a0_5 : Int) : Option (Bool) := (gangsawlaw42_awake.f k).bind fun t387 => (if t387 = true then ((stair_Height.f a0_0 a0_1 a0_2 a0_3 a0_4 a0_5).bind fun bt388 => (if bt388.2.2 = 0 then (gangsawlaw42_StairLevels.l0 k bt388.1 ([] : List Int) 0 0 0 a0_0 a0_1 a0_2 a0_3 a0_4 a0_5) else (some (bt388.1 == 0)))) else (some false))
theorem gangsawlaw42_StairLevels.mono_l : ∀ k, (∀ y0 y1 y2 y3 y4 y5 y6 y7 y8 y9 y10, LeO (gangsawlaw42_StairLevels.l0 k y0 y1 y2 y3 y4 y5 y6 y7 y8 y9 y10) (gangsawlaw42_StairLevels.l0 (k + 1) y0 y1 y2 y3 y4 y5 y6 y7 y8 y9 y10)) ∧ (∀ y0 y1 y2 y3 y4 y5 y6 y7 y8 y9 y10 y11, LeO (gangsawlaw42_StairLevels.j1 k y0 y1 y2 y3 y4 y5 y6 y7 y8 y9 y10 y11) (gangsawlaw42_StairLevels.j1 (k + 1) y0 y1 y2 y3 y4 y5 y6 y7 y8 y9 y10 y11)) ∧ (∀ y0 y1 y2 y3 y4 y5 y6 y7 y8 y9 y10 y11 y12, LeO (gangsawlaw42_StairLevels.j2 k y0 y1 y2 y3 y4 y5 y6 y7 y8 y9 y10 y11 y12) (gangsawlaw42_StairLevels.j2 (k + 1) y0 y1 y2 y3 y4 y5 y6 y7 y8 y9 y10 y11 y12))
  | 0 => ⟨fun _ _ _ _ _ _ _ _ _ _ _ r h => by simp [gangsawlaw42_StairLevels.l0] at h, fun _ _ _ _ _ _ _ _ _ _ _ _ r h => by simp [gangsawlaw42_StairLevels.j1] at h, fun _ _ _ _ _ _ _ _ _ _ _ _ _ r h => by simp [gangsawlaw42_StairLevels.j2] at h⟩
  | k + 1 => by
    obtain ⟨ih0, ih1, ih2⟩ := gangsawlaw42_StairLevels.mono_l k
    refine ⟨?_, ?_, ?_⟩
    · intro y0 y1 y2 y3 y4 y5 y6 y7 y8 y9 y10
      unfold gangsawlaw42_StairLevels.l0
      repeat' first
      | (with_reducible exact ih0 _ _ _ _ _ _ _ _ _ _ _)
      | (with_reducible exact ih1 _ _ _ _ _ _ _ _ _ _ _ _)
      | (with_reducible exact ih2 _ _ _ _ _ _ _ _ _ _ _ _ _)
      | (with_reducible exact gangsawlaw42_awake.mono _)
      | (with_reducible exact stair_Even.mono _ _)
      | (with_reducible exact LeO.refl _)
      | (with_reducible exact LeO.none _)
      | (with_reducible refine LeO.ite ?_ ?_)
      | (with_reducible refine LeO.bind ?_ (fun _ => ?_))
      | exact ih0 _ _ _ _ _ _ _ _ _ _ _
      | exact ih1 _ _ _ _ _ _ _ _ _ _ _ _
      | exact ih2 _ _ _ _ _ _ _ _ _ _ _ _ _
      | exact gangsawlaw42_awake.mono _
      | exact stair_Even.mono _ _
      | exact LeO.none _
      | refine LeO.ite ?_ ?_
      | refine LeO.bind ?_ (fun _ => ?_)
    · intro y0 y1 y2 y3 y4 y5 y6 y7 y8 y9 y10 y11
      unfold gangsawlaw42_StairLevels.j1
      repeat' first
      | (with_reducible exact ih0 _ _ _ _ _ _ _ _ _ _ _)
      | (with_reducible exact ih1 _ _ _ _ _ _ _ _ _ _ _ _)
      | (with_reducible exact ih2 _ _ _ _ _ _ _ _ _ _ _ _ _)
      | (with_reducible exact gangsawlaw42_awake.mono _)
      | (with_reducible exact stair_Even.mono _ _)
      | (with_reducible exact LeO.refl _)
      | (with_reducible exact LeO.none _)
      | (with_reducible refine LeO.ite ?_ ?_)
      | (with_reducible refine LeO.bind ?_ (fun _ => ?_))
      | exact ih0 _ _ _ _ _ _ _ _ _ _ _
      | exact ih1 _ _ _ _ _ _ _ _ _ _ _ _
      | exact ih2 _ _ _ _ _ _ _ _ _ _ _ _ _
      | exact gangsawlaw42_awake.mono _
      | exact stair_Even.mono _ _
      | exact LeO.none _
      | refine LeO.ite ?_ ?_
      | refine LeO.bind ?_ (fun _ => ?_)
    · intro y0 y1 y2 y3 y4 y5 y6 y7 y8 y9 y10 y11 y12
      unfold gangsawlaw42_StairLevels.j2
      repeat' first
      | (with_reducible exact ih0 _ _ _ _ _ _ _ _ _ _ _)
      | (with_reducible exact ih1 _ _ _ _ _ _ _ _ _ _ _ _)
      | (with_reducible exact ih2 _ _ _ _ _ _ _ _ _ _ _ _ _)
      | (with_reducible exact gangsawlaw42_awake.mono _)
      | (with_reducible exact stair_Even.mono _ _)
      | (with_reducible exact LeO.refl _)
      | (with_reducible exact LeO.none _)
      | (with_reducible refine LeO.ite ?_ ?_)
      | (with_reducible refine LeO.bind ?_ (fun _ => ?_))
      | exact ih0 _ _ _ _ _ _ _ _ _ _ _
      | exact ih1 _ _ _ _ _ _ _ _ _ _ _ _
      | exact ih2 _ _ _ _ _ _ _ _ _ _ _ _ _
      | exact gangsawlaw42_awake.mono _
      | exact stair_Even.mono _ _
      | exact LeO.none _
      | refine LeO.ite ?_ ?_
      | refine LeO.bind ?_ (fun _ => ?_)
theorem gangsawlaw42_StairLevels.mono : ∀ a0 a1 a2 a3 a4 a5 k, LeO (gangsawlaw42_StairLevels.f k a0 a1 a2 a3 a4 a5) (gangsawlaw42_StairLevels.f (k + 1) a0 a1 a2 a3 a4 a5) := by
  intro a0 a1 a2 a3 a4 a5 k
  obtain ⟨ih0, ih1, ih2⟩ := gangsawlaw42_StairLevels.mono_l k
  unfold gangsawlaw42_StairLevels.f
  repeat' first
      | (with_reducible exact ih0 _ _ _ _ _ _ _ _ _ _ _)
      | (with_reducible exact ih1 _ _ _ _ _ _ _ _ _ _ _ _)
      | (with_reducible exact ih2 _ _ _ _ _ _ _ _ _ _ _ _ _)
      | (with_reducible exact gangsawlaw42_awake.mono _)
      | (with_reducible exact stair_Even.mono _ _)
      | (with_reducible exact LeO.refl _)
      | (with_reducible exact LeO.none _)
      | (with_reducible refine LeO.ite ?_ ?_)
      | (with_reducible refine LeO.bind ?_ (fun _ => ?_))
      | exact ih0 _ _ _ _ _ _ _ _ _ _ _
      | exact ih1 _ _ _ _ _ _ _ _ _ _ _ _
      | exact ih2 _ _ _ _ _ _ _ _ _ _ _ _ _
      | exact gangsawlaw42_awake.mono _
      | exact stair_Even.mono _ _
      | exact LeO.none _
      | refine LeO.ite ?_ ?_
      | refine LeO.bind ?_ (fun _ => ?_)
set_option maxHeartbeats 8000000 in
set_option maxRecDepth 100000 in
theorem gangsawlaw42_StairLevels.calls (k : Nat) (a0_0 : Int) (a0_1 : Int) (a0_2 : Int) (a0_3 : Int) (a0_4 : Int) (a0_5 : Int) (r : Bool) (w : World) (h : gangsawlaw42_StairLevels.f k a0_0 a0_1 a0_2 a0_3 a0_4 a0_5 = some r) :
    Calls Try.prog 9 #[.agg #[.int .i64 a0_0, .int .i64 a0_1, .int .i64 a0_2, .int .i64 a0_3, .int .i64 a0_4, .int .i64 a0_5]] w fun e w' => e = .returned (.bool r) ∧ Below w.heap.size w w' := by
  have hu27 := Try.underlying27
  have HB := Aside0.mk (Below.refl w.heap.size w)
  have H : ((gangsawlaw42_awake.f k).bind fun t387 => (if t387 = true then ((stair_Height.f a0_0 a0_1 a0_2 a0_3 a0_4 a0_5).bind fun bt388 => (if bt388.2.2 = 0 then (gangsawlaw42_StairLevels.l0 k bt388.1 ([] : List Int) 0 0 0 a0_0 a0_1 a0_2 a0_3 a0_4 a0_5) else (some (bt388.1 == 0)))) else (some false))) = some r := h
  clear h
  replace H := Option.bind_eq_some_iff.mp H
  obtain ⟨t387, A20, H⟩ := H
  replace H : (if t387 = true then ((stair_Height.f a0_0 a0_1 a0_2 a0_3 a0_4 a0_5).bind fun bt388 => (if bt388.2.2 = 0 then (gangsawlaw42_StairLevels.l0 k bt388.1 ([] : List Int) 0 0 0 a0_0 a0_1 a0_2 a0_3 a0_4 a0_5) else (some (bt388.1 == 0)))) else (some false)) = some r := H
  have A2 := Aside0.mk A20
  clear A20
  by_cases c3 : t387 = true
  · subst c3
    have H1 : ((stair_Height.f a0_0 a0_1 a0_2 a0_3 a0_4 a0_5).bind fun bt388 => (if bt388.2.2 = 0 then (gangsawlaw42_StairLevels.l0 k bt388.1 ([] : List Int) 0 0 0 a0_0 a0_1 a0_2 a0_3 a0_4 a0_5) else (some (bt388.1 == 0)))) = some r := by rw [if_pos rfl] at H; exact H
    clear H
    have H := H1
    clear H1
    replace H := Option.bind_eq_some_iff.mp H
    obtain ⟨⟨t388, t389, t390⟩, A40, H⟩ := H
    replace H : (if t390 = 0 then (gangsawlaw42_StairLevels.l0 k t388 ([] : List Int) 0 0 0 a0_0 a0_1 a0_2 a0_3 a0_4 a0_5) else (some (t388 == 0))) = some r := H
    have A4 := Aside0.mk A40
    clear A40
    by_cases c5 : t390 = 0
    · rw [if_pos c5] at H
      have c5b0 : (t390 == 0) = true := beq_iff_eq.mpr c5
      have c5b1 : (t390 != 0) = false := bne_eq_false_iff_eq.mpr c5
      clear c5
      have H' := Aside0.mk H
      clear H
      go_enter Try.func9, Try.ntmps9
      go_wp2_with (first | ((with_reducible refine gate_dst (N := 1) rfl ?_); refine box_event ?hg (N := 1) ?hd (cs := #[.int .i64 a0_0, .int .i64 a0_1, .int .i64 a0_2, .int .i64 a0_3, .int .i64 a0_4, .int .i64 a0_5]) (t := 27) ?hr ?_; (case hd => rfl); (case hg => rfl); (case hr => first | (go_simp; done) | (go_simp; rfl)); intro gb386 hg w6 hbox hb; have n0_ := Aside0.mk (below_step (by repeat (first | (with_reducible first | exact HB.out | apply below_alloc | apply pw_below_drewN | apply below_drew1) | exact HB.out)) hb); have n1_ := Aside0.mk (hbox); have n2_ := Aside0.mk ((by rw [hg]; exact (below_size (by repeat (first | (with_reducible first | exact HB.out | apply below_alloc | apply pw_below_drewN | apply below_drew1) | exact HB.out))) : w.heap.size ≤ gb386)); have n3_ := Aside0.mk ((by rw [hg]; exact (below_size (by repeat (first | (with_reducible first | exact HB.out | apply below_alloc | apply pw_below_drewN | apply below_drew1) | exact HB.out))) : w.heap.size ≤ gb386)); clear HB; have HB := n0_; have BK386 := n1_; have GW386 := n2_; have GE386 := n3_; clear n0_ n1_ n2_ n3_; clear hb hbox hg) | ((with_reducible refine gate_callee (f := 11) rfl ?_); refine goesL_ (some 14) rfl rfl Try.func11 (by kernel_rfl) rfl #[] rfl (by (try simp only [List.map_toArray, List.map_cons, List.map_nil]); first | done | rfl | (simp only [List.length_drop, List.length_take]; rfl)) ?_; (with_reducible refine (gangsawlaw42_awake.calls k  true _ A2.out).mono ?_); rintro e w7 ⟨rfl, hb⟩; refine ⟨_, rfl, ?_⟩; have n0_ := Aside0.mk (blk_below (g := gb386) (o := .cells #[.int .i64 a0_0, .int .i64 a0_1, .int .i64 a0_2, .int .i64 a0_3, .int .i64 a0_4, .int .i64 a0_5] 27 (0, 0)) (by (with_reducible repeat (first | refine blk_drewN ?_ _ | refine blk_drew ?_ | refine blk_alloc ?_ _)); exact BK386.out) hb); have n1_ := Aside0.mk (below_step (by repeat (first | (with_reducible first | exact HB.out | apply below_alloc | apply pw_below_drewN | apply below_drew1 | refine below_set ?_ GE386.out) | exact HB.out)) hb); clear BK386; clear HB; have BK386 := n0_; have HB := n1_; clear n0_ n1_; (try clear hb); (try clear hb2); (try clear hk); (try clear hi); have hcz8_0 : w7.cell? ⟨gb386, 0, none⟩ = some (.int .i64 a0_0) := (blk_cell BK386.out 0).trans rfl; have hcz8_1 : w7.cell? ⟨gb386, 1, none⟩ = some (.int .i64 a0_1) := (blk_cell BK386.out 1).trans rfl; have hcz8_2 : w7.cell? ⟨gb386, 2, none⟩ = some (.int .i64 a0_2) := (blk_cell BK386.out 2).trans rfl; have hcz8_3 : w7.cell? ⟨gb386, 3, none⟩ = some (.int .i64 a0_3) := (blk_cell BK386.out 3).trans rfl; have hcz8_4 : w7.cell? ⟨gb386, 4, none⟩ = some (.int .i64 a0_4) := (blk_cell BK386.out 4).trans rfl; have hcz8_5 : w7.cell? ⟨gb386, 5, none⟩ = some (.int .i64 a0_5) := (blk_cell BK386.out 5).trans rfl; have hfz8_0 := blk_frozen BK386.out 0; have hfz8_1 := blk_frozen BK386.out 1; have hfz8_2 := blk_frozen BK386.out 2; have hfz8_3 := blk_frozen BK386.out 3; have hfz8_4 := blk_frozen BK386.out 4; have hfz8_5 := blk_frozen BK386.out 5) | ((with_reducible refine gate_callee (f := 16) rfl ?_); refine goesL_ (some 18) rfl rfl Try.func16 (by kernel_rfl) rfl #[.agg #[.int .i64 a0_0, .int .i64 a0_1, .int .i64 a0_2, .int .i64 a0_3, .int .i64 a0_4, .int .i64 a0_5]] rfl (by (try simp only [List.map_toArray, List.map_cons, List.map_nil]); first | done | rfl | (simp only [List.length_drop, List.length_take]; rfl)) ?_; (with_reducible refine (stair_Height.calls a0_0 a0_1 a0_2 a0_3 a0_4 a0_5 t388 t389 t390 _ A4.out).mono ?_); rintro e w9 ⟨rfl, hb⟩; refine ⟨_, rfl, ?_⟩; have n0_ := Aside0.mk (blk_below (g := gb386) (o := .cells #[.int .i64 a0_0, .int .i64 a0_1, .int .i64 a0_2, .int .i64 a0_3, .int .i64 a0_4, .int .i64 a0_5] 27 (0, 0)) (by (with_reducible repeat (first | refine blk_drewN ?_ _ | refine blk_drew ?_ | refine blk_alloc ?_ _)); exact BK386.out) hb); have n1_ := Aside0.mk (below_step (by repeat (first | (with_reducible first | exact HB.out | apply below_alloc | apply pw_below_drewN | apply below_drew1 | refine below_set ?_ GE386.out) | exact HB.out)) hb); clear BK386; clear HB; have BK386 := n0_; have HB := n1_; clear n0_ n1_; (try clear hb); (try clear hb2); (try clear hk); (try clear hi)))
      go_loopg [6, 7, 8, 9] k (fun kq v6 v7 v8 v9 w' => ∃ (x6_1 : List Int) (x7_1 : Int) (x8_1 : Int) (x9_1 : Int), v7 = .int .i64 x7_1 ∧ v8 = .int .i64 x8_1 ∧ v9 = .int .i64 x9_1 ∧ Aside0 (gangsawlaw42_StairLevels.l0 kq t388 x6_1 x7_1 x8_1 x9_1 a0_0 a0_1 a0_2 a0_3 a0_4 a0_5 = some r) ∧ Aside0 (kq ≤ k) ∧ Aside0 (Kd.R (Kd.int .i64) 3 w' w.heap.size (fun _ => True) v6 x6_1) ∧ Aside0 (w'.heap[gb386]? = some (.cells #[.int .i64 a0_0, .int .i64 a0_1, .int .i64 a0_2, .int .i64 a0_3, .int .i64 a0_4, .int .i64 a0_5] 27 (0, 0))) ∧ Aside0 (Below w.heap.size w w'))
      case atStart => exact ⟨(([] : List Int)), (0), (0), (0), (by first | rfl | (simp; done) | (simp [*]; done)), (by first | rfl | (simp; done) | (simp [*]; done)), (by first | rfl | (simp; done) | (simp [*]; done)), H', ⟨Nat.le_refl _⟩, ⟨by first | exact Kd.R_nil _ _ _ _ _ | exact Kd.N_nil _ _ _ _ _ | exact Kd.V_nil _ _ _ _ _ | exact Kd.Q_nil _ _ _ _ _ | exact Kd.S_nil _ _ _ _ _⟩, ⟨by (with_reducible repeat (first | refine blk_drewN ?_ _ | refine blk_drew ?_ | refine blk_alloc ?_ _)); exact BK386.out⟩, ⟨by repeat (first | (with_reducible first | exact HB.out | apply below_alloc | apply pw_below_drewN | apply below_drew1 | refine below_set ?_ GE386.out) | exact HB.out)⟩⟩
      case round =>
        clear H'
        try clear c1
        try clear p2
        try clear c3
        try clear c5
        try clear c5b0
        try clear c5b1
        try clear c9
        try clear hcz8_0
        try clear hcz8_1
        try clear hcz8_2
        try clear hcz8_3
        try clear hcz8_4
        try clear hcz8_5
        try clear hfz8_0
        try clear hfz8_1
        try clear hfz8_2
        try clear hfz8_3
        try clear hfz8_4
        try clear hfz8_5
        obtain ⟨x6_1, x7_1, x8_1, x9_1, rfl, rfl, rfl, HA, HK1, HO_6, BK386, HB⟩ := hrel
        cases gk with
        | zero => exact absurd HA.out (by simp [gangsawlaw42_StairLevels.l0])
        | succ k1 =>
          have H := HA.out
          clear HA
          simp only [gangsawlaw42_StairLevels.l0] at H
          have HC10 := Aside0.mk H
          clear H
          go_upto_region 9 with (fail)
          go_cut [33] (fun v33 wc => ∃ (kq : Nat) (x33_9 : Bool), v33 = .bool x33_9 ∧ Aside0 (gangsawlaw42_StairLevels.j1 kq t388 x6_1 x7_1 x8_1 x9_1 x33_9 a0_0 a0_1 a0_2 a0_3 a0_4 a0_5 = some r) ∧ Aside0 (kq ≤ k1) ∧ Aside0 (Kd.R (Kd.int .i64) 3 wc w.heap.size (fun _ => True) u6 x6_1) ∧ Aside0 (wc.heap[gb386]? = some (.cells #[.int .i64 a0_0, .int .i64 a0_1, .int .i64 a0_2, .int .i64 a0_3, .int .i64 a0_4, .int .i64 a0_5] 27 (0, 0))) ∧ Aside0 (Below w.heap.size w wc))
          case first =>
            have H := HC10.out
            clear HC10
            by_cases c11 : x9_1 < a0_0
            · rw [if_pos c11] at H
              have c11b0 : decide (x9_1 < a0_0) = true := decide_eq_true c11
              clear c11
              (first | rw [c11b0] | (simp only [i64_w, i32_w]; rw [c11b0]) | skip)
              have H' := Aside0.mk H
              clear H
              have hcz12_0 : wr.cell? ⟨gb386, 0, none⟩ = some (.int .i64 a0_0) := (blk_cell BK386.out 0).trans rfl
              have hcz12_1 : wr.cell? ⟨gb386, 1, none⟩ = some (.int .i64 a0_1) := (blk_cell BK386.out 1).trans rfl
              have hcz12_2 : wr.cell? ⟨gb386, 2, none⟩ = some (.int .i64 a0_2) := (blk_cell BK386.out 2).trans rfl
              have hcz12_3 : wr.cell? ⟨gb386, 3, none⟩ = some (.int .i64 a0_3) := (blk_cell BK386.out 3).trans rfl
              have hcz12_4 : wr.cell? ⟨gb386, 4, none⟩ = some (.int .i64 a0_4) := (blk_cell BK386.out 4).trans rfl
              have hcz12_5 : wr.cell? ⟨gb386, 5, none⟩ = some (.int .i64 a0_5) := (blk_cell BK386.out 5).trans rfl
              have hfz12_0 := blk_frozen BK386.out 0
              have hfz12_1 := blk_frozen BK386.out 1
              have hfz12_2 := blk_frozen BK386.out 2
              have hfz12_3 := blk_frozen BK386.out 3
              have hfz12_4 := blk_frozen BK386.out 4
              have hfz12_5 := blk_frozen BK386.out 5
              go_wp2
              go_meet
              case rel => exact ⟨_, (decide (x9_1 < 100)), (by first | rfl | (simp; done) | (simp [*]; done)), H', ⟨by have := HK1.out; first | omega | exact Nat.le_refl _⟩, ⟨by (with_reducible repeat (first | apply Kd.R_alloc | apply Kd.R_drewN | apply Kd.R_drew)); exact HO_6.out⟩, ⟨by (with_reducible repeat (first | refine blk_drewN ?_ _ | refine blk_drew ?_ | refine blk_alloc ?_ _)); exact BK386.out⟩, ⟨by repeat (first | (with_reducible first | exact HB.out | apply below_alloc | apply pw_below_drewN | apply below_drew1 | refine below_set ?_ GE386.out) | exact HB.out)⟩⟩
            · rw [if_neg c11] at H
              have c11b0 : decide (x9_1 < a0_0) = false := decide_eq_false c11
              clear c11
              (first | rw [c11b0] | (simp only [i64_w, i32_w]; rw [c11b0]) | skip)
              have H' := Aside0.mk H
              clear H
              have hcz13_0 : wr.cell? ⟨gb386, 0, none⟩ = some (.int .i64 a0_0) := (blk_cell BK386.out 0).trans rfl
              have hcz13_1 : wr.cell? ⟨gb386, 1, none⟩ = some (.int .i64 a0_1) := (blk_cell BK386.out 1).trans rfl
              have hcz13_2 : wr.cell? ⟨gb386, 2, none⟩ = some (.int .i64 a0_2) := (blk_cell BK386.out 2).trans rfl
              have hcz13_3 : wr.cell? ⟨gb386, 3, none⟩ = some (.int .i64 a0_3) := (blk_cell BK386.out 3).trans rfl
              have hcz13_4 : wr.cell? ⟨gb386, 4, none⟩ = some (.int .i64 a0_4) := (blk_cell BK386.out 4).trans rfl
              have hcz13_5 : wr.cell? ⟨gb386, 5, none⟩ = some (.int .i64 a0_5) := (blk_cell BK386.out 5).trans rfl
              have hfz13_0 := blk_frozen BK386.out 0
              have hfz13_1 := blk_frozen BK386.out 1
              have hfz13_2 := blk_frozen BK386.out 2
              have hfz13_3 := blk_frozen BK386.out 3
              have hfz13_4 := blk_frozen BK386.out 4
              have hfz13_5 := blk_frozen BK386.out 5
              go_wp2
              go_meet
              case rel => exact ⟨_, (false), (by first | rfl | (simp; done) | (simp [*]; done)), H', ⟨by have := HK1.out; first | omega | exact Nat.le_refl _⟩, ⟨by (with_reducible repeat (first | apply Kd.R_alloc | apply Kd.R_drewN | apply Kd.R_drew)); exact HO_6.out⟩, ⟨by (with_reducible repeat (first | refine blk_drewN ?_ _ | refine blk_drew ?_ | refine blk_alloc ?_ _)); exact BK386.out⟩, ⟨by repeat (first | (with_reducible first | exact HB.out | apply below_alloc | apply pw_below_drewN | apply below_drew1 | refine below_set ?_ GE386.out) | exact HB.out)⟩⟩
          case rest =>
            clear HC10
            try clear c1
            try clear p2
            try clear c3
            try clear c5
            try clear c5b0
            try clear c5b1
            try clear c9
            try clear c11
            try clear c11b0
            try clear hcz12_0
            try clear hcz12_1
            try clear hcz12_2
            try clear hcz12_3
            try clear hcz12_4
            try clear hcz12_5
            try clear hcz13_0
            try clear hcz13_1
            try clear hcz13_2
            try clear hcz13_3
            try clear hcz13_4
            try clear hcz13_5
            try clear hcz8_0
            try clear hcz8_1
            try clear hcz8_2
            try clear hcz8_3
            try clear hcz8_4
            try clear hcz8_5
            try clear hfz12_0
            try clear hfz12_1
            try clear hfz12_2
            try clear hfz12_3
            try clear hfz12_4
            try clear hfz12_5
            try clear hfz13_0
            try clear hfz13_1
            try clear hfz13_2
            try clear hfz13_3
            try clear hfz13_4
            try clear hfz13_5
            try clear hfz8_0
            try clear hfz8_1
            try clear hfz8_2
            try clear hfz8_3
            try clear hfz8_4
            try clear hfz8_5
            try clear p2
            obtain ⟨kq, x33_9, rfl, HA, HJ9, HO_6, BK386, HB⟩ := hcut
            cases kq with
            | zero => exact absurd HA.out (by simp [gangsawlaw42_StairLevels.j1])
            | succ kj9 =>
              have H := HA.out
              clear HA
              simp only [gangsawlaw42_StairLevels.j1] at H
              by_cases c14 : x33_9 = true
              · subst c14
                have H1 : ((stair_Level.f a0_0 a0_1 a0_2 a0_3 a0_4 a0_5 x9_1).bind fun bt393 => (if bt393.2 = 0 then (if (wrap64 (bt393.1 - x7_1)) = a0_1 then (gangsawlaw42_StairLevels.j2 kj9 t388 x6_1 x7_1 x8_1 x9_1 bt393.1 false a0_0 a0_1 a0_2 a0_3 a0_4 a0_5) else (if (wrap64 (bt393.1 - x7_1)) = (wrap64 (a0_1 + 1)) then (gangsawlaw42_StairLevels.j2 kj9 t388 x6_1 x7_1 x8_1 x9_1 bt393.1 (x8_1 != x9_1) a0_0 a0_1 a0_2 a0_3 a0_4 a0_5) else (gangsawlaw42_StairLevels.j2 kj9 t388 x6_1 x7_1 x8_1 x9_1 bt393.1 true a0_0 a0_1 a0_2 a0_3 a0_4 a0_5))) else (gangsawlaw42_StairLevels.j2 kj9 t388 x6_1 x7_1 x8_1 x9_1 bt393.1 true a0_0 a0_1 a0_2 a0_3 a0_4 a0_5))) = some r := by rw [if_pos rfl] at H; exact H
                clear H
                have H := H1
                clear H1
                replace H := Option.bind_eq_some_iff.mp H
                obtain ⟨⟨t393, t394⟩, A150, H⟩ := H
                replace H : (if t394 = 0 then (if (wrap64 (t393 - x7_1)) = a0_1 then (gangsawlaw42_StairLevels.j2 kj9 t388 x6_1 x7_1 x8_1 x9_1 t393 false a0_0 a0_1 a0_2 a0_3 a0_4 a0_5) else (if (wrap64 (t393 - x7_1)) = (wrap64 (a0_1 + 1)) then (gangsawlaw42_StairLevels.j2 kj9 t388 x6_1 x7_1 x8_1 x9_1 t393 (x8_1 != x9_1) a0_0 a0_1 a0_2 a0_3 a0_4 a0_5) else (gangsawlaw42_StairLevels.j2 kj9 t388 x6_1 x7_1 x8_1 x9_1 t393 true a0_0 a0_1 a0_2 a0_3 a0_4 a0_5))) else (gangsawlaw42_StairLevels.j2 kj9 t388 x6_1 x7_1 x8_1 x9_1 t393 true a0_0 a0_1 a0_2 a0_3 a0_4 a0_5)) = some r := H
                have A15 := Aside0.mk A150
                clear A150
                have HC16 := Aside0.mk H
                clear H
                have hcz17_0 : wc.cell? ⟨gb386, 0, none⟩ = some (.int .i64 a0_0) := (blk_cell BK386.out 0).trans rfl
                have hcz17_1 : wc.cell? ⟨gb386, 1, none⟩ = some (.int .i64 a0_1) := (blk_cell BK386.out 1).trans rfl
                have hcz17_2 : wc.cell? ⟨gb386, 2, none⟩ = some (.int .i64 a0_2) := (blk_cell BK386.out 2).trans rfl
                have hcz17_3 : wc.cell? ⟨gb386, 3, none⟩ = some (.int .i64 a0_3) := (blk_cell BK386.out 3).trans rfl
                have hcz17_4 : wc.cell? ⟨gb386, 4, none⟩ = some (.int .i64 a0_4) := (blk_cell BK386.out 4).trans rfl
                have hcz17_5 : wc.cell? ⟨gb386, 5, none⟩ = some (.int .i64 a0_5) := (blk_cell BK386.out 5).trans rfl
                have hfz17_0 := blk_frozen BK386.out 0
                have hfz17_1 := blk_frozen BK386.out 1
                have hfz17_2 := blk_frozen BK386.out 2
                have hfz17_3 := blk_frozen BK386.out 3
                have hfz17_4 := blk_frozen BK386.out 4
                have hfz17_5 := blk_frozen BK386.out 5
                go_upto_region 12 with (first | ((with_reducible refine gate_callee (f := 17) rfl ?_); refine goesL_ (some 39) rfl rfl Try.func17 (by kernel_rfl) rfl #[.agg #[.int .i64 a0_0, .int .i64 a0_1, .int .i64 a0_2, .int .i64 a0_3, .int .i64 a0_4, .int .i64 a0_5], .int .i64 x9_1] rfl (by (try simp only [List.map_toArray, List.map_cons, List.map_nil]); first | done | rfl | (simp only [List.length_drop, List.length_take]; rfl)) ?_; (with_reducible refine (stair_Level.calls a0_0 a0_1 a0_2 a0_3 a0_4 a0_5 x9_1 t393 t394 _ A15.out).mono ?_); rintro e w18 ⟨rfl, hb⟩; refine ⟨_, rfl, ?_⟩; have n0_ := Aside0.mk (Kd.R_below (by (with_reducible repeat (first | apply Kd.R_alloc | apply Kd.R_drewN | apply Kd.R_drew)); exact HO_6.out) hb); have n1_ := Aside0.mk (blk_below (g := gb386) (o := .cells #[.int .i64 a0_0, .int .i64 a0_1, .int .i64 a0_2, .int .i64 a0_3, .int .i64 a0_4, .int .i64 a0_5] 27 (0, 0)) (by (with_reducible repeat (first | refine blk_drewN ?_ _ | refine blk_drew ?_ | refine blk_alloc ?_ _)); exact BK386.out) hb); have n2_ := Aside0.mk (below_step (by repeat (first | (with_reducible first | exact HB.out | apply below_alloc | apply pw_below_drewN | apply below_drew1 | refine below_set ?_ GE386.out) | exact HB.out)) hb); clear HO_6; clear BK386; clear HB; have HO_6 := n0_; have BK386 := n1_; have HB := n2_; clear n0_ n1_ n2_; (try clear hb); (try clear hb2); (try clear hk); (try clear hi)))
                (try simp only [Act.put, List.setIfInBounds_toArray, List.set_cons_zero, List.set_cons_succ])
                go_cut [65] (fun v65 wc => ∃ (kq : Nat) (x65_15 : Bool), v65 = .bool x65_15 ∧ Aside0 (gangsawlaw42_StairLevels.j2 kq t388 x6_1 x7_1 x8_1 x9_1 t393 x65_15 a0_0 a0_1 a0_2 a0_3 a0_4 a0_5 = some r) ∧ Aside0 (kq ≤ kj9) ∧ Aside0 (Kd.R (Kd.int .i64) 3 wc w.heap.size (fun _ => True) u6 x6_1) ∧ Aside0 (wc.heap[gb386]? = some (.cells #[.int .i64 a0_0, .int .i64 a0_1, .int .i64 a0_2, .int .i64 a0_3, .int .i64 a0_4, .int .i64 a0_5] 27 (0, 0))) ∧ Aside0 (Below w.heap.size w wc))
                case first =>
                  have H := HC16.out
                  clear HC16
                  by_cases c19 : t394 = 0
                  · rw [if_pos c19] at H
                    have c19b0 : (t394 == 0) = true := beq_iff_eq.mpr c19
                    have c19b1 : (t394 != 0) = false := bne_eq_false_iff_eq.mpr c19
                    clear c19
                    (first | rw [c19b0] | (simp only [i64_w, i32_w]; rw [c19b0]) | skip)
                    by_cases c20 : (wrap64 (t393 - x7_1)) = a0_1
                    · rw [if_pos c20] at H
                      have c20b0 : ((wrap64 (t393 - x7_1)) == a0_1) = true := beq_iff_eq.mpr c20
                      have c20b1 : ((wrap64 (t393 - x7_1)) != a0_1) = false := bne_eq_false_iff_eq.mpr c20
                      clear c20
                      have H' := Aside0.mk H
                      clear H
                      have hcz21_0 : w18.cell? ⟨gb386, 0, none⟩ = some (.int .i64 a0_0) := (blk_cell BK386.out 0).trans rfl
                      have hcz21_1 : w18.cell? ⟨gb386, 1, none⟩ = some (.int .i64 a0_1) := (blk_cell BK386.out 1).trans rfl
                      have hcz21_2 : w18.cell? ⟨gb386, 2, none⟩ = some (.int .i64 a0_2) := (blk_cell BK386.out 2).trans rfl
                      have hcz21_3 : w18.cell? ⟨gb386, 3, none⟩ = some (.int .i64 a0_3) := (blk_cell BK386.out 3).trans rfl
                      have hcz21_4 : w18.cell? ⟨gb386, 4, none⟩ = some (.int .i64 a0_4) := (blk_cell BK386.out 4).trans rfl
                      have hcz21_5 : w18.cell? ⟨gb386, 5, none⟩ = some (.int .i64 a0_5) := (blk_cell BK386.out 5).trans rfl
                      have hfz21_0 := blk_frozen BK386.out 0
                      have hfz21_1 := blk_frozen BK386.out 1
                      have hfz21_2 := blk_frozen BK386.out 2
                      have hfz21_3 := blk_frozen BK386.out 3
                      have hfz21_4 := blk_frozen BK386.out 4
                      have hfz21_5 := blk_frozen BK386.out 5
                      go_wp2
                      go_meet
                      case rel => exact ⟨_, (false), (by first | rfl | (simp; done) | (simp [*]; done)), H', ⟨by have := HK1.out; have := HJ9.out; first | omega | exact Nat.le_refl _⟩, ⟨by (with_reducible repeat (first | apply Kd.R_alloc | apply Kd.R_drewN | apply Kd.R_drew)); exact HO_6.out⟩, ⟨by (with_reducible repeat (first | refine blk_drewN ?_ _ | refine blk_drew ?_ | refine blk_alloc ?_ _)); exact BK386.out⟩, ⟨by repeat (first | (with_reducible first | exact HB.out | apply below_alloc | apply pw_below_drewN | apply below_drew1 | refine below_set ?_ GE386.out) | exact HB.out)⟩⟩
                    · rw [if_neg c20] at H
                      have c20b0 : ((wrap64 (t393 - x7_1)) == a0_1) = false := beq_eq_false_iff_ne.mpr c20
                      have c20b1 : ((wrap64 (t393 - x7_1)) != a0_1) = true := bne_iff_ne.mpr c20
                      by_cases c22 : (wrap64 (t393 - x7_1)) = (wrap64 (a0_1 + 1))
                      · rw [if_pos c22] at H
                        have c22b0 : ((wrap64 (t393 - x7_1)) == (wrap64 (a0_1 + 1))) = true := beq_iff_eq.mpr c22
                        have c22b1 : ((wrap64 (t393 - x7_1)) != (wrap64 (a0_1 + 1))) = false := bne_eq_false_iff_eq.mpr c22
                        clear c22
                        have H' := Aside0.mk H
                        clear H
                        have hcz23_0 : w18.cell? ⟨gb386, 0, none⟩ = some (.int .i64 a0_0) := (blk_cell BK386.out 0).trans rfl
                        have hcz23_1 : w18.cell? ⟨gb386, 1, none⟩ = some (.int .i64 a0_1) := (blk_cell BK386.out 1).trans rfl
                        have hcz23_2 : w18.cell? ⟨gb386, 2, none⟩ = some (.int .i64 a0_2) := (blk_cell BK386.out 2).trans rfl
                        have hcz23_3 : w18.cell? ⟨gb386, 3, none⟩ = some (.int .i64 a0_3) := (blk_cell BK386.out 3).trans rfl
                        have hcz23_4 : w18.cell? ⟨gb386, 4, none⟩ = some (.int .i64 a0_4) := (blk_cell BK386.out 4).trans rfl
                        have hcz23_5 : w18.cell? ⟨gb386, 5, none⟩ = some (.int .i64 a0_5) := (blk_cell BK386.out 5).trans rfl
                        have hfz23_0 := blk_frozen BK386.out 0
                        have hfz23_1 := blk_frozen BK386.out 1
                        have hfz23_2 := blk_frozen BK386.out 2
                        have hfz23_3 := blk_frozen BK386.out 3
                        have hfz23_4 := blk_frozen BK386.out 4
                        have hfz23_5 := blk_frozen BK386.out 5
                        go_wp2
                        go_meet
                        case rel => exact ⟨_, ((x8_1 != x9_1)), (by first | rfl | (simp; done) | (simp [*]; done)), H', ⟨by have := HK1.out; have := HJ9.out; first | omega | exact Nat.le_refl _⟩, ⟨by (with_reducible repeat (first | apply Kd.R_alloc | apply Kd.R_drewN | apply Kd.R_drew)); exact HO_6.out⟩, ⟨by (with_reducible repeat (first | refine blk_drewN ?_ _ | refine blk_drew ?_ | refine blk_alloc ?_ _)); exact BK386.out⟩, ⟨by repeat (first | (with_reducible first | exact HB.out | apply below_alloc | apply pw_below_drewN | apply below_drew1 | refine below_set ?_ GE386.out) | exact HB.out)⟩⟩
                      · rw [if_neg c22] at H
                        have c22b0 : ((wrap64 (t393 - x7_1)) == (wrap64 (a0_1 + 1))) = false := beq_eq_false_iff_ne.mpr c22
                        have c22b1 : ((wrap64 (t393 - x7_1)) != (wrap64 (a0_1 + 1))) = true := bne_iff_ne.mpr c22
                        have H' := Aside0.mk H
                        clear H
                        have hcz24_0 : w18.cell? ⟨gb386, 0, none⟩ = some (.int .i64 a0_0) := (blk_cell BK386.out 0).trans rfl
                        have hcz24_1 : w18.cell? ⟨gb386, 1, none⟩ = some (.int .i64 a0_1) := (blk_cell BK386.out 1).trans rfl
                        have hcz24_2 : w18.cell? ⟨gb386, 2, none⟩ = some (.int .i64 a0_2) := (blk_cell BK386.out 2).trans rfl
                        have hcz24_3 : w18.cell? ⟨gb386, 3, none⟩ = some (.int .i64 a0_3) := (blk_cell BK386.out 3).trans rfl
                        have hcz24_4 : w18.cell? ⟨gb386, 4, none⟩ = some (.int .i64 a0_4) := (blk_cell BK386.out 4).trans rfl
                        have hcz24_5 : w18.cell? ⟨gb386, 5, none⟩ = some (.int .i64 a0_5) := (blk_cell BK386.out 5).trans rfl
                        have hfz24_0 := blk_frozen BK386.out 0
                        have hfz24_1 := blk_frozen BK386.out 1
                        have hfz24_2 := blk_frozen BK386.out 2
                        have hfz24_3 := blk_frozen BK386.out 3
                        have hfz24_4 := blk_frozen BK386.out 4
                        have hfz24_5 := blk_frozen BK386.out 5
                        go_wp2
                        go_meet
                        case rel => exact ⟨_, (true), (by first | rfl | (simp; done) | (simp [*]; done)), H', ⟨by have := HK1.out; have := HJ9.out; first | omega | exact Nat.le_refl _⟩, ⟨by (with_reducible repeat (first | apply Kd.R_alloc | apply Kd.R_drewN | apply Kd.R_drew)); exact HO_6.out⟩, ⟨by (with_reducible repeat (first | refine blk_drewN ?_ _ | refine blk_drew ?_ | refine blk_alloc ?_ _)); exact BK386.out⟩, ⟨by repeat (first | (with_reducible first | exact HB.out | apply below_alloc | apply pw_below_drewN | apply below_drew1 | refine below_set ?_ GE386.out) | exact HB.out)⟩⟩
                  · rw [if_neg c19] at H
                    have c19b0 : (t394 == 0) = false := beq_eq_false_iff_ne.mpr c19
                    have c19b1 : (t394 != 0) = true := bne_iff_ne.mpr c19
                    (first | rw [c19b0] | (simp only [i64_w, i32_w]; rw [c19b0]) | skip)
                    have H' := Aside0.mk H
                    clear H
                    go_wp2
                    go_meet
                    case rel => exact ⟨_, (true), (by first | rfl | (simp; done) | (simp [*]; done)), H', ⟨by have := HK1.out; have := HJ9.out; first | omega | exact Nat.le_refl _⟩, ⟨by (with_reducible repeat (first | apply Kd.R_alloc | apply Kd.R_drewN | apply Kd.R_drew)); exact HO_6.out⟩, ⟨by (with_reducible repeat (first | refine blk_drewN ?_ _ | refine blk_drew ?_ | refine blk_alloc ?_ _)); exact BK386.out⟩, ⟨by repeat (first | (with_reducible first | exact HB.out | apply below_alloc | apply pw_below_drewN | apply below_drew1 | refine below_set ?_ GE386.out) | exact HB.out)⟩⟩
                case rest =>
                  clear HC16
                  try clear c1
                  try clear c2
                  try clear p2
                  try clear c3
                  try clear c5
                  try clear c5b0
                  try clear c5b1
                  try clear p6
                  try clear c9
                  try clear c11
                  try clear c11b0
                  try clear c14
                  try clear c16
                  try clear c17
                  try clear c19
                  try clear c19b0
                  try clear c19b1
                  try clear c20
                  try clear c20b0
                  try clear c20b1
                  try clear c22
                  try clear c22b0
                  try clear c22b1
                  try clear hcz12_0
                  try clear hcz12_1
                  try clear hcz12_2
                  try clear hcz12_3
                  try clear hcz12_4
                  try clear hcz12_5
                  try clear hcz13_0
                  try clear hcz13_1
                  try clear hcz13_2
                  try clear hcz13_3
                  try clear hcz13_4
                  try clear hcz13_5
                  try clear hcz17_0
                  try clear hcz17_1
                  try clear hcz17_2
                  try clear hcz17_3
                  try clear hcz17_4
                  try clear hcz17_5
                  try clear hcz21_0
                  try clear hcz21_1
                  try clear hcz21_2
                  try clear hcz21_3
                  try clear hcz21_4
                  try clear hcz21_5
                  try clear hcz23_0
                  try clear hcz23_1
                  try clear hcz23_2
                  try clear hcz23_3
                  try clear hcz23_4
                  try clear hcz23_5
                  try clear hcz24_0
                  try clear hcz24_1
                  try clear hcz24_2
                  try clear hcz24_3
                  try clear hcz24_4
                  try clear hcz24_5
                  try clear hcz8_0
                  try clear hcz8_1
                  try clear hcz8_2
                  try clear hcz8_3
                  try clear hcz8_4
                  try clear hcz8_5
                  try clear hfz12_0
                  try clear hfz12_1
                  try clear hfz12_2
                  try clear hfz12_3
                  try clear hfz12_4
                  try clear hfz12_5
                  try clear hfz13_0
                  try clear hfz13_1
                  try clear hfz13_2
                  try clear hfz13_3
                  try clear hfz13_4
                  try clear hfz13_5
                  try clear hfz17_0
                  try clear hfz17_1
                  try clear hfz17_2
                  try clear hfz17_3
                  try clear hfz17_4
                  try clear hfz17_5
                  try clear hfz21_0
                  try clear hfz21_1
                  try clear hfz21_2
                  try clear hfz21_3
                  try clear hfz21_4
                  try clear hfz21_5
                  try clear hfz23_0
                  try clear hfz23_1
                  try clear hfz23_2
                  try clear hfz23_3
                  try clear hfz23_4
                  try clear hfz23_5
                  try clear hfz24_0
                  try clear hfz24_1
                  try clear hfz24_2
                  try clear hfz24_3
                  try clear hfz24_4
                  try clear hfz24_5
                  try clear hfz8_0
                  try clear hfz8_1
                  try clear hfz8_2
                  try clear hfz8_3
                  try clear hfz8_4
                  try clear hfz8_5
                  try clear p2
                  obtain ⟨kq, x65_15, rfl, HA, HJ15, HO_6, BK386, HB⟩ := hcut
                  cases kq with
                  | zero => exact absurd HA.out (by simp [gangsawlaw42_StairLevels.j2])
                  | succ kj15 =>
                    have H := HA.out
                    clear HA
                    simp only [gangsawlaw42_StairLevels.j2] at H
                    by_cases c25 : x65_15 = true
                    · subst c25
                      have H1 : (some false) = some r := by rw [if_pos rfl] at H; exact H
                      clear H
                      have H := H1
                      clear H1
                      obtain rfl := Option.some.inj H
                      go_wp2
                      go_ret
                      exact ⟨by first | rfl | (simp [errW_none, errW_some] <;> rfl) | (simp [*, errW_none, errW_some] <;> rfl), by repeat (first | (with_reducible first | exact HB.out | apply below_alloc | apply pw_below_drewN | apply below_drew1 | refine below_set ?_ GE386.out) | exact HB.out)⟩
                    · replace c25 := Bool.eq_false_iff.mpr c25
                      subst c25
                      have H1 : (if (wrap64 (t393 - x7_1)) = (wrap64 (a0_1 + 1)) then (if x6_1.length < 17592186044416 then (gangsawlaw42_StairLevels.l0 kj15 t388 (x6_1 ++ [t393]) t393 (wrap64 (x8_1 + 1)) (wrap64 (x9_1 + 1)) a0_0 a0_1 a0_2 a0_3 a0_4 a0_5) else (none)) else (if x6_1.length < 17592186044416 then (gangsawlaw42_StairLevels.l0 kj15 t388 (x6_1 ++ [t393]) t393 x8_1 (wrap64 (x9_1 + 1)) a0_0 a0_1 a0_2 a0_3 a0_4 a0_5) else (none))) = some r := by rw [if_neg (show ¬ (false = true) by decide)] at H; exact H
                      clear H
                      have H := H1
                      clear H1
                      by_cases c26 : (wrap64 (t393 - x7_1)) = (wrap64 (a0_1 + 1))
                      · rw [if_pos c26] at H
                        have c26b0 : ((wrap64 (t393 - x7_1)) == (wrap64 (a0_1 + 1))) = true := beq_iff_eq.mpr c26
                        have c26b1 : ((wrap64 (t393 - x7_1)) != (wrap64 (a0_1 + 1))) = false := bne_eq_false_iff_eq.mpr c26
                        clear c26
                        by_cases c27 : x6_1.length < 17592186044416
                        · rw [if_pos c27] at H
                          have LMc27 := Aside0.mk c27
                          clear c27
                          obtain ⟨y395, hy395⟩ : ∃ y_ : List Int, y_ = (x6_1 ++ [t393]) := ⟨_, rfl⟩
                          replace H : (gangsawlaw42_StairLevels.l0 kj15 t388 y395 t393 (wrap64 (x8_1 + 1)) (wrap64 (x9_1 + 1)) a0_0 a0_1 a0_2 a0_3 a0_4 a0_5) = some r := by first | (rw [hy395]; with_reducible exact H) | (have H2_ := (Option.bind_some _ _).symm.trans H; rw [hy395]; with_reducible exact H2_) | (have H2_ := (Option.bind_some _ _).symm.trans H; with_reducible exact H2_) | with_reducible exact H | (rw [hy395]; exact H) | exact H
                          have Ny395 := Aside0.mk hy395
                          clear hy395
                          have H' := Aside0.mk H
                          clear H
                          have hcz28_0 : wc.cell? ⟨gb386, 0, none⟩ = some (.int .i64 a0_0) := (blk_cell BK386.out 0).trans rfl
                          have hcz28_1 : wc.cell? ⟨gb386, 1, none⟩ = some (.int .i64 a0_1) := (blk_cell BK386.out 1).trans rfl
                          have hcz28_2 : wc.cell? ⟨gb386, 2, none⟩ = some (.int .i64 a0_2) := (blk_cell BK386.out 2).trans rfl
                          have hcz28_3 : wc.cell? ⟨gb386, 3, none⟩ = some (.int .i64 a0_3) := (blk_cell BK386.out 3).trans rfl
                          have hcz28_4 : wc.cell? ⟨gb386, 4, none⟩ = some (.int .i64 a0_4) := (blk_cell BK386.out 4).trans rfl
                          have hcz28_5 : wc.cell? ⟨gb386, 5, none⟩ = some (.int .i64 a0_5) := (blk_cell BK386.out 5).trans rfl
                          have hfz28_0 := blk_frozen BK386.out 0
                          have hfz28_1 := blk_frozen BK386.out 1
                          have hfz28_2 := blk_frozen BK386.out 2
                          have hfz28_3 := blk_frozen BK386.out 3
                          have hfz28_4 := blk_frozen BK386.out 4
                          have hfz28_5 := blk_frozen BK386.out 5
                          go_wp2_with (first | ((with_reducible refine gate_builtin (b := .append) (xs := #[.tmp 75, .tmp 77]) rfl ?_); at_builtin; refine Kd.R_append (Kd.int .i64) (w0 := w) w.heap.size rfl (.tmp 75) (.tmp 77) 57 3 (.int .i64 0) 8 rfl Try.underlying57 info3 rfl (by decide) (by omega) u6 x6_1 t393 [.int .i64 t393] (fun _ => True) (fun _ => False) rfl rfl ?aP (fun _ hk => hk.elim) ?aF ?aO ?aB ?aS ?aL ?_; (case aP => exact rfl); (case aB => exact (by repeat (first | (with_reducible first | exact HB.out | apply below_alloc | apply pw_below_drewN | apply below_drew1 | refine below_set ?_ GE386.out) | exact HB.out))); (case aF => exact (fun _ _ => trivial)); (case aO => exact (by (with_reducible repeat (first | apply Kd.R_alloc | apply Kd.R_drewN | apply Kd.R_drew)); exact HO_6.out)); (case aS => exact (below_size (by repeat (first | (with_reducible first | exact HB.out | apply below_alloc | apply pw_below_drewN | apply below_drew1 | refine below_set ?_ GE386.out) | exact HB.out)))); (case aL => have := LMc27.out; omega); intro v396 w29 ho hb hg hat; rw [← Ny395.out] at ho; have n0_ := Aside0.mk (blk_grown (g := gb386) (o := .cells #[.int .i64 a0_0, .int .i64 a0_1, .int .i64 a0_2, .int .i64 a0_3, .int .i64 a0_4, .int .i64 a0_5] 27 (0, 0)) (by (with_reducible repeat (first | refine blk_drewN ?_ _ | refine blk_drew ?_ | refine blk_alloc ?_ _)); exact BK386.out) hg (Kd.R_ne HO_6.out BK386.out (by decide))); have n1_ := Aside0.mk (hb); have n2_ := Aside0.mk (ho); clear BK386; clear HB; clear HO_6; have BK386 := n0_; have HB := n1_; have HO397 := n2_; clear n0_ n1_ n2_; clear ho hb hg hat))
                          go_roundg kj15
                          case measure => have := HK1.out; have := HJ9.out; have := HJ15.out; omega
                          case rel => exact ⟨(y395), (t393), (wrap64 (x8_1 + 1)), (wrap64 (x9_1 + 1)), (by first | rfl | (simp; done) | (simp [*]; done)), (by first | rfl | (simp; done) | (simp [*]; done)), (by first | rfl | (simp; done) | (simp [*]; done)), H', ⟨by have := HK1.out; have := HJ9.out; have := HJ15.out; omega⟩, ⟨by (with_reducible repeat (first | apply Kd.R_alloc | apply Kd.R_drewN | apply Kd.R_drew)); exact HO397.out⟩, ⟨by (with_reducible repeat (first | refine blk_drewN ?_ _ | refine blk_drew ?_ | refine blk_alloc ?_ _)); exact BK386.out⟩, ⟨by repeat (first | (with_reducible first | exact HB.out | apply below_alloc | apply pw_below_drewN | apply below_drew1 | refine below_set ?_ GE386.out) | exact HB.out)⟩⟩
                        · rw [if_neg c27] at H
                          exact absurd H (by simp)
                      · rw [if_neg c26] at H
                        have c26b0 : ((wrap64 (t393 - x7_1)) == (wrap64 (a0_1 + 1))) = false := beq_eq_false_iff_ne.mpr c26
                        have c26b1 : ((wrap64 (t393 - x7_1)) != (wrap64 (a0_1 + 1))) = true := bne_iff_ne.mpr c26
                        by_cases c30 : x6_1.length < 17592186044416
                        · rw [if_pos c30] at H
                          have LMc30 := Aside0.mk c30
                          clear c30
                          obtain ⟨y398, hy398⟩ : ∃ y_ : List Int, y_ = (x6_1 ++ [t393]) := ⟨_, rfl⟩
                          replace H : (gangsawlaw42_StairLevels.l0 kj15 t388 y398 t393 x8_1 (wrap64 (x9_1 + 1)) a0_0 a0_1 a0_2 a0_3 a0_4 a0_5) = some r := by first | (rw [hy398]; with_reducible exact H) | (have H2_ := (Option.bind_some _ _).symm.trans H; rw [hy398]; with_reducible exact H2_) | (have H2_ := (Option.bind_some _ _).symm.trans H; with_reducible exact H2_) | with_reducible exact H | (rw [hy398]; exact H) | exact H
                          have Ny398 := Aside0.mk hy398
                          clear hy398
                          have H' := Aside0.mk H
                          clear H
                          have hcz31_0 : wc.cell? ⟨gb386, 0, none⟩ = some (.int .i64 a0_0) := (blk_cell BK386.out 0).trans rfl
                          have hcz31_1 : wc.cell? ⟨gb386, 1, none⟩ = some (.int .i64 a0_1) := (blk_cell BK386.out 1).trans rfl
                          have hcz31_2 : wc.cell? ⟨gb386, 2, none⟩ = some (.int .i64 a0_2) := (blk_cell BK386.out 2).trans rfl
                          have hcz31_3 : wc.cell? ⟨gb386, 3, none⟩ = some (.int .i64 a0_3) := (blk_cell BK386.out 3).trans rfl
                          have hcz31_4 : wc.cell? ⟨gb386, 4, none⟩ = some (.int .i64 a0_4) := (blk_cell BK386.out 4).trans rfl
                          have hcz31_5 : wc.cell? ⟨gb386, 5, none⟩ = some (.int .i64 a0_5) := (blk_cell BK386.out 5).trans rfl
                          have hfz31_0 := blk_frozen BK386.out 0
                          have hfz31_1 := blk_frozen BK386.out 1
                          have hfz31_2 := blk_frozen BK386.out 2
                          have hfz31_3 := blk_frozen BK386.out 3
                          have hfz31_4 := blk_frozen BK386.out 4
                          have hfz31_5 := blk_frozen BK386.out 5
                          go_wp2_with (first | ((with_reducible refine gate_builtin (b := .append) (xs := #[.tmp 75, .tmp 77]) rfl ?_); at_builtin; refine Kd.R_append (Kd.int .i64) (w0 := w) w.heap.size rfl (.tmp 75) (.tmp 77) 57 3 (.int .i64 0) 8 rfl Try.underlying57 info3 rfl (by decide) (by omega) u6 x6_1 t393 [.int .i64 t393] (fun _ => True) (fun _ => False) rfl rfl ?aP (fun _ hk => hk.elim) ?aF ?aO ?aB ?aS ?aL ?_; (case aP => exact rfl); (case aB => exact (by repeat (first | (with_reducible first | exact HB.out | apply below_alloc | apply pw_below_drewN | apply below_drew1 | refine below_set ?_ GE386.out) | exact HB.out))); (case aF => exact (fun _ _ => trivial)); (case aO => exact (by (with_reducible repeat (first | apply Kd.R_alloc | apply Kd.R_drewN | apply Kd.R_drew)); exact HO_6.out)); (case aS => exact (below_size (by repeat (first | (with_reducible first | exact HB.out | apply below_alloc | apply pw_below_drewN | apply below_drew1 | refine below_set ?_ GE386.out) | exact HB.out)))); (case aL => have := LMc30.out; omega); intro v399 w32 ho hb hg hat; rw [← Ny398.out] at ho; have n0_ := Aside0.mk (blk_grown (g := gb386) (o := .cells #[.int .i64 a0_0, .int .i64 a0_1, .int .i64 a0_2, .int .i64 a0_3, .int .i64 a0_4, .int .i64 a0_5] 27 (0, 0)) (by (with_reducible repeat (first | refine blk_drewN ?_ _ | refine blk_drew ?_ | refine blk_alloc ?_ _)); exact BK386.out) hg (Kd.R_ne HO_6.out BK386.out (by decide))); have n1_ := Aside0.mk (hb); have n2_ := Aside0.mk (ho); clear BK386; clear HB; clear HO_6; have BK386 := n0_; have HB := n1_; have HO400 := n2_; clear n0_ n1_ n2_; clear ho hb hg hat))
                          go_roundg kj15
                          case measure => have := HK1.out; have := HJ9.out; have := HJ15.out; omega
                          case rel => exact ⟨(y398), (t393), (x8_1), (wrap64 (x9_1 + 1)), (by first | rfl | (simp; done) | (simp [*]; done)), (by first | rfl | (simp; done) | (simp [*]; done)), (by first | rfl | (simp; done) | (simp [*]; done)), H', ⟨by have := HK1.out; have := HJ9.out; have := HJ15.out; omega⟩, ⟨by (with_reducible repeat (first | apply Kd.R_alloc | apply Kd.R_drewN | apply Kd.R_drew)); exact HO400.out⟩, ⟨by (with_reducible repeat (first | refine blk_drewN ?_ _ | refine blk_drew ?_ | refine blk_alloc ?_ _)); exact BK386.out⟩, ⟨by repeat (first | (with_reducible first | exact HB.out | apply below_alloc | apply pw_below_drewN | apply below_drew1 | refine below_set ?_ GE386.out) | exact HB.out)⟩⟩
                        · rw [if_neg c30] at H
                          exact absurd H (by simp)
              · replace c14 := Bool.eq_false_iff.mpr c14
                subst c14
                have H1 : ((stair_Even.f kj9 x6_1).bind fun bt391 => (if x7_1 = t388 then (if x8_1 = a0_2 then (if (x6_1.length : Int) < 2 then (if bt391.2 = 9 then (some true) else (if bt391.2 = 0 then (some (decide (bt391.1 ≤ 1))) else (some false))) else (if bt391.2 = 0 then (some (decide (bt391.1 ≤ 1))) else (some false))) else (some false)) else (some false))) = some r := by rw [if_neg (show ¬ (false = true) by decide)] at H; exact H
                clear H
                have H := H1
                clear H1
                replace H := Option.bind_eq_some_iff.mp H
                obtain ⟨⟨t391, t392⟩, A330, H⟩ := H
                replace H : (if x7_1 = t388 then (if x8_1 = a0_2 then (if (x6_1.length : Int) < 2 then (if t392 = 9 then (some true) else (if t392 = 0 then (some (decide (t391 ≤ 1))) else (some false))) else (if t392 = 0 then (some (decide (t391 ≤ 1))) else (some false))) else (some false)) else (some false)) = some r := H
                have A33 := Aside0.mk A330
                clear A330
                by_cases c34 : x7_1 = t388
                · rw [if_pos c34] at H
                  have c34b0 : (x7_1 == t388) = true := beq_iff_eq.mpr c34
                  have c34b1 : (x7_1 != t388) = false := bne_eq_false_iff_eq.mpr c34
                  clear c34
                  by_cases c35 : x8_1 = a0_2
                  · rw [if_pos c35] at H
                    have c35b0 : (x8_1 == a0_2) = true := beq_iff_eq.mpr c35
                    have c35b1 : (x8_1 != a0_2) = false := bne_eq_false_iff_eq.mpr c35
                    clear c35
                    by_cases c36 : (x6_1.length : Int) < 2
                    · rw [if_pos c36] at H
                      have c36b0 : decide ((x6_1.length : Int) < 2) = true := decide_eq_true c36
                      have c36b1 : decide (x6_1.length < 2) = true := decide_eq_true (by omega)
                      clear c36
                      by_cases c37 : t392 = 9
                      · rw [if_pos c37] at H
                        have c37b0 : (t392 == 9) = true := beq_iff_eq.mpr c37
                        have c37b1 : (t392 != 9) = false := bne_eq_false_iff_eq.mpr c37
                        clear c37
                        obtain rfl := Option.some.inj H
                        obtain ⟨Ao38, co38, eo38⟩ := Kd.R_slice HO_6.out
                        subst eo38
                        go_wp2_with (first | ((with_reducible refine gate_callee (f := 27) rfl ?_); refine goesL_ (some 82) rfl rfl Try.func27 (by kernel_rfl) rfl #[.slice Ao38 x6_1.length co38] rfl (by (try simp only [List.map_toArray, List.map_cons, List.map_nil]); first | done | rfl | (simp only [List.length_drop, List.length_take]; rfl)) ?_; (with_reducible refine (stair_Even.calls kj9 _ _ x6_1 t391 t392 _ ?side1 ?side2 A33.out).mono ?_); (case side1 => repeat (first | exact (Kd.R_reads' HO_6.out).2.2 | (with_reducible refine Kd.C_alloc ?_ _) | (with_reducible refine Kd.C_drewN ?_ _) | (with_reducible refine Kd.C_drew ?_))); (case side2 => exact (Kd.R_reads' HO_6.out).2.1); rintro e w39 ⟨rfl, hb⟩; refine ⟨_, rfl, ?_⟩; have n0_ := Aside0.mk (Kd.R_below (by (with_reducible repeat (first | apply Kd.R_alloc | apply Kd.R_drewN | apply Kd.R_drew)); exact HO_6.out) hb); have n1_ := Aside0.mk (blk_below (g := gb386) (o := .cells #[.int .i64 a0_0, .int .i64 a0_1, .int .i64 a0_2, .int .i64 a0_3, .int .i64 a0_4, .int .i64 a0_5] 27 (0, 0)) (by (with_reducible repeat (first | refine blk_drewN ?_ _ | refine blk_drew ?_ | refine blk_alloc ?_ _)); exact BK386.out) hb); have n2_ := Aside0.mk (below_step (by repeat (first | (with_reducible first | exact HB.out | apply below_alloc | apply pw_below_drewN | apply below_drew1 | refine below_set ?_ GE386.out) | exact HB.out)) hb); clear HO_6; clear BK386; clear HB; have HO_6 := n0_; have BK386 := n1_; have HB := n2_; clear n0_ n1_ n2_; (try clear hb); (try clear hb2); (try clear hk); (try clear hi); have hcz40_0 : w39.cell? ⟨gb386, 0, none⟩ = some (.int .i64 a0_0) := (blk_cell BK386.out 0).trans rfl; have hcz40_1 : w39.cell? ⟨gb386, 1, none⟩ = some (.int .i64 a0_1) := (blk_cell BK386.out 1).trans rfl; have hcz40_2 : w39.cell? ⟨gb386, 2, none⟩ = some (.int .i64 a0_2) := (blk_cell BK386.out 2).trans rfl; have hcz40_3 : w39.cell? ⟨gb386, 3, none⟩ = some (.int .i64 a0_3) := (blk_cell BK386.out 3).trans rfl; have hcz40_4 : w39.cell? ⟨gb386, 4, none⟩ = some (.int .i64 a0_4) := (blk_cell BK386.out 4).trans rfl; have hcz40_5 : w39.cell? ⟨gb386, 5, none⟩ = some (.int .i64 a0_5) := (blk_cell BK386.out 5).trans rfl; have hfz40_0 := blk_frozen BK386.out 0; have hfz40_1 := blk_frozen BK386.out 1; have hfz40_2 := blk_frozen BK386.out 2; have hfz40_3 := blk_frozen BK386.out 3; have hfz40_4 := blk_frozen BK386.out 4; have hfz40_5 := blk_frozen BK386.out 5))
                        go_ret
                        exact ⟨by first | rfl | (simp [errW_none, errW_some] <;> rfl) | (simp [*, errW_none, errW_some] <;> rfl), by repeat (first | (with_reducible first | exact HB.out | apply below_alloc | apply pw_below_drewN | apply below_drew1 | refine below_set ?_ GE386.out) | exact HB.out)⟩
                      · rw [if_neg c37] at H
                        have c37b0 : (t392 == 9) = false := beq_eq_false_iff_ne.mpr c37
                        have c37b1 : (t392 != 9) = true := bne_iff_ne.mpr c37
                        by_cases c41 : t392 = 0
                        · rw [if_pos c41] at H
                          have c41b0 : (t392 == 0) = true := beq_iff_eq.mpr c41
                          have c41b1 : (t392 != 0) = false := bne_eq_false_iff_eq.mpr c41
                          clear c41
                          obtain rfl := Option.some.inj H
                          obtain ⟨Ao42, co42, eo42⟩ := Kd.R_slice HO_6.out
                          subst eo42
                          go_wp2_with (first | ((with_reducible refine gate_callee (f := 27) rfl ?_); refine goesL_ (some 82) rfl rfl Try.func27 (by kernel_rfl) rfl #[.slice Ao42 x6_1.length co42] rfl (by (try simp only [List.map_toArray, List.map_cons, List.map_nil]); first | done | rfl | (simp only [List.length_drop, List.length_take]; rfl)) ?_; (with_reducible refine (stair_Even.calls kj9 _ _ x6_1 t391 t392 _ ?side1 ?side2 A33.out).mono ?_); (case side1 => repeat (first | exact (Kd.R_reads' HO_6.out).2.2 | (with_reducible refine Kd.C_alloc ?_ _) | (with_reducible refine Kd.C_drewN ?_ _) | (with_reducible refine Kd.C_drew ?_))); (case side2 => exact (Kd.R_reads' HO_6.out).2.1); rintro e w43 ⟨rfl, hb⟩; refine ⟨_, rfl, ?_⟩; have n0_ := Aside0.mk (Kd.R_below (by (with_reducible repeat (first | apply Kd.R_alloc | apply Kd.R_drewN | apply Kd.R_drew)); exact HO_6.out) hb); have n1_ := Aside0.mk (blk_below (g := gb386) (o := .cells #[.int .i64 a0_0, .int .i64 a0_1, .int .i64 a0_2, .int .i64 a0_3, .int .i64 a0_4, .int .i64 a0_5] 27 (0, 0)) (by (with_reducible repeat (first | refine blk_drewN ?_ _ | refine blk_drew ?_ | refine blk_alloc ?_ _)); exact BK386.out) hb); have n2_ := Aside0.mk (below_step (by repeat (first | (with_reducible first | exact HB.out | apply below_alloc | apply pw_below_drewN | apply below_drew1 | refine below_set ?_ GE386.out) | exact HB.out)) hb); clear HO_6; clear BK386; clear HB; have HO_6 := n0_; have BK386 := n1_; have HB := n2_; clear n0_ n1_ n2_; (try clear hb); (try clear hb2); (try clear hk); (try clear hi); have hcz44_0 : w43.cell? ⟨gb386, 0, none⟩ = some (.int .i64 a0_0) := (blk_cell BK386.out 0).trans rfl; have hcz44_1 : w43.cell? ⟨gb386, 1, none⟩ = some (.int .i64 a0_1) := (blk_cell BK386.out 1).trans rfl; have hcz44_2 : w43.cell? ⟨gb386, 2, none⟩ = some (.int .i64 a0_2) := (blk_cell BK386.out 2).trans rfl; have hcz44_3 : w43.cell? ⟨gb386, 3, none⟩ = some (.int .i64 a0_3) := (blk_cell BK386.out 3).trans rfl; have hcz44_4 : w43.cell? ⟨gb386, 4, none⟩ = some (.int .i64 a0_4) := (blk_cell BK386.out 4).trans rfl; have hcz44_5 : w43.cell? ⟨gb386, 5, none⟩ = some (.int .i64 a0_5) := (blk_cell BK386.out 5).trans rfl; have hfz44_0 := blk_frozen BK386.out 0; have hfz44_1 := blk_frozen BK386.out 1; have hfz44_2 := blk_frozen BK386.out 2; have hfz44_3 := blk_frozen BK386.out 3; have hfz44_4 := blk_frozen BK386.out 4; have hfz44_5 := blk_frozen BK386.out 5))
                          go_ret
                          exact ⟨by first | rfl | (simp [errW_none, errW_some] <;> rfl) | (simp [*, errW_none, errW_some] <;> rfl), by repeat (first | (with_reducible first | exact HB.out | apply below_alloc | apply pw_below_drewN | apply below_drew1 | refine below_set ?_ GE386.out) | exact HB.out)⟩
                        · rw [if_neg c41] at H
                          have c41b0 : (t392 == 0) = false := beq_eq_false_iff_ne.mpr c41
                          have c41b1 : (t392 != 0) = true := bne_iff_ne.mpr c41
                          obtain rfl := Option.some.inj H
                          obtain ⟨Ao45, co45, eo45⟩ := Kd.R_slice HO_6.out
                          subst eo45
                          go_wp2_with (first | ((with_reducible refine gate_callee (f := 27) rfl ?_); refine goesL_ (some 82) rfl rfl Try.func27 (by kernel_rfl) rfl #[.slice Ao45 x6_1.length co45] rfl (by (try simp only [List.map_toArray, List.map_cons, List.map_nil]); first | done | rfl | (simp only [List.length_drop, List.length_take]; rfl)) ?_; (with_reducible refine (stair_Even.calls kj9 _ _ x6_1 t391 t392 _ ?side1 ?side2 A33.out).mono ?_); (case side1 => repeat (first | exact (Kd.R_reads' HO_6.out).2.2 | (with_reducible refine Kd.C_alloc ?_ _) | (with_reducible refine Kd.C_drewN ?_ _) | (with_reducible refine Kd.C_drew ?_))); (case side2 => exact (Kd.R_reads' HO_6.out).2.1); rintro e w46 ⟨rfl, hb⟩; refine ⟨_, rfl, ?_⟩; have n0_ := Aside0.mk (Kd.R_below (by (with_reducible repeat (first | apply Kd.R_alloc | apply Kd.R_drewN | apply Kd.R_drew)); exact HO_6.out) hb); have n1_ := Aside0.mk (blk_below (g := gb386) (o := .cells #[.int .i64 a0_0, .int .i64 a0_1, .int .i64 a0_2, .int .i64 a0_3, .int .i64 a0_4, .int .i64 a0_5] 27 (0, 0)) (by (with_reducible repeat (first | refine blk_drewN ?_ _ | refine blk_drew ?_ | refine blk_alloc ?_ _)); exact BK386.out) hb); have n2_ := Aside0.mk (below_step (by repeat (first | (with_reducible first | exact HB.out | apply below_alloc | apply pw_below_drewN | apply below_drew1 | refine below_set ?_ GE386.out) | exact HB.out)) hb); clear HO_6; clear BK386; clear HB; have HO_6 := n0_; have BK386 := n1_; have HB := n2_; clear n0_ n1_ n2_; (try clear hb); (try clear hb2); (try clear hk); (try clear hi); have hcz47_0 : w46.cell? ⟨gb386, 0, none⟩ = some (.int .i64 a0_0) := (blk_cell BK386.out 0).trans rfl; have hcz47_1 : w46.cell? ⟨gb386, 1, none⟩ = some (.int .i64 a0_1) := (blk_cell BK386.out 1).trans rfl; have hcz47_2 : w46.cell? ⟨gb386, 2, none⟩ = some (.int .i64 a0_2) := (blk_cell BK386.out 2).trans rfl; have hcz47_3 : w46.cell? ⟨gb386, 3, none⟩ = some (.int .i64 a0_3) := (blk_cell BK386.out 3).trans rfl; have hcz47_4 : w46.cell? ⟨gb386, 4, none⟩ = some (.int .i64 a0_4) := (blk_cell BK386.out 4).trans rfl; have hcz47_5 : w46.cell? ⟨gb386, 5, none⟩ = some (.int .i64 a0_5) := (blk_cell BK386.out 5).trans rfl; have hfz47_0 := blk_frozen BK386.out 0; have hfz47_1 := blk_frozen BK386.out 1; have hfz47_2 := blk_frozen BK386.out 2; have hfz47_3 := blk_frozen BK386.out 3; have hfz47_4 := blk_frozen BK386.out 4; have hfz47_5 := blk_frozen BK386.out 5))
                          go_ret
                          exact ⟨by first | rfl | (simp [errW_none, errW_some] <;> rfl) | (simp [*, errW_none, errW_some] <;> rfl), by repeat (first | (with_reducible first | exact HB.out | apply below_alloc | apply pw_below_drewN | apply below_drew1 | refine below_set ?_ GE386.out) | exact HB.out)⟩
                    · rw [if_neg c36] at H
                      have c36b0 : decide ((x6_1.length : Int) < 2) = false := decide_eq_false c36
                      have c36b1 : decide (x6_1.length < 2) = false := decide_eq_false (by omega)
                      clear c36
                      by_cases c48 : t392 = 0
                      · rw [if_pos c48] at H
                        have c48b0 : (t392 == 0) = true := beq_iff_eq.mpr c48
                        have c48b1 : (t392 != 0) = false := bne_eq_false_iff_eq.mpr c48
                        clear c48
                        obtain rfl := Option.some.inj H
                        obtain ⟨Ao49, co49, eo49⟩ := Kd.R_slice HO_6.out
                        subst eo49
                        go_wp2_with (first | ((with_reducible refine gate_callee (f := 27) rfl ?_); refine goesL_ (some 82) rfl rfl Try.func27 (by kernel_rfl) rfl #[.slice Ao49 x6_1.length co49] rfl (by (try simp only [List.map_toArray, List.map_cons, List.map_nil]); first | done | rfl | (simp only [List.length_drop, List.length_take]; rfl)) ?_; (with_reducible refine (stair_Even.calls kj9 _ _ x6_1 t391 t392 _ ?side1 ?side2 A33.out).mono ?_); (case side1 => repeat (first | exact (Kd.R_reads' HO_6.out).2.2 | (with_reducible refine Kd.C_alloc ?_ _) | (with_reducible refine Kd.C_drewN ?_ _) | (with_reducible refine Kd.C_drew ?_))); (case side2 => exact (Kd.R_reads' HO_6.out).2.1); rintro e w50 ⟨rfl, hb⟩; refine ⟨_, rfl, ?_⟩; have n0_ := Aside0.mk (Kd.R_below (by (with_reducible repeat (first | apply Kd.R_alloc | apply Kd.R_drewN | apply Kd.R_drew)); exact HO_6.out) hb); have n1_ := Aside0.mk (blk_below (g := gb386) (o := .cells #[.int .i64 a0_0, .int .i64 a0_1, .int .i64 a0_2, .int .i64 a0_3, .int .i64 a0_4, .int .i64 a0_5] 27 (0, 0)) (by (with_reducible repeat (first | refine blk_drewN ?_ _ | refine blk_drew ?_ | refine blk_alloc ?_ _)); exact BK386.out) hb); have n2_ := Aside0.mk (below_step (by repeat (first | (with_reducible first | exact HB.out | apply below_alloc | apply pw_below_drewN | apply below_drew1 | refine below_set ?_ GE386.out) | exact HB.out)) hb); clear HO_6; clear BK386; clear HB; have HO_6 := n0_; have BK386 := n1_; have HB := n2_; clear n0_ n1_ n2_; (try clear hb); (try clear hb2); (try clear hk); (try clear hi); have hcz51_0 : w50.cell? ⟨gb386, 0, none⟩ = some (.int .i64 a0_0) := (blk_cell BK386.out 0).trans rfl; have hcz51_1 : w50.cell? ⟨gb386, 1, none⟩ = some (.int .i64 a0_1) := (blk_cell BK386.out 1).trans rfl; have hcz51_2 : w50.cell? ⟨gb386, 2, none⟩ = some (.int .i64 a0_2) := (blk_cell BK386.out 2).trans rfl; have hcz51_3 : w50.cell? ⟨gb386, 3, none⟩ = some (.int .i64 a0_3) := (blk_cell BK386.out 3).trans rfl; have hcz51_4 : w50.cell? ⟨gb386, 4, none⟩ = some (.int .i64 a0_4) := (blk_cell BK386.out 4).trans rfl; have hcz51_5 : w50.cell? ⟨gb386, 5, none⟩ = some (.int .i64 a0_5) := (blk_cell BK386.out 5).trans rfl; have hfz51_0 := blk_frozen BK386.out 0; have hfz51_1 := blk_frozen BK386.out 1; have hfz51_2 := blk_frozen BK386.out 2; have hfz51_3 := blk_frozen BK386.out 3; have hfz51_4 := blk_frozen BK386.out 4; have hfz51_5 := blk_frozen BK386.out 5))
                        go_ret
                        exact ⟨by first | rfl | (simp [errW_none, errW_some] <;> rfl) | (simp [*, errW_none, errW_some] <;> rfl), by repeat (first | (with_reducible first | exact HB.out | apply below_alloc | apply pw_below_drewN | apply below_drew1 | refine below_set ?_ GE386.out) | exact HB.out)⟩
                      · rw [if_neg c48] at H
                        have c48b0 : (t392 == 0) = false := beq_eq_false_iff_ne.mpr c48
                        have c48b1 : (t392 != 0) = true := bne_iff_ne.mpr c48
                        obtain rfl := Option.some.inj H
                        obtain ⟨Ao52, co52, eo52⟩ := Kd.R_slice HO_6.out
                        subst eo52
                        go_wp2_with (first | ((with_reducible refine gate_callee (f := 27) rfl ?_); refine goesL_ (some 82) rfl rfl Try.func27 (by kernel_rfl) rfl #[.slice Ao52 x6_1.length co52] rfl (by (try simp only [List.map_toArray, List.map_cons, List.map_nil]); first | done | rfl | (simp only [List.length_drop, List.length_take]; rfl)) ?_; (with_reducible refine (stair_Even.calls kj9 _ _ x6_1 t391 t392 _ ?side1 ?side2 A33.out).mono ?_); (case side1 => repeat (first | exact (Kd.R_reads' HO_6.out).2.2 | (with_reducible refine Kd.C_alloc ?_ _) | (with_reducible refine Kd.C_drewN ?_ _) | (with_reducible refine Kd.C_drew ?_))); (case side2 => exact (Kd.R_reads' HO_6.out).2.1); rintro e w53 ⟨rfl, hb⟩; refine ⟨_, rfl, ?_⟩; have n0_ := Aside0.mk (Kd.R_below (by (with_reducible repeat (first | apply Kd.R_alloc | apply Kd.R_drewN | apply Kd.R_drew)); exact HO_6.out) hb); have n1_ := Aside0.mk (blk_below (g := gb386) (o := .cells #[.int .i64 a0_0, .int .i64 a0_1, .int .i64 a0_2, .int .i64 a0_3, .int .i64 a0_4, .int .i64 a0_5] 27 (0, 0)) (by (with_reducible repeat (first | refine blk_drewN ?_ _ | refine blk_drew ?_ | refine blk_alloc ?_ _)); exact BK386.out) hb); have n2_ := Aside0.mk (below_step (by repeat (first | (with_reducible first | exact HB.out | apply below_alloc | apply pw_below_drewN | apply below_drew1 | refine below_set ?_ GE386.out) | exact HB.out)) hb); clear HO_6; clear BK386; clear HB; have HO_6 := n0_; have BK386 := n1_; have HB := n2_; clear n0_ n1_ n2_; (try clear hb); (try clear hb2); (try clear hk); (try clear hi); have hcz54_0 : w53.cell? ⟨gb386, 0, none⟩ = some (.int .i64 a0_0) := (blk_cell BK386.out 0).trans rfl; have hcz54_1 : w53.cell? ⟨gb386, 1, none⟩ = some (.int .i64 a0_1) := (blk_cell BK386.out 1).trans rfl; have hcz54_2 : w53.cell? ⟨gb386, 2, none⟩ = some (.int .i64 a0_2) := (blk_cell BK386.out 2).trans rfl; have hcz54_3 : w53.cell? ⟨gb386, 3, none⟩ = some (.int .i64 a0_3) := (blk_cell BK386.out 3).trans rfl; have hcz54_4 : w53.cell? ⟨gb386, 4, none⟩ = some (.int .i64 a0_4) := (blk_cell BK386.out 4).trans rfl; have hcz54_5 : w53.cell? ⟨gb386, 5, none⟩ = some (.int .i64 a0_5) := (blk_cell BK386.out 5).trans rfl; have hfz54_0 := blk_frozen BK386.out 0; have hfz54_1 := blk_frozen BK386.out 1; have hfz54_2 := blk_frozen BK386.out 2; have hfz54_3 := blk_frozen BK386.out 3; have hfz54_4 := blk_frozen BK386.out 4; have hfz54_5 := blk_frozen BK386.out 5))
                        go_ret
                        exact ⟨by first | rfl | (simp [errW_none, errW_some] <;> rfl) | (simp [*, errW_none, errW_some] <;> rfl), by repeat (first | (with_reducible first | exact HB.out | apply below_alloc | apply pw_below_drewN | apply below_drew1 | refine below_set ?_ GE386.out) | exact HB.out)⟩
                  · rw [if_neg c35] at H
                    have c35b0 : (x8_1 == a0_2) = false := beq_eq_false_iff_ne.mpr c35
                    have c35b1 : (x8_1 != a0_2) = true := bne_iff_ne.mpr c35
                    obtain rfl := Option.some.inj H
                    obtain ⟨Ao55, co55, eo55⟩ := Kd.R_slice HO_6.out
                    subst eo55
                    go_wp2_with (first | ((with_reducible refine gate_callee (f := 27) rfl ?_); refine goesL_ (some 82) rfl rfl Try.func27 (by kernel_rfl) rfl #[.slice Ao55 x6_1.length co55] rfl (by (try simp only [List.map_toArray, List.map_cons, List.map_nil]); first | done | rfl | (simp only [List.length_drop, List.length_take]; rfl)) ?_; (with_reducible refine (stair_Even.calls kj9 _ _ x6_1 t391 t392 _ ?side1 ?side2 A33.out).mono ?_); (case side1 => repeat (first | exact (Kd.R_reads' HO_6.out).2.2 | (with_reducible refine Kd.C_alloc ?_ _) | (with_reducible refine Kd.C_drewN ?_ _) | (with_reducible refine Kd.C_drew ?_))); (case side2 => exact (Kd.R_reads' HO_6.out).2.1); rintro e w56 ⟨rfl, hb⟩; refine ⟨_, rfl, ?_⟩; have n0_ := Aside0.mk (Kd.R_below (by (with_reducible repeat (first | apply Kd.R_alloc | apply Kd.R_drewN | apply Kd.R_drew)); exact HO_6.out) hb); have n1_ := Aside0.mk (blk_below (g := gb386) (o := .cells #[.int .i64 a0_0, .int .i64 a0_1, .int .i64 a0_2, .int .i64 a0_3, .int .i64 a0_4, .int .i64 a0_5] 27 (0, 0)) (by (with_reducible repeat (first | refine blk_drewN ?_ _ | refine blk_drew ?_ | refine blk_alloc ?_ _)); exact BK386.out) hb); have n2_ := Aside0.mk (below_step (by repeat (first | (with_reducible first | exact HB.out | apply below_alloc | apply pw_below_drewN | apply below_drew1 | refine below_set ?_ GE386.out) | exact HB.out)) hb); clear HO_6; clear BK386; clear HB; have HO_6 := n0_; have BK386 := n1_; have HB := n2_; clear n0_ n1_ n2_; (try clear hb); (try clear hb2); (try clear hk); (try clear hi); have hcz57_0 : w56.cell? ⟨gb386, 0, none⟩ = some (.int .i64 a0_0) := (blk_cell BK386.out 0).trans rfl; have hcz57_1 : w56.cell? ⟨gb386, 1, none⟩ = some (.int .i64 a0_1) := (blk_cell BK386.out 1).trans rfl; have hcz57_2 : w56.cell? ⟨gb386, 2, none⟩ = some (.int .i64 a0_2) := (blk_cell BK386.out 2).trans rfl; have hcz57_3 : w56.cell? ⟨gb386, 3, none⟩ = some (.int .i64 a0_3) := (blk_cell BK386.out 3).trans rfl; have hcz57_4 : w56.cell? ⟨gb386, 4, none⟩ = some (.int .i64 a0_4) := (blk_cell BK386.out 4).trans rfl; have hcz57_5 : w56.cell? ⟨gb386, 5, none⟩ = some (.int .i64 a0_5) := (blk_cell BK386.out 5).trans rfl; have hfz57_0 := blk_frozen BK386.out 0; have hfz57_1 := blk_frozen BK386.out 1; have hfz57_2 := blk_frozen BK386.out 2; have hfz57_3 := blk_frozen BK386.out 3; have hfz57_4 := blk_frozen BK386.out 4; have hfz57_5 := blk_frozen BK386.out 5))
                    go_ret
                    exact ⟨by first | rfl | (simp [errW_none, errW_some] <;> rfl) | (simp [*, errW_none, errW_some] <;> rfl), by repeat (first | (with_reducible first | exact HB.out | apply below_alloc | apply pw_below_drewN | apply below_drew1 | refine below_set ?_ GE386.out) | exact HB.out)⟩
                · rw [if_neg c34] at H
                  have c34b0 : (x7_1 == t388) = false := beq_eq_false_iff_ne.mpr c34
                  have c34b1 : (x7_1 != t388) = true := bne_iff_ne.mpr c34
                  obtain rfl := Option.some.inj H
                  obtain ⟨Ao58, co58, eo58⟩ := Kd.R_slice HO_6.out
                  subst eo58
                  go_wp2_with (first | ((with_reducible refine gate_callee (f := 27) rfl ?_); refine goesL_ (some 82) rfl rfl Try.func27 (by kernel_rfl) rfl #[.slice Ao58 x6_1.length co58] rfl (by (try simp only [List.map_toArray, List.map_cons, List.map_nil]); first | done | rfl | (simp only [List.length_drop, List.length_take]; rfl)) ?_; (with_reducible refine (stair_Even.calls kj9 _ _ x6_1 t391 t392 _ ?side1 ?side2 A33.out).mono ?_); (case side1 => repeat (first | exact (Kd.R_reads' HO_6.out).2.2 | (with_reducible refine Kd.C_alloc ?_ _) | (with_reducible refine Kd.C_drewN ?_ _) | (with_reducible refine Kd.C_drew ?_))); (case side2 => exact (Kd.R_reads' HO_6.out).2.1); rintro e w59 ⟨rfl, hb⟩; refine ⟨_, rfl, ?_⟩; have n0_ := Aside0.mk (Kd.R_below (by (with_reducible repeat (first | apply Kd.R_alloc | apply Kd.R_drewN | apply Kd.R_drew)); exact HO_6.out) hb); have n1_ := Aside0.mk (blk_below (g := gb386) (o := .cells #[.int .i64 a0_0, .int .i64 a0_1, .int .i64 a0_2, .int .i64 a0_3, .int .i64 a0_4, .int .i64 a0_5] 27 (0, 0)) (by (with_reducible repeat (first | refine blk_drewN ?_ _ | refine blk_drew ?_ | refine blk_alloc ?_ _)); exact BK386.out) hb); have n2_ := Aside0.mk (below_step (by repeat (first | (with_reducible first | exact HB.out | apply below_alloc | apply pw_below_drewN | apply below_drew1 | refine below_set ?_ GE386.out) | exact HB.out)) hb); clear HO_6; clear BK386; clear HB; have HO_6 := n0_; have BK386 := n1_; have HB := n2_; clear n0_ n1_ n2_; (try clear hb); (try clear hb2); (try clear hk); (try clear hi)))
                  go_ret
                  exact ⟨by first | rfl | (simp [errW_none, errW_some] <;> rfl) | (simp [*, errW_none, errW_some] <;> rfl), by repeat (first | (with_reducible first | exact HB.out | apply below_alloc | apply pw_below_drewN | apply below_drew1 | refine below_set ?_ GE386.out) | exact HB.out)⟩
    · rw [if_neg c5] at H
      have c5b0 : (t390 == 0) = false := beq_eq_false_iff_ne.mpr c5
      have c5b1 : (t390 != 0) = true := bne_iff_ne.mpr c5
      obtain rfl := Option.some.inj H
      go_enter Try.func9, Try.ntmps9
      go_wp2_with (first | ((with_reducible refine gate_dst (N := 1) rfl ?_); refine box_event ?hg (N := 1) ?hd (cs := #[.int .i64 a0_0, .int .i64 a0_1, .int .i64 a0_2, .int .i64 a0_3, .int .i64 a0_4, .int .i64 a0_5]) (t := 27) ?hr ?_; (case hd => rfl); (case hg => rfl); (case hr => first | (go_simp; done) | (go_simp; rfl)); intro gb386 hg w60 hbox hb; have n0_ := Aside0.mk (below_step (by repeat (first | (with_reducible first | exact HB.out | apply below_alloc | apply pw_below_drewN | apply below_drew1) | exact HB.out)) hb); have n1_ := Aside0.mk (hbox); have n2_ := Aside0.mk ((by rw [hg]; exact (below_size (by repeat (first | (with_reducible first | exact HB.out | apply below_alloc | apply pw_below_drewN | apply below_drew1) | exact HB.out))) : w.heap.size ≤ gb386)); have n3_ := Aside0.mk ((by rw [hg]; exact (below_size (by repeat (first | (with_reducible first | exact HB.out | apply below_alloc | apply pw_below_drewN | apply below_drew1) | exact HB.out))) : w.heap.size ≤ gb386)); clear HB; have HB := n0_; have BK386 := n1_; have GW386 := n2_; have GE386 := n3_; clear n0_ n1_ n2_ n3_; clear hb hbox hg) | ((with_reducible refine gate_callee (f := 11) rfl ?_); refine goesL_ (some 14) rfl rfl Try.func11 (by kernel_rfl) rfl #[] rfl (by (try simp only [List.map_toArray, List.map_cons, List.map_nil]); first | done | rfl | (simp only [List.length_drop, List.length_take]; rfl)) ?_; (with_reducible refine (gangsawlaw42_awake.calls k  true _ A2.out).mono ?_); rintro e w61 ⟨rfl, hb⟩; refine ⟨_, rfl, ?_⟩; have n0_ := Aside0.mk (blk_below (g := gb386) (o := .cells #[.int .i64 a0_0, .int .i64 a0_1, .int .i64 a0_2, .int .i64 a0_3, .int .i64 a0_4, .int .i64 a0_5] 27 (0, 0)) (by (with_reducible repeat (first | refine blk_drewN ?_ _ | refine blk_drew ?_ | refine blk_alloc ?_ _)); exact BK386.out) hb); have n1_ := Aside0.mk (below_step (by repeat (first | (with_reducible first | exact HB.out | apply below_alloc | apply pw_below_drewN | apply below_drew1 | refine below_set ?_ GE386.out) | exact HB.out)) hb); clear BK386; clear HB; have BK386 := n0_; have HB := n1_; clear n0_ n1_; (try clear hb); (try clear hb2); (try clear hk); (try clear hi); have hcz62_0 : w61.cell? ⟨gb386, 0, none⟩ = some (.int .i64 a0_0) := (blk_cell BK386.out 0).trans rfl; have hcz62_1 : w61.cell? ⟨gb386, 1, none⟩ = some (.int .i64 a0_1) := (blk_cell BK386.out 1).trans rfl; have hcz62_2 : w61.cell? ⟨gb386, 2, none⟩ = some (.int .i64 a0_2) := (blk_cell BK386.out 2).trans rfl; have hcz62_3 : w61.cell? ⟨gb386, 3, none⟩ = some (.int .i64 a0_3) := (blk_cell BK386.out 3).trans rfl; have hcz62_4 : w61.cell? ⟨gb386, 4, none⟩ = some (.int .i64 a0_4) := (blk_cell BK386.out 4).trans rfl; have hcz62_5 : w61.cell? ⟨gb386, 5, none⟩ = some (.int .i64 a0_5) := (blk_cell BK386.out 5).trans rfl; have hfz62_0 := blk_frozen BK386.out 0; have hfz62_1 := blk_frozen BK386.out 1; have hfz62_2 := blk_frozen BK386.out 2; have hfz62_3 := blk_frozen BK386.out 3; have hfz62_4 := blk_frozen BK386.out 4; have hfz62_5 := blk_frozen BK386.out 5) | ((with_reducible refine gate_callee (f := 16) rfl ?_); refine goesL_ (some 18) rfl rfl Try.func16 (by kernel_rfl) rfl #[.agg #[.int .i64 a0_0, .int .i64 a0_1, .int .i64 a0_2, .int .i64 a0_3, .int .i64 a0_4, .int .i64 a0_5]] rfl (by (try simp only [List.map_toArray, List.map_cons, List.map_nil]); first | done | rfl | (simp only [List.length_drop, List.length_take]; rfl)) ?_; (with_reducible refine (stair_Height.calls a0_0 a0_1 a0_2 a0_3 a0_4 a0_5 t388 t389 t390 _ A4.out).mono ?_); rintro e w63 ⟨rfl, hb⟩; refine ⟨_, rfl, ?_⟩; have n0_ := Aside0.mk (blk_below (g := gb386) (o := .cells #[.int .i64 a0_0, .int .i64 a0_1, .int .i64 a0_2, .int .i64 a0_3, .int .i64 a0_4, .int .i64 a0_5] 27 (0, 0)) (by (with_reducible repeat (first | refine blk_drewN ?_ _ | refine blk_drew ?_ | refine blk_alloc ?_ _)); exact BK386.out) hb); have n1_ := Aside0.mk (below_step (by repeat (first | (with_reducible first | exact HB.out | apply below_alloc | apply pw_below_drewN | apply below_drew1 | refine below_set ?_ GE386.out) | exact HB.out)) hb); clear BK386; clear HB; have BK386 := n0_; have HB := n1_; clear n0_ n1_; (try clear hb); (try clear hb2); (try clear hk); (try clear hi)))
      go_ret
      exact ⟨by first | rfl | (simp [errW_none, errW_some] <;> rfl) | (simp [*, errW_none, errW_some] <;> rfl), by repeat (first | (with_reducible first | exact HB.out | apply below_alloc | apply pw_below_drewN | apply below_drew1 | refine below_set ?_ GE386.out) | exact HB.out)⟩
  · replace c3 := Bool.eq_false_iff.mpr c3
    subst c3
    have H1 : (some false) = some r := by rw [if_neg (show ¬ (false = true) by decide)] at H; exact H
    clear H
    have H := H1
    clear H1
    obtain rfl := Option.some.inj H
    go_enter Try.func9, Try.ntmps9
    go_wp2_with (first | ((with_reducible refine gate_dst (N := 1) rfl ?_); refine box_event ?hg (N := 1) ?hd (cs := #[.int .i64 a0_0, .int .i64 a0_1, .int .i64 a0_2, .int .i64 a0_3, .int .i64 a0_4, .int .i64 a0_5]) (t := 27) ?hr ?_; (case hd => rfl); (case hg => rfl); (case hr => first | (go_simp; done) | (go_simp; rfl)); intro gb386 hg w64 hbox hb; have n0_ := Aside0.mk (below_step (by repeat (first | (with_reducible first | exact HB.out | apply below_alloc | apply pw_below_drewN | apply below_drew1) | exact HB.out)) hb); have n1_ := Aside0.mk (hbox); have n2_ := Aside0.mk ((by rw [hg]; exact (below_size (by repeat (first | (with_reducible first | exact HB.out | apply below_alloc | apply pw_below_drewN | apply below_drew1) | exact HB.out))) : w.heap.size ≤ gb386)); have n3_ := Aside0.mk ((by rw [hg]; exact (below_size (by repeat (first | (with_reducible first | exact HB.out | apply below_alloc | apply pw_below_drewN | apply below_drew1) | exact HB.out))) : w.heap.size ≤ gb386)); clear HB; have HB := n0_; have BK386 := n1_; have GW386 := n2_; have GE386 := n3_; clear n0_ n1_ n2_ n3_; clear hb hbox hg) | ((with_reducible refine gate_callee (f := 11) rfl ?_); refine goesL_ (some 14) rfl rfl Try.func11 (by kernel_rfl) rfl #[] rfl (by (try simp only [List.map_toArray, List.map_cons, List.map_nil]); first | done | rfl | (simp only [List.length_drop, List.length_take]; rfl)) ?_; (with_reducible refine (gangsawlaw42_awake.calls k  false _ A2.out).mono ?_); rintro e w65 ⟨rfl, hb⟩; refine ⟨_, rfl, ?_⟩; have n0_ := Aside0.mk (blk_below (g := gb386) (o := .cells #[.int .i64 a0_0, .int .i64 a0_1, .int .i64 a0_2, .int .i64 a0_3, .int .i64 a0_4, .int .i64 a0_5] 27 (0, 0)) (by (with_reducible repeat (first | refine blk_drewN ?_ _ | refine blk_drew ?_ | refine blk_alloc ?_ _)); exact BK386.out) hb); have n1_ := Aside0.mk (below_step (by repeat (first | (with_reducible first | exact HB.out | apply below_alloc | apply pw_below_drewN | apply below_drew1 | refine below_set ?_ GE386.out) | exact HB.out)) hb); clear BK386; clear HB; have BK386 := n0_; have HB := n1_; clear n0_ n1_; (try clear hb); (try clear hb2); (try clear hk); (try clear hi)))
    go_ret
    exact ⟨by first | rfl | (simp [errW_none, errW_some] <;> rfl) | (simp [*, errW_none, errW_some] <;> rfl), by repeat (first | (with_reducible first | exact HB.out | apply below_alloc | apply pw_below_drewN | apply below_drew1 | refine below_set ?_ GE386.out) | exact HB.out)⟩

/-- THE ONE PURE STATEMENT of gangsawlaw42_StairLevels. -/
def gangsawlaw42_StairLevels.Pure : Prop := ∀ (a0_0 : Int) (a0_1 : Int) (a0_2 : Int) (a0_3 : Int) (a0_4 : Int) (a0_5 : Int), g27 ((⟨a0_0, a0_1, a0_2, a0_3, a0_4, a0_5⟩ : S27)) → ∃ k, gangsawlaw42_StairLevels.f k a0_0 a0_1 a0_2 a0_3 a0_4 a0_5 = some true
theorem gangsawlaw42_StairLevels.walk (P : gangsawlaw42_StairLevels.Pure) (a0_0 : Int) (a0_1 : Int) (a0_2 : Int) (a0_3 : Int) (a0_4 : Int) (a0_5 : Int) (w : World) (w0 : g27 ((⟨a0_0, a0_1, a0_2, a0_3, a0_4, a0_5⟩ : S27))) :
    Calls Try.prog 9 #[.agg #[.int .i64 a0_0, .int .i64 a0_1, .int .i64 a0_2, .int .i64 a0_3, .int .i64 a0_4, .int .i64 a0_5]] w fun e w' => e = .returned (.bool true) ∧ Below w.heap.size w w' := by
  obtain ⟨k, h⟩ := P a0_0 a0_1 a0_2 a0_3 a0_4 a0_5 w0
  refine (gangsawlaw42_StairLevels.calls k a0_0 a0_1 a0_2 a0_3 a0_4 a0_5 true w h).mono ?_
  rintro e w' ⟨rfl, hd⟩
  exact ⟨rfl, hd⟩

end Go.Proofs.Ytaainbbkengjfaa.XA
