-- written by xprint.py, this project's own program (wip/), over the words of print.sh
import Derived.Test.YtaainbbkengjfaaXAx0
import Derived.Test.YtaainbbkengjfaaXAx6
import Derived.Test.YtaainbbkengjfaaXAx7
import Derived.Test.YtaainbbkengjfaaXAx8
import Derived.Test.YtaainbbkengjfaaXAx9
import Derived.Test.YtaainbbkengjfaaXAx12
import Derived.Test.YtaainbbkengjfaaXAx15
namespace Go.Proofs.Ytaainbbkengjfaa.XA
open Go.RowKit Go.Proofs.Ytaainbbkengjfaa.Opens Go.Proofs.YtaainbbkengjfaaW.PrintWords Go.Proofs.YtaainbbkengjfaaW.PrintLast Go.Proofs.YtaainbbkengjfaaW.PrintMore
attribute [local go_sem] max2_int min2_int max_two min_two max_three min_three max_four min_four   -- for this text's walks alone
set_option linter.unusedVariables false
set_option linter.unusedSimpArgs false

/-! ### gangsawlaw42_StairChecks: function 3 -/
mutual
def gangsawlaw42_StairChecks.j0 : Nat → Int → Bool → Int → Int → Int → Int → Int → Int → Option (Bool)
  | 0, _, _, _, _, _, _, _, _ => none
  | k + 1, x2, x27, x246000, x246001, x246002, x246003, x246004, x246005 => if x27 = true then (some false) else ((stair_Height.f x246000 x246001 x246002 x246003 x246004 x246005).bind fun bt251 => ((stair_Level.f x246000 x246001 x246002 x246003 x246004 x246005 x2).bind fun bt254 => ((gangsawref42_Valid.f x246000 x246001 x246002 x246003 x246004 x246005).bind fun t256 => (if t256 = true then (if bt251.2.2 = 0 then ((gangsawref42_Level.f k x246000 x246001 x246002 x246003 x246004 x246005 (wrap64 (x246000 - 1))).bind fun t257 => (if bt251.1 = t257 then (gangsawlaw42_StairChecks.j1 k x2 bt254.1 bt254.2 (bt251.2.1 != (wrap64 (x246000 * x246003))) x246000 x246001 x246002 x246003 x246004 x246005) else (gangsawlaw42_StairChecks.j1 k x2 bt254.1 bt254.2 true x246000 x246001 x246002 x246003 x246004 x246005))) else (gangsawlaw42_StairChecks.j1 k x2 bt254.1 bt254.2 true x246000 x246001 x246002 x246003 x246004 x246005)) else (if bt251.2.2 = 1 then (if bt254.2 = bt251.2.2 then (if bt251.1 = 0 then (if bt251.2.1 = 0 then (some (bt254.1 == 0)) else (some false)) else (some false)) else (some false)) else (some false))))))
def gangsawlaw42_StairChecks.j1 : Nat → Int → Int → Int → Bool → Int → Int → Int → Int → Int → Int → Option (Bool)
  | 0, _, _, _, _, _, _, _, _, _, _ => none
  | k + 1, x2, x10, x11, x81, x246000, x246001, x246002, x246003, x246004, x246005 => if x81 = true then (some false) else (if x2 < 0 then (if x11 = 9 then (some (x10 == 0)) else (some false)) else (if x2 ≥ x246000 then (if x11 = 9 then (some (x10 == 0)) else (some false)) else (if x11 = 0 then ((gangsawref42_Level.f k x246000 x246001 x246002 x246003 x246004 x246005 x2).bind fun t258 => (some (x10 == t258))) else (some false))))
end
def gangsawlaw42_StairChecks.f (k : Nat) (a0_0 : Int) (a0_1 : Int) (a0_2 : Int) (a0_3 : Int) (a0_4 : Int) (a0_5 : Int) (a1_0 : Int) (a1_1 : Int) (a1_2 : Int) (a1_3 : Int) (a1_4 : Int) (a1_5 : Int) (a2 : Int) : Option (Bool) := (gangsawlaw42_awake.f k).bind fun t246 => (if t246 = true then ((stair_Check.f k a0_0 a0_1 a0_2 a0_3 a0_4 a0_5).bind fun t247 => ((gangsawref42_Check.f k a0_0 a0_1 a0_2 a0_3 a0_4 a0_5).bind fun t248 => (if t247 = t248 then ((stair_Fits.f k a0_0 a0_1 a0_2 a0_3 a0_4 a0_5 a1_0 a1_1 a1_2 a1_3 a1_4 a1_5).bind fun t249 => ((gangsawref42_Fits.f k a0_0 a0_1 a0_2 a0_3 a0_4 a0_5 a1_0 a1_1 a1_2 a1_3 a1_4 a1_5).bind fun t250 => (gangsawlaw42_StairChecks.j0 k a2 (t249 != t250) a1_0 a1_1 a1_2 a1_3 a1_4 a1_5))) else (gangsawlaw42_StairChecks.j0 k a2 true a1_0 a1_1 a1_2 a1_3 a1_4 a1_5)))) else (some false))
theorem gangsawlaw42_StairChecks.mono_l : ∀ k, (∀ y0 y1 y2 y3 y4 y5 y6 y7, LeO (gangsawlaw42_StairChecks.j0 k y0 y1 y2 y3 y4 y5 y6 y7) (gangsawlaw42_StairChecks.j0 (k + 1) y0 y1 y2 y3 y4 y5 y6 y7)) ∧ (∀ y0 y1 y2 y3 y4 y5 y6 y7 y8 y9, LeO (gangsawlaw42_StairChecks.j1 k y0 y1 y2 y3 y4 y5 y6 y7 y8 y9) (gangsawlaw42_StairChecks.j1 (k + 1) y0 y1 y2 y3 y4 y5 y6 y7 y8 y9))
  | 0 => ⟨fun _ _ _ _ _ _ _ _ r h => by simp [gangsawlaw42_StairChecks.j0] at h, fun _ _ _ _ _ _ _ _ _ _ r h => by simp [gangsawlaw42_StairChecks.j1] at h⟩
  | k + 1 => by
    obtain ⟨ih0, ih1⟩ := gangsawlaw42_StairChecks.mono_l k
    refine ⟨?_, ?_⟩
    · intro y0 y1 y2 y3 y4 y5 y6 y7
      unfold gangsawlaw42_StairChecks.j0
      repeat' first
      | (with_reducible exact ih0 _ _ _ _ _ _ _ _)
      | (with_reducible exact ih1 _ _ _ _ _ _ _ _ _ _)
      | (with_reducible exact gangsawlaw42_awake.mono _)
      | (with_reducible exact gangsawref42_Check.mono _ _ _ _ _ _ _)
      | (with_reducible exact gangsawref42_Fits.mono _ _ _ _ _ _ _ _ _ _ _ _ _)
      | (with_reducible exact gangsawref42_Level.mono _ _ _ _ _ _ _ _)
      | (with_reducible exact stair_Check.mono _ _ _ _ _ _ _)
      | (with_reducible exact stair_Fits.mono _ _ _ _ _ _ _ _ _ _ _ _ _)
      | (with_reducible exact LeO.refl _)
      | (with_reducible exact LeO.none _)
      | (with_reducible refine LeO.ite ?_ ?_)
      | (with_reducible refine LeO.bind ?_ (fun _ => ?_))
      | exact ih0 _ _ _ _ _ _ _ _
      | exact ih1 _ _ _ _ _ _ _ _ _ _
      | exact gangsawlaw42_awake.mono _
      | exact gangsawref42_Check.mono _ _ _ _ _ _ _
      | exact gangsawref42_Fits.mono _ _ _ _ _ _ _ _ _ _ _ _ _
      | exact gangsawref42_Level.mono _ _ _ _ _ _ _ _
      | exact stair_Check.mono _ _ _ _ _ _ _
      | exact stair_Fits.mono _ _ _ _ _ _ _ _ _ _ _ _ _
      | exact LeO.none _
      | refine LeO.ite ?_ ?_
      | refine LeO.bind ?_ (fun _ => ?_)
    · intro y0 y1 y2 y3 y4 y5 y6 y7 y8 y9
      unfold gangsawlaw42_StairChecks.j1
      repeat' first
      | (with_reducible exact ih0 _ _ _ _ _ _ _ _)
      | (with_reducible exact ih1 _ _ _ _ _ _ _ _ _ _)
      | (with_reducible exact gangsawlaw42_awake.mono _)
      | (with_reducible exact gangsawref42_Check.mono _ _ _ _ _ _ _)
      | (with_reducible exact gangsawref42_Fits.mono _ _ _ _ _ _ _ _ _ _ _ _ _)
      | (with_reducible exact gangsawref42_Level.mono _ _ _ _ _ _ _ _)
      | (with_reducible exact stair_Check.mono _ _ _ _ _ _ _)
      | (with_reducible exact stair_Fits.mono _ _ _ _ _ _ _ _ _ _ _ _ _)
      | (with_reducible exact LeO.refl _)
      | (with_reducible exact LeO.none _)
      | (with_reducible refine LeO.ite ?_ ?_)
      | (with_reducible refine LeO.bind ?_ (fun _ => ?_))
      | exact ih0 _ _ _ _ _ _ _ _
      | exact ih1 _ _ _ _ _ _ _ _ _ _
      | exact gangsawlaw42_awake.mono _
      | exact gangsawref42_Check.mono _ _ _ _ _ _ _
      | exact gangsawref42_Fits.mono _ _ _ _ _ _ _ _ _ _ _ _ _
      | exact gangsawref42_Level.mono _ _ _ _ _ _ _ _
      | exact stair_Check.mono _ _ _ _ _ _ _
      | exact stair_Fits.mono _ _ _ _ _ _ _ _ _ _ _ _ _
      | exact LeO.none _
      | refine LeO.ite ?_ ?_
      | refine LeO.bind ?_ (fun _ => ?_)
theorem gangsawlaw42_StairChecks.mono : ∀ a0 a1 a2 a3 a4 a5 a6 a7 a8 a9 a10 a11 a12 k, LeO (gangsawlaw42_StairChecks.f k a0 a1 a2 a3 a4 a5 a6 a7 a8 a9 a10 a11 a12) (gangsawlaw42_StairChecks.f (k + 1) a0 a1 a2 a3 a4 a5 a6 a7 a8 a9 a10 a11 a12) := by
  intro a0 a1 a2 a3 a4 a5 a6 a7 a8 a9 a10 a11 a12 k
  obtain ⟨ih0, ih1⟩ := gangsawlaw42_StairChecks.mono_l k
  unfold gangsawlaw42_StairChecks.f
  repeat' first
      | (with_reducible exact ih0 _ _ _ _ _ _ _ _)
      | (with_reducible exact ih1 _ _ _ _ _ _ _ _ _ _)
      | (with_reducible exact gangsawlaw42_awake.mono _)
      | (with_reducible exact gangsawref42_Check.mono _ _ _ _ _ _ _)
      | (with_reducible exact gangsawref42_Fits.mono _ _ _ _ _ _ _ _ _ _ _ _ _)
      | (with_reducible exact gangsawref42_Level.mono _ _ _ _ _ _ _ _)
      | (with_reducible exact stair_Check.mono _ _ _ _ _ _ _)
      | (with_reducible exact stair_Fits.mono _ _ _ _ _ _ _ _ _ _ _ _ _)
      | (with_reducible exact LeO.refl _)
      | (with_reducible exact LeO.none _)
      | (with_reducible refine LeO.ite ?_ ?_)
      | (with_reducible refine LeO.bind ?_ (fun _ => ?_))
      | exact ih0 _ _ _ _ _ _ _ _
      | exact ih1 _ _ _ _ _ _ _ _ _ _
      | exact gangsawlaw42_awake.mono _
      | exact gangsawref42_Check.mono _ _ _ _ _ _ _
      | exact gangsawref42_Fits.mono _ _ _ _ _ _ _ _ _ _ _ _ _
      | exact gangsawref42_Level.mono _ _ _ _ _ _ _ _
      | exact stair_Check.mono _ _ _ _ _ _ _
      | exact stair_Fits.mono _ _ _ _ _ _ _ _ _ _ _ _ _
      | exact LeO.none _
      | refine LeO.ite ?_ ?_
      | refine LeO.bind ?_ (fun _ => ?_)
def gangsawlaw42_StairChecks.T3 : Bool × List (List Nat × List Nat) := (true, [([], []), ([0], [0]), ([], []), ([2, 1], [2]), ([1, 3], [1, 3]), ([4, 3], [4]), ([5], [5]), ([5], [5]), ([6, 7, 5, 5], [5, 6, 7]), ([5], [5]), ([5], [5]), ([9, 10, 8, 5], [5, 9, 10]), ([8, 11, 5], [5, 8, 11]), ([5, 12], [5, 12])])
def gangsawlaw42_StairChecks.B3 : List Nat := [0, 1, 0, 7, 15, 31, 63, 63, 255, 63, 63, 2047, 4095, 8191]
theorem gangsawlaw42_StairChecks.tab3 : rtab .any (opsOf Try.f3 3) = gangsawlaw42_StairChecks.T3 := by kernel_rfl
theorem gangsawlaw42_StairChecks.bits3 : waitsOk gangsawlaw42_StairChecks.T3.2 gangsawlaw42_StairChecks.B3 = true := by kernel_rfl
set_option maxHeartbeats 8000000 in
set_option maxRecDepth 100000 in
theorem gangsawlaw42_StairChecks.calls (k : Nat) (a0_0 : Int) (a0_1 : Int) (a0_2 : Int) (a0_3 : Int) (a0_4 : Int) (a0_5 : Int) (a1_0 : Int) (a1_1 : Int) (a1_2 : Int) (a1_3 : Int) (a1_4 : Int) (a1_5 : Int) (a2 : Int) (r : Bool) (w : World) (h : gangsawlaw42_StairChecks.f k a0_0 a0_1 a0_2 a0_3 a0_4 a0_5 a1_0 a1_1 a1_2 a1_3 a1_4 a1_5 a2 = some r) :
    Calls Try.prog 3 #[.agg #[.int .i64 a0_0, .int .i64 a0_1, .int .i64 a0_2, .int .i64 a0_3, .int .i64 a0_4, .int .i64 a0_5], .agg #[.int .i64 a1_0, .int .i64 a1_1, .int .i64 a1_2, .int .i64 a1_3, .int .i64 a1_4, .int .i64 a1_5], .int .i64 a2] w fun e w' => e = .returned (.bool r) ∧ Below w.heap.size w w' := by
  have hu25 := Try.underlying25
  have hu27 := Try.underlying27
  have HB := Aside0.mk (Below.refl w.heap.size w)
  have H : ((gangsawlaw42_awake.f k).bind fun t246 => (if t246 = true then ((stair_Check.f k a0_0 a0_1 a0_2 a0_3 a0_4 a0_5).bind fun t247 => ((gangsawref42_Check.f k a0_0 a0_1 a0_2 a0_3 a0_4 a0_5).bind fun t248 => (if t247 = t248 then ((stair_Fits.f k a0_0 a0_1 a0_2 a0_3 a0_4 a0_5 a1_0 a1_1 a1_2 a1_3 a1_4 a1_5).bind fun t249 => ((gangsawref42_Fits.f k a0_0 a0_1 a0_2 a0_3 a0_4 a0_5 a1_0 a1_1 a1_2 a1_3 a1_4 a1_5).bind fun t250 => (gangsawlaw42_StairChecks.j0 k a2 (t249 != t250) a1_0 a1_1 a1_2 a1_3 a1_4 a1_5))) else (gangsawlaw42_StairChecks.j0 k a2 true a1_0 a1_1 a1_2 a1_3 a1_4 a1_5)))) else (some false))) = some r := h
  clear h
  replace H := Option.bind_eq_some_iff.mp H
  obtain ⟨t246, A40, H⟩ := H
  replace H : (if t246 = true then ((stair_Check.f k a0_0 a0_1 a0_2 a0_3 a0_4 a0_5).bind fun t247 => ((gangsawref42_Check.f k a0_0 a0_1 a0_2 a0_3 a0_4 a0_5).bind fun t248 => (if t247 = t248 then ((stair_Fits.f k a0_0 a0_1 a0_2 a0_3 a0_4 a0_5 a1_0 a1_1 a1_2 a1_3 a1_4 a1_5).bind fun t249 => ((gangsawref42_Fits.f k a0_0 a0_1 a0_2 a0_3 a0_4 a0_5 a1_0 a1_1 a1_2 a1_3 a1_4 a1_5).bind fun t250 => (gangsawlaw42_StairChecks.j0 k a2 (t249 != t250) a1_0 a1_1 a1_2 a1_3 a1_4 a1_5))) else (gangsawlaw42_StairChecks.j0 k a2 true a1_0 a1_1 a1_2 a1_3 a1_4 a1_5)))) else (some false)) = some r := H
  have A4 := Aside0.mk A40
  clear A40
  by_cases c5 : t246 = true
  · subst c5
    have H1 : ((stair_Check.f k a0_0 a0_1 a0_2 a0_3 a0_4 a0_5).bind fun t247 => ((gangsawref42_Check.f k a0_0 a0_1 a0_2 a0_3 a0_4 a0_5).bind fun t248 => (if t247 = t248 then ((stair_Fits.f k a0_0 a0_1 a0_2 a0_3 a0_4 a0_5 a1_0 a1_1 a1_2 a1_3 a1_4 a1_5).bind fun t249 => ((gangsawref42_Fits.f k a0_0 a0_1 a0_2 a0_3 a0_4 a0_5 a1_0 a1_1 a1_2 a1_3 a1_4 a1_5).bind fun t250 => (gangsawlaw42_StairChecks.j0 k a2 (t249 != t250) a1_0 a1_1 a1_2 a1_3 a1_4 a1_5))) else (gangsawlaw42_StairChecks.j0 k a2 true a1_0 a1_1 a1_2 a1_3 a1_4 a1_5)))) = some r := by rw [if_pos rfl] at H; exact H
    clear H
    have H := H1
    clear H1
    have HC6 := Aside0.mk H
    clear H
    go_enter Try.func3, Try.ntmps3
    go_upto_region 3 with (first | ((with_reducible refine gate_dst (N := 3) rfl ?_); refine box_event ?hg (N := 3) ?hd (cs := #[.int .i64 a0_0, .int .i64 a0_1, .int .i64 a0_2, .int .i64 a0_3, .int .i64 a0_4, .int .i64 a0_5]) (t := 25) ?hr ?_; (case hd => rfl); (case hg => rfl); (case hr => first | (go_simp; done) | (go_simp; rfl)); intro gb244 hg w7 hbox hb; have n0_ := Aside0.mk (below_step (by repeat (first | (with_reducible first | exact HB.out | apply below_alloc | apply pw_below_drewN | apply below_drew1) | exact HB.out)) hb); have n1_ := Aside0.mk (hbox); have n2_ := Aside0.mk ((by rw [hg]; exact (below_size (by repeat (first | (with_reducible first | exact HB.out | apply below_alloc | apply pw_below_drewN | apply below_drew1) | exact HB.out))) : w.heap.size ≤ gb244)); have n3_ := Aside0.mk ((by rw [hg]; exact (below_size (by repeat (first | (with_reducible first | exact HB.out | apply below_alloc | apply pw_below_drewN | apply below_drew1) | exact HB.out))) : w.heap.size ≤ gb244)); clear HB; have HB := n0_; have BK244 := n1_; have GW244 := n2_; have GE244 := n3_; clear n0_ n1_ n2_ n3_; clear hb hbox hg) | ((with_reducible refine gate_dst (N := 4) rfl ?_); refine box_event ?hg (N := 4) ?hd (cs := #[.int .i64 a1_0, .int .i64 a1_1, .int .i64 a1_2, .int .i64 a1_3, .int .i64 a1_4, .int .i64 a1_5]) (t := 27) ?hr ?_; (case hd => rfl); (case hg => rfl); (case hr => first | (go_simp; done) | (go_simp; rfl)); intro gb245 hg w8 hbox hb; have n0_ := Aside0.mk (blk_below (g := gb244) (o := .cells #[.int .i64 a0_0, .int .i64 a0_1, .int .i64 a0_2, .int .i64 a0_3, .int .i64 a0_4, .int .i64 a0_5] 25 (0, 0)) (by (with_reducible repeat (first | refine blk_drewN ?_ _ | refine blk_drew ?_ | refine blk_alloc ?_ _)); exact BK244.out) hb); have n1_ := Aside0.mk (below_step (by repeat (first | (with_reducible first | exact HB.out | apply below_alloc | apply pw_below_drewN | apply below_drew1 | refine below_set ?_ GE244.out) | exact HB.out)) hb); have n2_ := Aside0.mk (hbox); have n3_ := Aside0.mk ((by rw [hg]; exact (below_size (by repeat (first | (with_reducible first | exact HB.out | apply below_alloc | apply pw_below_drewN | apply below_drew1 | refine below_set ?_ GE244.out) | exact HB.out))) : w.heap.size ≤ gb245)); have n4_ := Aside0.mk ((by rw [hg]; exact (below_size (by repeat (first | (with_reducible first | exact HB.out | apply below_alloc | apply pw_below_drewN | apply below_drew1 | refine below_set ?_ GE244.out) | exact HB.out))) : w.heap.size ≤ gb245)); have n5_ := Aside0.mk ((by rw [hg]; exact Nat.ne_of_lt (blk_lt (g := gb244) (o := .cells #[.int .i64 a0_0, .int .i64 a0_1, .int .i64 a0_2, .int .i64 a0_3, .int .i64 a0_4, .int .i64 a0_5] 25 (0, 0)) (by (with_reducible repeat (first | refine blk_drewN ?_ _ | refine blk_drew ?_ | refine blk_alloc ?_ _)); exact BK244.out)) : gb244 ≠ gb245)); have n6_ := Aside0.mk ((by rw [hg]; exact Nat.ne_of_gt (blk_lt (g := gb244) (o := .cells #[.int .i64 a0_0, .int .i64 a0_1, .int .i64 a0_2, .int .i64 a0_3, .int .i64 a0_4, .int .i64 a0_5] 25 (0, 0)) (by (with_reducible repeat (first | refine blk_drewN ?_ _ | refine blk_drew ?_ | refine blk_alloc ?_ _)); exact BK244.out)) : gb245 ≠ gb244)); clear BK244; clear HB; have BK244 := n0_; have HB := n1_; have BK245 := n2_; have GW245 := n3_; have GE245 := n4_; have NB244_245 := n5_; have NB245_244 := n6_; clear n0_ n1_ n2_ n3_ n4_ n5_ n6_; clear hb hbox hg) | ((with_reducible refine gate_callee (f := 11) rfl ?_); refine goesL_ (some 12) rfl rfl Try.func11 (by kernel_rfl) rfl #[] rfl (by (try simp only [List.map_toArray, List.map_cons, List.map_nil]); first | done | rfl | (simp only [List.length_drop, List.length_take]; rfl)) ?_; (with_reducible refine (gangsawlaw42_awake.calls k  true _ A4.out).mono ?_); rintro e w9 ⟨rfl, hb⟩; refine ⟨_, rfl, ?_⟩; have n0_ := Aside0.mk (blk_below (g := gb244) (o := .cells #[.int .i64 a0_0, .int .i64 a0_1, .int .i64 a0_2, .int .i64 a0_3, .int .i64 a0_4, .int .i64 a0_5] 25 (0, 0)) (by (with_reducible repeat (first | refine blk_drewN ?_ _ | refine blk_drew ?_ | refine blk_alloc ?_ _)); exact BK244.out) hb); have n1_ := Aside0.mk (blk_below (g := gb245) (o := .cells #[.int .i64 a1_0, .int .i64 a1_1, .int .i64 a1_2, .int .i64 a1_3, .int .i64 a1_4, .int .i64 a1_5] 27 (0, 0)) (by (with_reducible repeat (first | refine blk_drewN ?_ _ | refine blk_drew ?_ | refine blk_alloc ?_ _)); exact BK245.out) hb); have n2_ := Aside0.mk (below_step (by repeat (first | (with_reducible first | exact HB.out | apply below_alloc | apply pw_below_drewN | apply below_drew1 | refine below_set ?_ GE244.out | refine below_set ?_ GE245.out) | exact HB.out)) hb); clear BK244; clear BK245; clear HB; have BK244 := n0_; have BK245 := n1_; have HB := n2_; clear n0_ n1_ n2_; (try clear hb); (try clear hb2); (try clear hk); (try clear hi)))
    (try simp only [Act.put, List.setIfInBounds_toArray, List.set_cons_zero, List.set_cons_succ])
    go_cut [27] (fun v27 wc => ∃ (kq : Nat) (x27_5 : Bool), v27 = .bool x27_5 ∧ Aside0 (gangsawlaw42_StairChecks.j0 kq a2 x27_5 a1_0 a1_1 a1_2 a1_3 a1_4 a1_5 = some r) ∧ Aside0 (kq ≤ k) ∧ Aside0 (wc.heap[gb244]? = some (.cells #[.int .i64 a0_0, .int .i64 a0_1, .int .i64 a0_2, .int .i64 a0_3, .int .i64 a0_4, .int .i64 a0_5] 25 (0, 0))) ∧ Aside0 (wc.heap[gb245]? = some (.cells #[.int .i64 a1_0, .int .i64 a1_1, .int .i64 a1_2, .int .i64 a1_3, .int .i64 a1_4, .int .i64 a1_5] 27 (0, 0))) ∧ Aside0 (Below w.heap.size w wc))
    case first =>
      have H := HC6.out
      clear HC6
      replace H := Option.bind_eq_some_iff.mp H
      obtain ⟨t247, A100, H⟩ := H
      replace H : ((gangsawref42_Check.f k a0_0 a0_1 a0_2 a0_3 a0_4 a0_5).bind fun t248 => (if t247 = t248 then ((stair_Fits.f k a0_0 a0_1 a0_2 a0_3 a0_4 a0_5 a1_0 a1_1 a1_2 a1_3 a1_4 a1_5).bind fun t249 => ((gangsawref42_Fits.f k a0_0 a0_1 a0_2 a0_3 a0_4 a0_5 a1_0 a1_1 a1_2 a1_3 a1_4 a1_5).bind fun t250 => (gangsawlaw42_StairChecks.j0 k a2 (t249 != t250) a1_0 a1_1 a1_2 a1_3 a1_4 a1_5))) else (gangsawlaw42_StairChecks.j0 k a2 true a1_0 a1_1 a1_2 a1_3 a1_4 a1_5))) = some r := H
      have A10 := Aside0.mk A100
      clear A100
      replace H := Option.bind_eq_some_iff.mp H
      obtain ⟨t248, A110, H⟩ := H
      replace H : (if t247 = t248 then ((stair_Fits.f k a0_0 a0_1 a0_2 a0_3 a0_4 a0_5 a1_0 a1_1 a1_2 a1_3 a1_4 a1_5).bind fun t249 => ((gangsawref42_Fits.f k a0_0 a0_1 a0_2 a0_3 a0_4 a0_5 a1_0 a1_1 a1_2 a1_3 a1_4 a1_5).bind fun t250 => (gangsawlaw42_StairChecks.j0 k a2 (t249 != t250) a1_0 a1_1 a1_2 a1_3 a1_4 a1_5))) else (gangsawlaw42_StairChecks.j0 k a2 true a1_0 a1_1 a1_2 a1_3 a1_4 a1_5)) = some r := H
      have A11 := Aside0.mk A110
      clear A110
      by_cases c12 : t247 = t248
      · rw [if_pos c12] at H
        have c12b0 : (t247 == t248) = true := beq_iff_eq.mpr c12
        have c12b1 : (t247 != t248) = false := bne_eq_false_iff_eq.mpr c12
        clear c12
        (first | rw [c12b0] | (simp only [i64_w, i32_w]; rw [c12b0]) | skip)
        replace H := Option.bind_eq_some_iff.mp H
        obtain ⟨t249, A130, H⟩ := H
        replace H : ((gangsawref42_Fits.f k a0_0 a0_1 a0_2 a0_3 a0_4 a0_5 a1_0 a1_1 a1_2 a1_3 a1_4 a1_5).bind fun t250 => (gangsawlaw42_StairChecks.j0 k a2 (t249 != t250) a1_0 a1_1 a1_2 a1_3 a1_4 a1_5)) = some r := H
        have A13 := Aside0.mk A130
        clear A130
        replace H := Option.bind_eq_some_iff.mp H
        obtain ⟨t250, A140, H⟩ := H
        replace H : (gangsawlaw42_StairChecks.j0 k a2 (t249 != t250) a1_0 a1_1 a1_2 a1_3 a1_4 a1_5) = some r := H
        have A14 := Aside0.mk A140
        clear A140
        have H' := Aside0.mk H
        clear H
        try go_wp2
        have n0_ := Aside0.mk (blk_drew BK244.out)
        have n1_ := Aside0.mk (blk_drew BK245.out)
        have n2_ := Aside0.mk (below_drew1 HB.out)
        clear BK244
        clear BK245
        clear HB
        have BK244 := n0_
        have BK245 := n1_
        have HB := n2_
        clear n0_ n1_ n2_
        refine start_ (n := 14) (S := fun w' => w'.cell? ⟨gb244, 0, none⟩ = some (.int .i64 a0_0) ∧ w'.cell? ⟨gb244, 1, none⟩ = some (.int .i64 a0_1) ∧ w'.cell? ⟨gb244, 2, none⟩ = some (.int .i64 a0_2) ∧ w'.cell? ⟨gb244, 3, none⟩ = some (.int .i64 a0_3) ∧ w'.cell? ⟨gb244, 4, none⟩ = some (.int .i64 a0_4) ∧ w'.cell? ⟨gb244, 5, none⟩ = some (.int .i64 a0_5) ∧ w'.cell? ⟨gb245, 0, none⟩ = some (.int .i64 a1_0) ∧ w'.cell? ⟨gb245, 1, none⟩ = some (.int .i64 a1_1) ∧ w'.cell? ⟨gb245, 2, none⟩ = some (.int .i64 a1_2) ∧ w'.cell? ⟨gb245, 3, none⟩ = some (.int .i64 a1_3) ∧ w'.cell? ⟨gb245, 4, none⟩ = some (.int .i64 a1_4) ∧ w'.cell? ⟨gb245, 5, none⟩ = some (.int .i64 a1_5)) (ds := []) #[false, false, false, false, false, false, false, false, false, false, false, false, false, false] (by kernel_rfl) rfl rfl ⟨(blk_cell BK244.out 0).trans rfl, (blk_cell BK244.out 1).trans rfl, (blk_cell BK244.out 2).trans rfl, (blk_cell BK244.out 3).trans rfl, (blk_cell BK244.out 4).trans rfl, (blk_cell BK244.out 5).trans rfl, (blk_cell BK245.out 0).trans rfl, (blk_cell BK245.out 1).trans rfl, (blk_cell BK245.out 2).trans rfl, (blk_cell BK245.out 3).trans rfl, (blk_cell BK245.out 4).trans rfl, (blk_cell BK245.out 5).trans rfl⟩ (fun hHeld => ?_); refine with_tabW gangsawlaw42_StairChecks.tab3 gangsawlaw42_StairChecks.bits3 (fun HT_ HW_ => ?_)
        generalize w9.drew = w15 at BK244 BK245 HB hHeld ⊢
        refine take_ (i := 0) (N := some 14) (v := ?_) (a' := ?_) #[true, false, false, false, false, false, false, false, false, false, false, false, false, false] rfl rfl (take_ofW HT_.out HW_.out (by kernel_rfl)) (fun _ _ _ h => h) (Or.inl ⟨by rfl, ?_⟩) hHeld ?_ ?_
        rotate_left
        · rintro w' ⟨s0, s1, s2, s3, s4, s5, s6, s7, s8, s9, s10, s11⟩
          go_simp
          with_reducible rfl
        rotate_left
        · simp only [Act.put, List.setIfInBounds_toArray, List.set_cons_zero, List.set_cons_succ, i64_w, i32_w]
          rfl
        refine take_ (i := 2) (N := some 16) (v := ?_) (a' := ?_) #[true, false, true, false, false, false, false, false, false, false, false, false, false, false] rfl rfl (take_ofW HT_.out HW_.out (by kernel_rfl)) (fun _ _ _ h => h) (Or.inl ⟨by rfl, ?_⟩) hHeld ?_ ?_
        rotate_left
        · rintro w' ⟨s0, s1, s2, s3, s4, s5, s6, s7, s8, s9, s10, s11⟩
          go_simp
          with_reducible rfl
        rotate_left
        · simp only [Act.put, List.setIfInBounds_toArray, List.set_cons_zero, List.set_cons_succ, i64_w, i32_w]
          rfl
        refine one_ (i := 1) (N := some 15) #[true, true, true, false, false, false, false, false, false, false, false, false, false, false] rfl rfl (one_of HT_.out (by kernel_rfl)) (by decide) (fun K hK => ?_)
        refine goes_ Try.func12 (by kernel_rfl) rfl #[.agg #[.int .i64 a0_0, .int .i64 a0_1, .int .i64 a0_2, .int .i64 a0_3, .int .i64 a0_4, .int .i64 a0_5]] (by rfl) rfl rfl (by (try simp only [List.map_toArray, List.map_cons, List.map_nil]); first | done | rfl | (simp only [List.length_drop, List.length_take]; rfl)) ?_
        with_reducible refine (stair_Check.calls k a0_0 a0_1 a0_2 a0_3 a0_4 a0_5 t247 _ A10.out).mono ?_
        rintro e w16 ⟨rfl, hb⟩
        refine ⟨_, rfl, ?_⟩
        have n0_ := Aside0.mk (blk_below (g := gb244) (o := .cells #[.int .i64 a0_0, .int .i64 a0_1, .int .i64 a0_2, .int .i64 a0_3, .int .i64 a0_4, .int .i64 a0_5] 25 (0, 0)) (by (with_reducible repeat (first | refine blk_drewN ?_ _ | refine blk_drew ?_ | refine blk_alloc ?_ _)); exact BK244.out) hb)
        have n1_ := Aside0.mk (blk_below (g := gb245) (o := .cells #[.int .i64 a1_0, .int .i64 a1_1, .int .i64 a1_2, .int .i64 a1_3, .int .i64 a1_4, .int .i64 a1_5] 27 (0, 0)) (by (with_reducible repeat (first | refine blk_drewN ?_ _ | refine blk_drew ?_ | refine blk_alloc ?_ _)); exact BK245.out) hb)
        have n2_ := Aside0.mk (below_step (by repeat (first | (with_reducible first | exact HB.out | apply below_alloc | apply pw_below_drewN | apply below_drew1 | refine below_set ?_ GE244.out | refine below_set ?_ GE245.out) | exact HB.out)) hb)
        clear BK244
        clear BK245
        clear HB
        have BK244 := n0_
        have BK245 := n1_
        have HB := n2_
        clear n0_ n1_ n2_
        (try clear hb)
        (try clear hb2)
        (try clear hk)
        (try clear hi)
        refine hK.out _ _ ⟨(blk_cell BK244.out 0).trans rfl, (blk_cell BK244.out 1).trans rfl, (blk_cell BK244.out 2).trans rfl, (blk_cell BK244.out 3).trans rfl, (blk_cell BK244.out 4).trans rfl, (blk_cell BK244.out 5).trans rfl, (blk_cell BK245.out 0).trans rfl, (blk_cell BK245.out 1).trans rfl, (blk_cell BK245.out 2).trans rfl, (blk_cell BK245.out 3).trans rfl, (blk_cell BK245.out 4).trans rfl, (blk_cell BK245.out 5).trans rfl⟩ (fun hHeld => ?_)
        clear hK K
        refine norm_ (a' := ?_) ?_ ?_
        rotate_left
        · show Act.put _ (some 15) _ = _
          simp only [Act.put, List.setIfInBounds_toArray, List.set_cons_zero, List.set_cons_succ, i64_w, i32_w]
          rfl
        refine one_ (i := 3) (N := some 17) #[true, true, true, true, false, false, false, false, false, false, false, false, false, false] rfl rfl (one_of HT_.out (by kernel_rfl)) (by decide) (fun K hK => ?_)
        refine goes_ Try.func13 (by kernel_rfl) rfl #[.agg #[.int .i64 a0_0, .int .i64 a0_1, .int .i64 a0_2, .int .i64 a0_3, .int .i64 a0_4, .int .i64 a0_5]] (by rfl) rfl rfl (by (try simp only [List.map_toArray, List.map_cons, List.map_nil]); first | done | rfl | (simp only [List.length_drop, List.length_take]; rfl)) ?_
        with_reducible refine (gangsawref42_Check.calls k a0_0 a0_1 a0_2 a0_3 a0_4 a0_5 t248 _ A11.out).mono ?_
        rintro e w17 ⟨rfl, hb⟩
        refine ⟨_, rfl, ?_⟩
        have n0_ := Aside0.mk (blk_below (g := gb244) (o := .cells #[.int .i64 a0_0, .int .i64 a0_1, .int .i64 a0_2, .int .i64 a0_3, .int .i64 a0_4, .int .i64 a0_5] 25 (0, 0)) (by (with_reducible repeat (first | refine blk_drewN ?_ _ | refine blk_drew ?_ | refine blk_alloc ?_ _)); exact BK244.out) hb)
        have n1_ := Aside0.mk (blk_below (g := gb245) (o := .cells #[.int .i64 a1_0, .int .i64 a1_1, .int .i64 a1_2, .int .i64 a1_3, .int .i64 a1_4, .int .i64 a1_5] 27 (0, 0)) (by (with_reducible repeat (first | refine blk_drewN ?_ _ | refine blk_drew ?_ | refine blk_alloc ?_ _)); exact BK245.out) hb)
        have n2_ := Aside0.mk (below_step (by repeat (first | (with_reducible first | exact HB.out | apply below_alloc | apply pw_below_drewN | apply below_drew1 | refine below_set ?_ GE244.out | refine below_set ?_ GE245.out) | exact HB.out)) hb)
        clear BK244
        clear BK245
        clear HB
        have BK244 := n0_
        have BK245 := n1_
        have HB := n2_
        clear n0_ n1_ n2_
        (try clear hb)
        (try clear hb2)
        (try clear hk)
        (try clear hi)
        refine hK.out _ _ ⟨(blk_cell BK244.out 0).trans rfl, (blk_cell BK244.out 1).trans rfl, (blk_cell BK244.out 2).trans rfl, (blk_cell BK244.out 3).trans rfl, (blk_cell BK244.out 4).trans rfl, (blk_cell BK244.out 5).trans rfl, (blk_cell BK245.out 0).trans rfl, (blk_cell BK245.out 1).trans rfl, (blk_cell BK245.out 2).trans rfl, (blk_cell BK245.out 3).trans rfl, (blk_cell BK245.out 4).trans rfl, (blk_cell BK245.out 5).trans rfl⟩ (fun hHeld => ?_)
        clear hK K
        refine norm_ (a' := ?_) ?_ ?_
        rotate_left
        · show Act.put _ (some 17) _ = _
          simp only [Act.put, List.setIfInBounds_toArray, List.set_cons_zero, List.set_cons_succ, i64_w, i32_w]
          rfl
        refine pure_ (i := 4) (N := some 18) (v := ?_) (a' := ?_) #[true, true, true, true, true, false, false, false, false, false, false, false, false, false] rfl rfl (any_of HT_.out (by kernel_rfl)) (fun _ _ _ h => h) (Or.inl ⟨by rfl, ?_⟩) ?_ ?_
        rotate_left
        · intro w'
          go_simp
          with_reducible rfl
        rotate_left
        · simp only [Act.put, List.setIfInBounds_toArray, List.set_cons_zero, List.set_cons_succ, i64_w, i32_w]
          rfl
        refine pure_ (i := 5) (N := some 19) (v := ?_) (a' := ?_) #[true, true, true, true, true, true, false, false, false, false, false, false, false, false] rfl rfl (any_of HT_.out (by kernel_rfl)) (fun _ _ _ h => h) (Or.inl ⟨by rfl, ?_⟩) ?_ ?_
        rotate_left
        · intro w'
          go_simp
          with_reducible rfl
        rotate_left
        · simp only [Act.put, List.setIfInBounds_toArray, List.set_cons_zero, List.set_cons_succ, i64_w, i32_w]
          rfl
        refine take_ (i := 6) (N := some 20) (v := ?_) (a' := ?_) #[true, true, true, true, true, true, true, false, false, false, false, false, false, false] rfl rfl (take_ofW HT_.out HW_.out (by kernel_rfl)) (fun _ _ _ h => h) (Or.inl ⟨by rfl, ?_⟩) hHeld ?_ ?_
        rotate_left
        · rintro w' ⟨s0, s1, s2, s3, s4, s5, s6, s7, s8, s9, s10, s11⟩
          go_simp
          with_reducible rfl
        rotate_left
        · simp only [Act.put, List.setIfInBounds_toArray, List.set_cons_zero, List.set_cons_succ, i64_w, i32_w]
          rfl
        refine take_ (i := 7) (N := some 21) (v := ?_) (a' := ?_) #[true, true, true, true, true, true, true, true, false, false, false, false, false, false] rfl rfl (take_ofW HT_.out HW_.out (by kernel_rfl)) (fun _ _ _ h => h) (Or.inl ⟨by rfl, ?_⟩) hHeld ?_ ?_
        rotate_left
        · rintro w' ⟨s0, s1, s2, s3, s4, s5, s6, s7, s8, s9, s10, s11⟩
          go_simp
          with_reducible rfl
        rotate_left
        · simp only [Act.put, List.setIfInBounds_toArray, List.set_cons_zero, List.set_cons_succ, i64_w, i32_w]
          rfl
        refine take_ (i := 9) (N := some 23) (v := ?_) (a' := ?_) #[true, true, true, true, true, true, true, true, false, true, false, false, false, false] rfl rfl (take_ofW HT_.out HW_.out (by kernel_rfl)) (fun _ _ _ h => h) (Or.inl ⟨by rfl, ?_⟩) hHeld ?_ ?_
        rotate_left
        · rintro w' ⟨s0, s1, s2, s3, s4, s5, s6, s7, s8, s9, s10, s11⟩
          go_simp
          with_reducible rfl
        rotate_left
        · simp only [Act.put, List.setIfInBounds_toArray, List.set_cons_zero, List.set_cons_succ, i64_w, i32_w]
          rfl
        refine take_ (i := 10) (N := some 24) (v := ?_) (a' := ?_) #[true, true, true, true, true, true, true, true, false, true, true, false, false, false] rfl rfl (take_ofW HT_.out HW_.out (by kernel_rfl)) (fun _ _ _ h => h) (Or.inl ⟨by rfl, ?_⟩) hHeld ?_ ?_
        rotate_left
        · rintro w' ⟨s0, s1, s2, s3, s4, s5, s6, s7, s8, s9, s10, s11⟩
          go_simp
          with_reducible rfl
        rotate_left
        · simp only [Act.put, List.setIfInBounds_toArray, List.set_cons_zero, List.set_cons_succ, i64_w, i32_w]
          rfl
        refine one_ (i := 8) (N := some 22) #[true, true, true, true, true, true, true, true, true, true, true, false, false, false] rfl rfl (one_of HT_.out (by kernel_rfl)) (by decide) (fun K hK => ?_)
        refine goes_ Try.func14 (by kernel_rfl) rfl #[.agg #[.int .i64 a0_0, .int .i64 a0_1, .int .i64 a0_2, .int .i64 a0_3, .int .i64 a0_4, .int .i64 a0_5], .agg #[.int .i64 a1_0, .int .i64 a1_1, .int .i64 a1_2, .int .i64 a1_3, .int .i64 a1_4, .int .i64 a1_5]] (by rfl) rfl rfl (by (try simp only [List.map_toArray, List.map_cons, List.map_nil]); first | done | rfl | (simp only [List.length_drop, List.length_take]; rfl)) ?_
        with_reducible refine (stair_Fits.calls k a0_0 a0_1 a0_2 a0_3 a0_4 a0_5 a1_0 a1_1 a1_2 a1_3 a1_4 a1_5 t249 _ A13.out).mono ?_
        rintro e w18 ⟨rfl, hb⟩
        refine ⟨_, rfl, ?_⟩
        have n0_ := Aside0.mk (blk_below (g := gb244) (o := .cells #[.int .i64 a0_0, .int .i64 a0_1, .int .i64 a0_2, .int .i64 a0_3, .int .i64 a0_4, .int .i64 a0_5] 25 (0, 0)) (by (with_reducible repeat (first | refine blk_drewN ?_ _ | refine blk_drew ?_ | refine blk_alloc ?_ _)); exact BK244.out) hb)
        have n1_ := Aside0.mk (blk_below (g := gb245) (o := .cells #[.int .i64 a1_0, .int .i64 a1_1, .int .i64 a1_2, .int .i64 a1_3, .int .i64 a1_4, .int .i64 a1_5] 27 (0, 0)) (by (with_reducible repeat (first | refine blk_drewN ?_ _ | refine blk_drew ?_ | refine blk_alloc ?_ _)); exact BK245.out) hb)
        have n2_ := Aside0.mk (below_step (by repeat (first | (with_reducible first | exact HB.out | apply below_alloc | apply pw_below_drewN | apply below_drew1 | refine below_set ?_ GE244.out | refine below_set ?_ GE245.out) | exact HB.out)) hb)
        clear BK244
        clear BK245
        clear HB
        have BK244 := n0_
        have BK245 := n1_
        have HB := n2_
        clear n0_ n1_ n2_
        (try clear hb)
        (try clear hb2)
        (try clear hk)
        (try clear hi)
        refine hK.out _ _ ⟨(blk_cell BK244.out 0).trans rfl, (blk_cell BK244.out 1).trans rfl, (blk_cell BK244.out 2).trans rfl, (blk_cell BK244.out 3).trans rfl, (blk_cell BK244.out 4).trans rfl, (blk_cell BK244.out 5).trans rfl, (blk_cell BK245.out 0).trans rfl, (blk_cell BK245.out 1).trans rfl, (blk_cell BK245.out 2).trans rfl, (blk_cell BK245.out 3).trans rfl, (blk_cell BK245.out 4).trans rfl, (blk_cell BK245.out 5).trans rfl⟩ (fun hHeld => ?_)
        clear hK K
        refine norm_ (a' := ?_) ?_ ?_
        rotate_left
        · show Act.put _ (some 22) _ = _
          simp only [Act.put, List.setIfInBounds_toArray, List.set_cons_zero, List.set_cons_succ, i64_w, i32_w]
          rfl
        refine one_ (i := 11) (N := some 25) #[true, true, true, true, true, true, true, true, true, true, true, true, false, false] rfl rfl (one_of HT_.out (by kernel_rfl)) (by decide) (fun K hK => ?_)
        refine goes_ Try.func15 (by kernel_rfl) rfl #[.agg #[.int .i64 a0_0, .int .i64 a0_1, .int .i64 a0_2, .int .i64 a0_3, .int .i64 a0_4, .int .i64 a0_5], .agg #[.int .i64 a1_0, .int .i64 a1_1, .int .i64 a1_2, .int .i64 a1_3, .int .i64 a1_4, .int .i64 a1_5]] (by rfl) rfl rfl (by (try simp only [List.map_toArray, List.map_cons, List.map_nil]); first | done | rfl | (simp only [List.length_drop, List.length_take]; rfl)) ?_
        with_reducible refine (gangsawref42_Fits.calls k a0_0 a0_1 a0_2 a0_3 a0_4 a0_5 a1_0 a1_1 a1_2 a1_3 a1_4 a1_5 t250 _ A14.out).mono ?_
        rintro e w19 ⟨rfl, hb⟩
        refine ⟨_, rfl, ?_⟩
        have n0_ := Aside0.mk (blk_below (g := gb244) (o := .cells #[.int .i64 a0_0, .int .i64 a0_1, .int .i64 a0_2, .int .i64 a0_3, .int .i64 a0_4, .int .i64 a0_5] 25 (0, 0)) (by (with_reducible repeat (first | refine blk_drewN ?_ _ | refine blk_drew ?_ | refine blk_alloc ?_ _)); exact BK244.out) hb)
        have n1_ := Aside0.mk (blk_below (g := gb245) (o := .cells #[.int .i64 a1_0, .int .i64 a1_1, .int .i64 a1_2, .int .i64 a1_3, .int .i64 a1_4, .int .i64 a1_5] 27 (0, 0)) (by (with_reducible repeat (first | refine blk_drewN ?_ _ | refine blk_drew ?_ | refine blk_alloc ?_ _)); exact BK245.out) hb)
        have n2_ := Aside0.mk (below_step (by repeat (first | (with_reducible first | exact HB.out | apply below_alloc | apply pw_below_drewN | apply below_drew1 | refine below_set ?_ GE244.out | refine below_set ?_ GE245.out) | exact HB.out)) hb)
        clear BK244
        clear BK245
        clear HB
        have BK244 := n0_
        have BK245 := n1_
        have HB := n2_
        clear n0_ n1_ n2_
        (try clear hb)
        (try clear hb2)
        (try clear hk)
        (try clear hi)
        refine hK.out _ _ ⟨(blk_cell BK244.out 0).trans rfl, (blk_cell BK244.out 1).trans rfl, (blk_cell BK244.out 2).trans rfl, (blk_cell BK244.out 3).trans rfl, (blk_cell BK244.out 4).trans rfl, (blk_cell BK244.out 5).trans rfl, (blk_cell BK245.out 0).trans rfl, (blk_cell BK245.out 1).trans rfl, (blk_cell BK245.out 2).trans rfl, (blk_cell BK245.out 3).trans rfl, (blk_cell BK245.out 4).trans rfl, (blk_cell BK245.out 5).trans rfl⟩ (fun hHeld => ?_)
        clear hK K
        refine norm_ (a' := ?_) ?_ ?_
        rotate_left
        · show Act.put _ (some 25) _ = _
          simp only [Act.put, List.setIfInBounds_toArray, List.set_cons_zero, List.set_cons_succ, i64_w, i32_w]
          rfl
        refine pure_ (i := 12) (N := some 26) (v := ?_) (a' := ?_) #[true, true, true, true, true, true, true, true, true, true, true, true, true, false] rfl rfl (any_of HT_.out (by kernel_rfl)) (fun _ _ _ h => h) (Or.inl ⟨by rfl, ?_⟩) ?_ ?_
        rotate_left
        · intro w'
          go_simp
          with_reducible rfl
        rotate_left
        · simp only [Act.put, List.setIfInBounds_toArray, List.set_cons_zero, List.set_cons_succ, i64_w, i32_w]
          rfl
        refine pure_ (i := 13) (N := some 27) (v := ?_) (a' := ?_) #[true, true, true, true, true, true, true, true, true, true, true, true, true, true] rfl rfl (any_of HT_.out (by kernel_rfl)) (fun _ _ _ h => h) (Or.inl ⟨by rfl, ?_⟩) ?_ ?_
        rotate_left
        · intro w'
          go_simp
          with_reducible rfl
        rotate_left
        · simp only [Act.put, List.setIfInBounds_toArray, List.set_cons_zero, List.set_cons_succ, i64_w, i32_w]
          rfl
        refine done_ (done_of HT_.out (by kernel_rfl)) ?_
        try go_wp2
        go_meet
        case rel => exact ⟨_, ((t249 != t250)), (by first | rfl | (simp; done) | (simp [*]; done)), H', ⟨by first | omega | exact Nat.le_refl _⟩, ⟨by (with_reducible repeat (first | refine blk_drewN ?_ _ | refine blk_drew ?_ | refine blk_alloc ?_ _)); exact BK244.out⟩, ⟨by (with_reducible repeat (first | refine blk_drewN ?_ _ | refine blk_drew ?_ | refine blk_alloc ?_ _)); exact BK245.out⟩, ⟨by repeat (first | (with_reducible first | exact HB.out | apply below_alloc | apply pw_below_drewN | apply below_drew1 | refine below_set ?_ GE244.out | refine below_set ?_ GE245.out) | exact HB.out)⟩⟩
      · rw [if_neg c12] at H
        have c12b0 : (t247 == t248) = false := beq_eq_false_iff_ne.mpr c12
        have c12b1 : (t247 != t248) = true := bne_iff_ne.mpr c12
        (first | rw [c12b0] | (simp only [i64_w, i32_w]; rw [c12b0]) | skip)
        have H' := Aside0.mk H
        clear H
        try go_wp2
        have n0_ := Aside0.mk (blk_drew BK244.out)
        have n1_ := Aside0.mk (blk_drew BK245.out)
        have n2_ := Aside0.mk (below_drew1 HB.out)
        clear BK244
        clear BK245
        clear HB
        have BK244 := n0_
        have BK245 := n1_
        have HB := n2_
        clear n0_ n1_ n2_
        refine start_ (n := 14) (S := fun w' => w'.cell? ⟨gb244, 0, none⟩ = some (.int .i64 a0_0) ∧ w'.cell? ⟨gb244, 1, none⟩ = some (.int .i64 a0_1) ∧ w'.cell? ⟨gb244, 2, none⟩ = some (.int .i64 a0_2) ∧ w'.cell? ⟨gb244, 3, none⟩ = some (.int .i64 a0_3) ∧ w'.cell? ⟨gb244, 4, none⟩ = some (.int .i64 a0_4) ∧ w'.cell? ⟨gb244, 5, none⟩ = some (.int .i64 a0_5)) (ds := []) #[false, false, false, false, false, false, false, false, false, false, false, false, false, false] (by kernel_rfl) rfl rfl ⟨(blk_cell BK244.out 0).trans rfl, (blk_cell BK244.out 1).trans rfl, (blk_cell BK244.out 2).trans rfl, (blk_cell BK244.out 3).trans rfl, (blk_cell BK244.out 4).trans rfl, (blk_cell BK244.out 5).trans rfl⟩ (fun hHeld => ?_); refine with_tabW gangsawlaw42_StairChecks.tab3 gangsawlaw42_StairChecks.bits3 (fun HT_ HW_ => ?_)
        generalize w9.drew = w20 at BK244 BK245 HB hHeld ⊢
        refine take_ (i := 0) (N := some 14) (v := ?_) (a' := ?_) #[true, false, false, false, false, false, false, false, false, false, false, false, false, false] rfl rfl (take_ofW HT_.out HW_.out (by kernel_rfl)) (fun _ _ _ h => h) (Or.inl ⟨by rfl, ?_⟩) hHeld ?_ ?_
        rotate_left
        · rintro w' ⟨s0, s1, s2, s3, s4, s5⟩
          go_simp
          with_reducible rfl
        rotate_left
        · simp only [Act.put, List.setIfInBounds_toArray, List.set_cons_zero, List.set_cons_succ, i64_w, i32_w]
          rfl
        refine take_ (i := 2) (N := some 16) (v := ?_) (a' := ?_) #[true, false, true, false, false, false, false, false, false, false, false, false, false, false] rfl rfl (take_ofW HT_.out HW_.out (by kernel_rfl)) (fun _ _ _ h => h) (Or.inl ⟨by rfl, ?_⟩) hHeld ?_ ?_
        rotate_left
        · rintro w' ⟨s0, s1, s2, s3, s4, s5⟩
          go_simp
          with_reducible rfl
        rotate_left
        · simp only [Act.put, List.setIfInBounds_toArray, List.set_cons_zero, List.set_cons_succ, i64_w, i32_w]
          rfl
        refine one_ (i := 1) (N := some 15) #[true, true, true, false, false, false, false, false, false, false, false, false, false, false] rfl rfl (one_of HT_.out (by kernel_rfl)) (by decide) (fun K hK => ?_)
        refine goes_ Try.func12 (by kernel_rfl) rfl #[.agg #[.int .i64 a0_0, .int .i64 a0_1, .int .i64 a0_2, .int .i64 a0_3, .int .i64 a0_4, .int .i64 a0_5]] (by rfl) rfl rfl (by (try simp only [List.map_toArray, List.map_cons, List.map_nil]); first | done | rfl | (simp only [List.length_drop, List.length_take]; rfl)) ?_
        with_reducible refine (stair_Check.calls k a0_0 a0_1 a0_2 a0_3 a0_4 a0_5 t247 _ A10.out).mono ?_
        rintro e w21 ⟨rfl, hb⟩
        refine ⟨_, rfl, ?_⟩
        have n0_ := Aside0.mk (blk_below (g := gb244) (o := .cells #[.int .i64 a0_0, .int .i64 a0_1, .int .i64 a0_2, .int .i64 a0_3, .int .i64 a0_4, .int .i64 a0_5] 25 (0, 0)) (by (with_reducible repeat (first | refine blk_drewN ?_ _ | refine blk_drew ?_ | refine blk_alloc ?_ _)); exact BK244.out) hb)
        have n1_ := Aside0.mk (blk_below (g := gb245) (o := .cells #[.int .i64 a1_0, .int .i64 a1_1, .int .i64 a1_2, .int .i64 a1_3, .int .i64 a1_4, .int .i64 a1_5] 27 (0, 0)) (by (with_reducible repeat (first | refine blk_drewN ?_ _ | refine blk_drew ?_ | refine blk_alloc ?_ _)); exact BK245.out) hb)
        have n2_ := Aside0.mk (below_step (by repeat (first | (with_reducible first | exact HB.out | apply below_alloc | apply pw_below_drewN | apply below_drew1 | refine below_set ?_ GE244.out | refine below_set ?_ GE245.out) | exact HB.out)) hb)
        clear BK244
        clear BK245
        clear HB
        have BK244 := n0_
        have BK245 := n1_
        have HB := n2_
        clear n0_ n1_ n2_
        (try clear hb)
        (try clear hb2)
        (try clear hk)
        (try clear hi)
        refine hK.out _ _ ⟨(blk_cell BK244.out 0).trans rfl, (blk_cell BK244.out 1).trans rfl, (blk_cell BK244.out 2).trans rfl, (blk_cell BK244.out 3).trans rfl, (blk_cell BK244.out 4).trans rfl, (blk_cell BK244.out 5).trans rfl⟩ (fun hHeld => ?_)
        clear hK K
        refine norm_ (a' := ?_) ?_ ?_
        rotate_left
        · show Act.put _ (some 15) _ = _
          simp only [Act.put, List.setIfInBounds_toArray, List.set_cons_zero, List.set_cons_succ, i64_w, i32_w]
          rfl
        refine one_ (i := 3) (N := some 17) #[true, true, true, true, false, false, false, false, false, false, false, false, false, false] rfl rfl (one_of HT_.out (by kernel_rfl)) (by decide) (fun K hK => ?_)
        refine goes_ Try.func13 (by kernel_rfl) rfl #[.agg #[.int .i64 a0_0, .int .i64 a0_1, .int .i64 a0_2, .int .i64 a0_3, .int .i64 a0_4, .int .i64 a0_5]] (by rfl) rfl rfl (by (try simp only [List.map_toArray, List.map_cons, List.map_nil]); first | done | rfl | (simp only [List.length_drop, List.length_take]; rfl)) ?_
        with_reducible refine (gangsawref42_Check.calls k a0_0 a0_1 a0_2 a0_3 a0_4 a0_5 t248 _ A11.out).mono ?_
        rintro e w22 ⟨rfl, hb⟩
        refine ⟨_, rfl, ?_⟩
        have n0_ := Aside0.mk (blk_below (g := gb244) (o := .cells #[.int .i64 a0_0, .int .i64 a0_1, .int .i64 a0_2, .int .i64 a0_3, .int .i64 a0_4, .int .i64 a0_5] 25 (0, 0)) (by (with_reducible repeat (first | refine blk_drewN ?_ _ | refine blk_drew ?_ | refine blk_alloc ?_ _)); exact BK244.out) hb)
        have n1_ := Aside0.mk (blk_below (g := gb245) (o := .cells #[.int .i64 a1_0, .int .i64 a1_1, .int .i64 a1_2, .int .i64 a1_3, .int .i64 a1_4, .int .i64 a1_5] 27 (0, 0)) (by (with_reducible repeat (first | refine blk_drewN ?_ _ | refine blk_drew ?_ | refine blk_alloc ?_ _)); exact BK245.out) hb)
        have n2_ := Aside0.mk (below_step (by repeat (first | (with_reducible first | exact HB.out | apply below_alloc | apply pw_below_drewN | apply below_drew1 | refine below_set ?_ GE244.out | refine below_set ?_ GE245.out) | exact HB.out)) hb)
        clear BK244
        clear BK245
        clear HB
        have BK244 := n0_
        have BK245 := n1_
        have HB := n2_
        clear n0_ n1_ n2_
        (try clear hb)
        (try clear hb2)
        (try clear hk)
        (try clear hi)
        refine hK.out _ _ ⟨(blk_cell BK244.out 0).trans rfl, (blk_cell BK244.out 1).trans rfl, (blk_cell BK244.out 2).trans rfl, (blk_cell BK244.out 3).trans rfl, (blk_cell BK244.out 4).trans rfl, (blk_cell BK244.out 5).trans rfl⟩ (fun hHeld => ?_)
        clear hK K
        refine norm_ (a' := ?_) ?_ ?_
        rotate_left
        · show Act.put _ (some 17) _ = _
          simp only [Act.put, List.setIfInBounds_toArray, List.set_cons_zero, List.set_cons_succ, i64_w, i32_w]
          rfl
        refine pure_ (i := 4) (N := some 18) (v := ?_) (a' := ?_) #[true, true, true, true, true, false, false, false, false, false, false, false, false, false] rfl rfl (any_of HT_.out (by kernel_rfl)) (fun _ _ _ h => h) (Or.inl ⟨by rfl, ?_⟩) ?_ ?_
        rotate_left
        · intro w'
          go_simp
          with_reducible rfl
        rotate_left
        · simp only [Act.put, List.setIfInBounds_toArray, List.set_cons_zero, List.set_cons_succ, i64_w, i32_w]
          rfl
        refine pure_ (i := 5) (N := some 19) (v := ?_) (a' := ?_) #[true, true, true, true, true, true, false, false, false, false, false, false, false, false] rfl rfl (any_of HT_.out (by kernel_rfl)) (fun _ _ _ h => h) (Or.inl ⟨by rfl, ?_⟩) ?_ ?_
        rotate_left
        · intro w'
          go_simp
          with_reducible rfl
        rotate_left
        · simp only [Act.put, List.setIfInBounds_toArray, List.set_cons_zero, List.set_cons_succ, i64_w, i32_w]
          rfl
        refine pure_ (i := 6) (N := some 20) (v := undef) (a' := ?_) #[true, true, true, true, true, true, true, false, false, false, false, false, false, false] rfl rfl (any_of HT_.out (by kernel_rfl)) (fun _ _ _ h => h) (Or.inr ⟨by rfl, rfl⟩) ?_ ?_
        rotate_left
        · simp only [Act.put, List.setIfInBounds_toArray, List.set_cons_zero, List.set_cons_succ, i64_w, i32_w]
          rfl
        refine pure_ (i := 7) (N := some 21) (v := undef) (a' := ?_) #[true, true, true, true, true, true, true, true, false, false, false, false, false, false] rfl rfl (any_of HT_.out (by kernel_rfl)) (fun _ _ _ h => h) (Or.inr ⟨by rfl, rfl⟩) ?_ ?_
        rotate_left
        · simp only [Act.put, List.setIfInBounds_toArray, List.set_cons_zero, List.set_cons_succ, i64_w, i32_w]
          rfl
        refine pure_ (i := 8) (N := some 22) (v := undef) (a' := ?_) #[true, true, true, true, true, true, true, true, true, false, false, false, false, false] rfl rfl (any_of HT_.out (by kernel_rfl)) (fun _ _ _ h => h) (Or.inr ⟨by rfl, rfl⟩) ?_ ?_
        rotate_left
        · simp only [Act.put, List.setIfInBounds_toArray, List.set_cons_zero, List.set_cons_succ, i64_w, i32_w]
          rfl
        refine pure_ (i := 9) (N := some 23) (v := undef) (a' := ?_) #[true, true, true, true, true, true, true, true, true, true, false, false, false, false] rfl rfl (any_of HT_.out (by kernel_rfl)) (fun _ _ _ h => h) (Or.inr ⟨by rfl, rfl⟩) ?_ ?_
        rotate_left
        · simp only [Act.put, List.setIfInBounds_toArray, List.set_cons_zero, List.set_cons_succ, i64_w, i32_w]
          rfl
        refine pure_ (i := 10) (N := some 24) (v := undef) (a' := ?_) #[true, true, true, true, true, true, true, true, true, true, true, false, false, false] rfl rfl (any_of HT_.out (by kernel_rfl)) (fun _ _ _ h => h) (Or.inr ⟨by rfl, rfl⟩) ?_ ?_
        rotate_left
        · simp only [Act.put, List.setIfInBounds_toArray, List.set_cons_zero, List.set_cons_succ, i64_w, i32_w]
          rfl
        refine pure_ (i := 11) (N := some 25) (v := undef) (a' := ?_) #[true, true, true, true, true, true, true, true, true, true, true, true, false, false] rfl rfl (any_of HT_.out (by kernel_rfl)) (fun _ _ _ h => h) (Or.inr ⟨by rfl, rfl⟩) ?_ ?_
        rotate_left
        · simp only [Act.put, List.setIfInBounds_toArray, List.set_cons_zero, List.set_cons_succ, i64_w, i32_w]
          rfl
        refine pure_ (i := 12) (N := some 26) (v := undef) (a' := ?_) #[true, true, true, true, true, true, true, true, true, true, true, true, true, false] rfl rfl (any_of HT_.out (by kernel_rfl)) (fun _ _ _ h => h) (Or.inr ⟨by rfl, rfl⟩) ?_ ?_
        rotate_left
        · simp only [Act.put, List.setIfInBounds_toArray, List.set_cons_zero, List.set_cons_succ, i64_w, i32_w]
          rfl
        refine pure_ (i := 13) (N := some 27) (v := ?_) (a' := ?_) #[true, true, true, true, true, true, true, true, true, true, true, true, true, true] rfl rfl (any_of HT_.out (by kernel_rfl)) (fun _ _ _ h => h) (Or.inl ⟨by rfl, ?_⟩) ?_ ?_
        rotate_left
        · intro w'
          go_simp
          with_reducible rfl
        rotate_left
        · simp only [Act.put, List.setIfInBounds_toArray, List.set_cons_zero, List.set_cons_succ, i64_w, i32_w]
          rfl
        refine done_ (done_of HT_.out (by kernel_rfl)) ?_
        try go_wp2
        go_meet
        case rel => exact ⟨_, (true), (by first | rfl | (simp; done) | (simp [*]; done)), H', ⟨by first | omega | exact Nat.le_refl _⟩, ⟨by (with_reducible repeat (first | refine blk_drewN ?_ _ | refine blk_drew ?_ | refine blk_alloc ?_ _)); exact BK244.out⟩, ⟨by (with_reducible repeat (first | refine blk_drewN ?_ _ | refine blk_drew ?_ | refine blk_alloc ?_ _)); exact BK245.out⟩, ⟨by repeat (first | (with_reducible first | exact HB.out | apply below_alloc | apply pw_below_drewN | apply below_drew1 | refine below_set ?_ GE244.out | refine below_set ?_ GE245.out) | exact HB.out)⟩⟩
    case rest =>
      clear HC6
      try clear c1
      try clear p2
      try clear c3
      try clear c5
      try clear c11
      try clear c12
      try clear c12b0
      try clear c12b1
      try clear c13
      try clear c14
      try clear c15
      obtain ⟨kq, x27_5, rfl, HA, HJ5, BK244, BK245, HB⟩ := hcut
      cases kq with
      | zero => exact absurd HA.out (by simp [gangsawlaw42_StairChecks.j0])
      | succ kj5 =>
        have H := HA.out
        clear HA
        simp only [gangsawlaw42_StairChecks.j0] at H
        by_cases c23 : x27_5 = true
        · subst c23
          have H1 : (some false) = some r := by rw [if_pos rfl] at H; exact H
          clear H
          have H := H1
          clear H1
          obtain rfl := Option.some.inj H
          go_wp2
          go_ret
          exact ⟨by first | rfl | (simp [errW_none, errW_some] <;> rfl) | (simp [*, errW_none, errW_some] <;> rfl), by repeat (first | (with_reducible first | exact HB.out | apply below_alloc | apply pw_below_drewN | apply below_drew1 | refine below_set ?_ GE244.out | refine below_set ?_ GE245.out) | exact HB.out)⟩
        · replace c23 := Bool.eq_false_iff.mpr c23
          subst c23
          have H1 : ((stair_Height.f a1_0 a1_1 a1_2 a1_3 a1_4 a1_5).bind fun bt251 => ((stair_Level.f a1_0 a1_1 a1_2 a1_3 a1_4 a1_5 a2).bind fun bt254 => ((gangsawref42_Valid.f a1_0 a1_1 a1_2 a1_3 a1_4 a1_5).bind fun t256 => (if t256 = true then (if bt251.2.2 = 0 then ((gangsawref42_Level.f kj5 a1_0 a1_1 a1_2 a1_3 a1_4 a1_5 (wrap64 (a1_0 - 1))).bind fun t257 => (if bt251.1 = t257 then (gangsawlaw42_StairChecks.j1 kj5 a2 bt254.1 bt254.2 (bt251.2.1 != (wrap64 (a1_0 * a1_3))) a1_0 a1_1 a1_2 a1_3 a1_4 a1_5) else (gangsawlaw42_StairChecks.j1 kj5 a2 bt254.1 bt254.2 true a1_0 a1_1 a1_2 a1_3 a1_4 a1_5))) else (gangsawlaw42_StairChecks.j1 kj5 a2 bt254.1 bt254.2 true a1_0 a1_1 a1_2 a1_3 a1_4 a1_5)) else (if bt251.2.2 = 1 then (if bt254.2 = bt251.2.2 then (if bt251.1 = 0 then (if bt251.2.1 = 0 then (some (bt254.1 == 0)) else (some false)) else (some false)) else (some false)) else (some false)))))) = some r := by rw [if_neg (show ¬ (false = true) by decide)] at H; exact H
          clear H
          have H := H1
          clear H1
          replace H := Option.bind_eq_some_iff.mp H
          obtain ⟨⟨t251, t252, t253⟩, A240, H⟩ := H
          replace H : ((stair_Level.f a1_0 a1_1 a1_2 a1_3 a1_4 a1_5 a2).bind fun bt254 => ((gangsawref42_Valid.f a1_0 a1_1 a1_2 a1_3 a1_4 a1_5).bind fun t256 => (if t256 = true then (if t253 = 0 then ((gangsawref42_Level.f kj5 a1_0 a1_1 a1_2 a1_3 a1_4 a1_5 (wrap64 (a1_0 - 1))).bind fun t257 => (if t251 = t257 then (gangsawlaw42_StairChecks.j1 kj5 a2 bt254.1 bt254.2 (t252 != (wrap64 (a1_0 * a1_3))) a1_0 a1_1 a1_2 a1_3 a1_4 a1_5) else (gangsawlaw42_StairChecks.j1 kj5 a2 bt254.1 bt254.2 true a1_0 a1_1 a1_2 a1_3 a1_4 a1_5))) else (gangsawlaw42_StairChecks.j1 kj5 a2 bt254.1 bt254.2 true a1_0 a1_1 a1_2 a1_3 a1_4 a1_5)) else (if t253 = 1 then (if bt254.2 = t253 then (if t251 = 0 then (if t252 = 0 then (some (bt254.1 == 0)) else (some false)) else (some false)) else (some false)) else (some false))))) = some r := H
          have A24 := Aside0.mk A240
          clear A240
          replace H := Option.bind_eq_some_iff.mp H
          obtain ⟨⟨t254, t255⟩, A250, H⟩ := H
          replace H : ((gangsawref42_Valid.f a1_0 a1_1 a1_2 a1_3 a1_4 a1_5).bind fun t256 => (if t256 = true then (if t253 = 0 then ((gangsawref42_Level.f kj5 a1_0 a1_1 a1_2 a1_3 a1_4 a1_5 (wrap64 (a1_0 - 1))).bind fun t257 => (if t251 = t257 then (gangsawlaw42_StairChecks.j1 kj5 a2 t254 t255 (t252 != (wrap64 (a1_0 * a1_3))) a1_0 a1_1 a1_2 a1_3 a1_4 a1_5) else (gangsawlaw42_StairChecks.j1 kj5 a2 t254 t255 true a1_0 a1_1 a1_2 a1_3 a1_4 a1_5))) else (gangsawlaw42_StairChecks.j1 kj5 a2 t254 t255 true a1_0 a1_1 a1_2 a1_3 a1_4 a1_5)) else (if t253 = 1 then (if t255 = t253 then (if t251 = 0 then (if t252 = 0 then (some (t254 == 0)) else (some false)) else (some false)) else (some false)) else (some false)))) = some r := H
          have A25 := Aside0.mk A250
          clear A250
          replace H := Option.bind_eq_some_iff.mp H
          obtain ⟨t256, A260, H⟩ := H
          replace H : (if t256 = true then (if t253 = 0 then ((gangsawref42_Level.f kj5 a1_0 a1_1 a1_2 a1_3 a1_4 a1_5 (wrap64 (a1_0 - 1))).bind fun t257 => (if t251 = t257 then (gangsawlaw42_StairChecks.j1 kj5 a2 t254 t255 (t252 != (wrap64 (a1_0 * a1_3))) a1_0 a1_1 a1_2 a1_3 a1_4 a1_5) else (gangsawlaw42_StairChecks.j1 kj5 a2 t254 t255 true a1_0 a1_1 a1_2 a1_3 a1_4 a1_5))) else (gangsawlaw42_StairChecks.j1 kj5 a2 t254 t255 true a1_0 a1_1 a1_2 a1_3 a1_4 a1_5)) else (if t253 = 1 then (if t255 = t253 then (if t251 = 0 then (if t252 = 0 then (some (t254 == 0)) else (some false)) else (some false)) else (some false)) else (some false))) = some r := H
          have A26 := Aside0.mk A260
          clear A260
          by_cases c27 : t256 = true
          · subst c27
            have H1 : (if t253 = 0 then ((gangsawref42_Level.f kj5 a1_0 a1_1 a1_2 a1_3 a1_4 a1_5 (wrap64 (a1_0 - 1))).bind fun t257 => (if t251 = t257 then (gangsawlaw42_StairChecks.j1 kj5 a2 t254 t255 (t252 != (wrap64 (a1_0 * a1_3))) a1_0 a1_1 a1_2 a1_3 a1_4 a1_5) else (gangsawlaw42_StairChecks.j1 kj5 a2 t254 t255 true a1_0 a1_1 a1_2 a1_3 a1_4 a1_5))) else (gangsawlaw42_StairChecks.j1 kj5 a2 t254 t255 true a1_0 a1_1 a1_2 a1_3 a1_4 a1_5)) = some r := by rw [if_pos rfl] at H; exact H
            clear H
            have H := H1
            clear H1
            have HC28 := Aside0.mk H
            clear H
            have hnb29 := NB245_244.out
            have hnc29 := NB244_245.out
            have hcz30_0 : wc.cell? ⟨gb245, 0, none⟩ = some (.int .i64 a1_0) := (blk_cell BK245.out 0).trans rfl
            have hcz30_1 : wc.cell? ⟨gb245, 1, none⟩ = some (.int .i64 a1_1) := (blk_cell BK245.out 1).trans rfl
            have hcz30_2 : wc.cell? ⟨gb245, 2, none⟩ = some (.int .i64 a1_2) := (blk_cell BK245.out 2).trans rfl
            have hcz30_3 : wc.cell? ⟨gb245, 3, none⟩ = some (.int .i64 a1_3) := (blk_cell BK245.out 3).trans rfl
            have hcz30_4 : wc.cell? ⟨gb245, 4, none⟩ = some (.int .i64 a1_4) := (blk_cell BK245.out 4).trans rfl
            have hcz30_5 : wc.cell? ⟨gb245, 5, none⟩ = some (.int .i64 a1_5) := (blk_cell BK245.out 5).trans rfl
            have hfz30_0 := blk_frozen BK245.out 0
            have hfz30_1 := blk_frozen BK245.out 1
            have hfz30_2 := blk_frozen BK245.out 2
            have hfz30_3 := blk_frozen BK245.out 3
            have hfz30_4 := blk_frozen BK245.out 4
            have hfz30_5 := blk_frozen BK245.out 5
            go_upto_region 9 with (first | ((with_reducible refine gate_callee (f := 16) rfl ?_); refine goesL_ (some 30) rfl rfl Try.func16 (by kernel_rfl) rfl #[.agg #[.int .i64 a1_0, .int .i64 a1_1, .int .i64 a1_2, .int .i64 a1_3, .int .i64 a1_4, .int .i64 a1_5]] rfl (by (try simp only [List.map_toArray, List.map_cons, List.map_nil]); first | done | rfl | (simp only [List.length_drop, List.length_take]; rfl)) ?_; (with_reducible refine (stair_Height.calls a1_0 a1_1 a1_2 a1_3 a1_4 a1_5 t251 t252 t253 _ A24.out).mono ?_); rintro e w31 ⟨rfl, hb⟩; refine ⟨_, rfl, ?_⟩; have n0_ := Aside0.mk (blk_below (g := gb244) (o := .cells #[.int .i64 a0_0, .int .i64 a0_1, .int .i64 a0_2, .int .i64 a0_3, .int .i64 a0_4, .int .i64 a0_5] 25 (0, 0)) (by (with_reducible repeat (first | refine blk_drewN ?_ _ | refine blk_drew ?_ | refine blk_alloc ?_ _)); exact BK244.out) hb); have n1_ := Aside0.mk (blk_below (g := gb245) (o := .cells #[.int .i64 a1_0, .int .i64 a1_1, .int .i64 a1_2, .int .i64 a1_3, .int .i64 a1_4, .int .i64 a1_5] 27 (0, 0)) (by (with_reducible repeat (first | refine blk_drewN ?_ _ | refine blk_drew ?_ | refine blk_alloc ?_ _)); exact BK245.out) hb); have n2_ := Aside0.mk (below_step (by repeat (first | (with_reducible first | exact HB.out | apply below_alloc | apply pw_below_drewN | apply below_drew1 | refine below_set ?_ GE244.out | refine below_set ?_ GE245.out) | exact HB.out)) hb); clear BK244; clear BK245; clear HB; have BK244 := n0_; have BK245 := n1_; have HB := n2_; clear n0_ n1_ n2_; (try clear hb); (try clear hb2); (try clear hk); (try clear hi); have hcz32_0 : w31.cell? ⟨gb245, 0, none⟩ = some (.int .i64 a1_0) := (blk_cell BK245.out 0).trans rfl; have hcz32_1 : w31.cell? ⟨gb245, 1, none⟩ = some (.int .i64 a1_1) := (blk_cell BK245.out 1).trans rfl; have hcz32_2 : w31.cell? ⟨gb245, 2, none⟩ = some (.int .i64 a1_2) := (blk_cell BK245.out 2).trans rfl; have hcz32_3 : w31.cell? ⟨gb245, 3, none⟩ = some (.int .i64 a1_3) := (blk_cell BK245.out 3).trans rfl; have hcz32_4 : w31.cell? ⟨gb245, 4, none⟩ = some (.int .i64 a1_4) := (blk_cell BK245.out 4).trans rfl; have hcz32_5 : w31.cell? ⟨gb245, 5, none⟩ = some (.int .i64 a1_5) := (blk_cell BK245.out 5).trans rfl; have hfz32_0 := blk_frozen BK245.out 0; have hfz32_1 := blk_frozen BK245.out 1; have hfz32_2 := blk_frozen BK245.out 2; have hfz32_3 := blk_frozen BK245.out 3; have hfz32_4 := blk_frozen BK245.out 4; have hfz32_5 := blk_frozen BK245.out 5) | ((with_reducible refine gate_callee (f := 17) rfl ?_); refine goesL_ (some 37) rfl rfl Try.func17 (by kernel_rfl) rfl #[.agg #[.int .i64 a1_0, .int .i64 a1_1, .int .i64 a1_2, .int .i64 a1_3, .int .i64 a1_4, .int .i64 a1_5], .int .i64 a2] rfl (by (try simp only [List.map_toArray, List.map_cons, List.map_nil]); first | done | rfl | (simp only [List.length_drop, List.length_take]; rfl)) ?_; (with_reducible refine (stair_Level.calls a1_0 a1_1 a1_2 a1_3 a1_4 a1_5 a2 t254 t255 _ A25.out).mono ?_); rintro e w33 ⟨rfl, hb⟩; refine ⟨_, rfl, ?_⟩; have n0_ := Aside0.mk (blk_below (g := gb244) (o := .cells #[.int .i64 a0_0, .int .i64 a0_1, .int .i64 a0_2, .int .i64 a0_3, .int .i64 a0_4, .int .i64 a0_5] 25 (0, 0)) (by (with_reducible repeat (first | refine blk_drewN ?_ _ | refine blk_drew ?_ | refine blk_alloc ?_ _)); exact BK244.out) hb); have n1_ := Aside0.mk (blk_below (g := gb245) (o := .cells #[.int .i64 a1_0, .int .i64 a1_1, .int .i64 a1_2, .int .i64 a1_3, .int .i64 a1_4, .int .i64 a1_5] 27 (0, 0)) (by (with_reducible repeat (first | refine blk_drewN ?_ _ | refine blk_drew ?_ | refine blk_alloc ?_ _)); exact BK245.out) hb); have n2_ := Aside0.mk (below_step (by repeat (first | (with_reducible first | exact HB.out | apply below_alloc | apply pw_below_drewN | apply below_drew1 | refine below_set ?_ GE244.out | refine below_set ?_ GE245.out) | exact HB.out)) hb); clear BK244; clear BK245; clear HB; have BK244 := n0_; have BK245 := n1_; have HB := n2_; clear n0_ n1_ n2_; (try clear hb); (try clear hb2); (try clear hk); (try clear hi); have hcz34_0 : w33.cell? ⟨gb245, 0, none⟩ = some (.int .i64 a1_0) := (blk_cell BK245.out 0).trans rfl; have hcz34_1 : w33.cell? ⟨gb245, 1, none⟩ = some (.int .i64 a1_1) := (blk_cell BK245.out 1).trans rfl; have hcz34_2 : w33.cell? ⟨gb245, 2, none⟩ = some (.int .i64 a1_2) := (blk_cell BK245.out 2).trans rfl; have hcz34_3 : w33.cell? ⟨gb245, 3, none⟩ = some (.int .i64 a1_3) := (blk_cell BK245.out 3).trans rfl; have hcz34_4 : w33.cell? ⟨gb245, 4, none⟩ = some (.int .i64 a1_4) := (blk_cell BK245.out 4).trans rfl; have hcz34_5 : w33.cell? ⟨gb245, 5, none⟩ = some (.int .i64 a1_5) := (blk_cell BK245.out 5).trans rfl; have hfz34_0 := blk_frozen BK245.out 0; have hfz34_1 := blk_frozen BK245.out 1; have hfz34_2 := blk_frozen BK245.out 2; have hfz34_3 := blk_frozen BK245.out 3; have hfz34_4 := blk_frozen BK245.out 4; have hfz34_5 := blk_frozen BK245.out 5) | ((with_reducible refine gate_callee (f := 18) rfl ?_); refine goesL_ (some 41) rfl rfl Try.func18 (by kernel_rfl) rfl #[.agg #[.int .i64 a1_0, .int .i64 a1_1, .int .i64 a1_2, .int .i64 a1_3, .int .i64 a1_4, .int .i64 a1_5]] rfl (by (try simp only [List.map_toArray, List.map_cons, List.map_nil]); first | done | rfl | (simp only [List.length_drop, List.length_take]; rfl)) ?_; (with_reducible refine (gangsawref42_Valid.calls a1_0 a1_1 a1_2 a1_3 a1_4 a1_5 true _ A26.out).mono ?_); rintro e w35 ⟨rfl, hb⟩; refine ⟨_, rfl, ?_⟩; have n0_ := Aside0.mk (blk_below (g := gb244) (o := .cells #[.int .i64 a0_0, .int .i64 a0_1, .int .i64 a0_2, .int .i64 a0_3, .int .i64 a0_4, .int .i64 a0_5] 25 (0, 0)) (by (with_reducible repeat (first | refine blk_drewN ?_ _ | refine blk_drew ?_ | refine blk_alloc ?_ _)); exact BK244.out) hb); have n1_ := Aside0.mk (blk_below (g := gb245) (o := .cells #[.int .i64 a1_0, .int .i64 a1_1, .int .i64 a1_2, .int .i64 a1_3, .int .i64 a1_4, .int .i64 a1_5] 27 (0, 0)) (by (with_reducible repeat (first | refine blk_drewN ?_ _ | refine blk_drew ?_ | refine blk_alloc ?_ _)); exact BK245.out) hb); have n2_ := Aside0.mk (below_step (by repeat (first | (with_reducible first | exact HB.out | apply below_alloc | apply pw_below_drewN | apply below_drew1 | refine below_set ?_ GE244.out | refine below_set ?_ GE245.out) | exact HB.out)) hb); clear BK244; clear BK245; clear HB; have BK244 := n0_; have BK245 := n1_; have HB := n2_; clear n0_ n1_ n2_; (try clear hb); (try clear hb2); (try clear hk); (try clear hi)))
            (try simp only [Act.put, List.setIfInBounds_toArray, List.set_cons_zero, List.set_cons_succ])
            go_cut [81] (fun v81 wc => ∃ (kq : Nat) (x81_27 : Bool), v81 = .bool x81_27 ∧ Aside0 (gangsawlaw42_StairChecks.j1 kq a2 t254 t255 x81_27 a1_0 a1_1 a1_2 a1_3 a1_4 a1_5 = some r) ∧ Aside0 (kq ≤ kj5) ∧ Aside0 (wc.heap[gb244]? = some (.cells #[.int .i64 a0_0, .int .i64 a0_1, .int .i64 a0_2, .int .i64 a0_3, .int .i64 a0_4, .int .i64 a0_5] 25 (0, 0))) ∧ Aside0 (wc.heap[gb245]? = some (.cells #[.int .i64 a1_0, .int .i64 a1_1, .int .i64 a1_2, .int .i64 a1_3, .int .i64 a1_4, .int .i64 a1_5] 27 (0, 0))) ∧ Aside0 (Below w.heap.size w wc))
            case first =>
              have H := HC28.out
              clear HC28
              by_cases c36 : t253 = 0
              · rw [if_pos c36] at H
                have c36b0 : (t253 == 0) = true := beq_iff_eq.mpr c36
                have c36b1 : (t253 != 0) = false := bne_eq_false_iff_eq.mpr c36
                clear c36
                (first | rw [c36b0] | (simp only [i64_w, i32_w]; rw [c36b0]) | skip)
                replace H := Option.bind_eq_some_iff.mp H
                obtain ⟨t257, A370, H⟩ := H
                replace H : (if t251 = t257 then (gangsawlaw42_StairChecks.j1 kj5 a2 t254 t255 (t252 != (wrap64 (a1_0 * a1_3))) a1_0 a1_1 a1_2 a1_3 a1_4 a1_5) else (gangsawlaw42_StairChecks.j1 kj5 a2 t254 t255 true a1_0 a1_1 a1_2 a1_3 a1_4 a1_5)) = some r := H
                have A37 := Aside0.mk A370
                clear A370
                by_cases c38 : t251 = t257
                · rw [if_pos c38] at H
                  have c38b0 : (t251 == t257) = true := beq_iff_eq.mpr c38
                  have c38b1 : (t251 != t257) = false := bne_eq_false_iff_eq.mpr c38
                  clear c38
                  have H' := Aside0.mk H
                  clear H
                  have hnb39 := NB245_244.out
                  have hnc39 := NB244_245.out
                  have hcz40_0 : w35.cell? ⟨gb245, 0, none⟩ = some (.int .i64 a1_0) := (blk_cell BK245.out 0).trans rfl
                  have hcz40_1 : w35.cell? ⟨gb245, 1, none⟩ = some (.int .i64 a1_1) := (blk_cell BK245.out 1).trans rfl
                  have hcz40_2 : w35.cell? ⟨gb245, 2, none⟩ = some (.int .i64 a1_2) := (blk_cell BK245.out 2).trans rfl
                  have hcz40_3 : w35.cell? ⟨gb245, 3, none⟩ = some (.int .i64 a1_3) := (blk_cell BK245.out 3).trans rfl
                  have hcz40_4 : w35.cell? ⟨gb245, 4, none⟩ = some (.int .i64 a1_4) := (blk_cell BK245.out 4).trans rfl
                  have hcz40_5 : w35.cell? ⟨gb245, 5, none⟩ = some (.int .i64 a1_5) := (blk_cell BK245.out 5).trans rfl
                  have hfz40_0 := blk_frozen BK245.out 0
                  have hfz40_1 := blk_frozen BK245.out 1
                  have hfz40_2 := blk_frozen BK245.out 2
                  have hfz40_3 := blk_frozen BK245.out 3
                  have hfz40_4 := blk_frozen BK245.out 4
                  have hfz40_5 := blk_frozen BK245.out 5
                  go_wp2_with (first | (go_at_call 19; (with_reducible refine (gangsawref42_Level.calls kj5 a1_0 a1_1 a1_2 a1_3 a1_4 a1_5 (wrap64 (a1_0 - 1)) t257 _ A37.out).mono ?_); rintro e w41 ⟨rfl, hb⟩; have n0_ := Aside0.mk (blk_below (g := gb244) (o := .cells #[.int .i64 a0_0, .int .i64 a0_1, .int .i64 a0_2, .int .i64 a0_3, .int .i64 a0_4, .int .i64 a0_5] 25 (0, 0)) (by (with_reducible repeat (first | refine blk_drewN ?_ _ | refine blk_drew ?_ | refine blk_alloc ?_ _)); exact BK244.out) hb); have n1_ := Aside0.mk (blk_below (g := gb245) (o := .cells #[.int .i64 a1_0, .int .i64 a1_1, .int .i64 a1_2, .int .i64 a1_3, .int .i64 a1_4, .int .i64 a1_5] 27 (0, 0)) (by (with_reducible repeat (first | refine blk_drewN ?_ _ | refine blk_drew ?_ | refine blk_alloc ?_ _)); exact BK245.out) hb); have n2_ := Aside0.mk (below_step (by repeat (first | (with_reducible first | exact HB.out | apply below_alloc | apply pw_below_drewN | apply below_drew1 | refine below_set ?_ GE244.out | refine below_set ?_ GE245.out) | exact HB.out)) hb); clear BK244; clear BK245; clear HB; have BK244 := n0_; have BK245 := n1_; have HB := n2_; clear n0_ n1_ n2_; (try clear hb); (try clear hb2); (try clear hk); (try clear hi); have hcz42_0 : w41.cell? ⟨gb245, 0, none⟩ = some (.int .i64 a1_0) := (blk_cell BK245.out 0).trans rfl; have hcz42_1 : w41.cell? ⟨gb245, 1, none⟩ = some (.int .i64 a1_1) := (blk_cell BK245.out 1).trans rfl; have hcz42_2 : w41.cell? ⟨gb245, 2, none⟩ = some (.int .i64 a1_2) := (blk_cell BK245.out 2).trans rfl; have hcz42_3 : w41.cell? ⟨gb245, 3, none⟩ = some (.int .i64 a1_3) := (blk_cell BK245.out 3).trans rfl; have hcz42_4 : w41.cell? ⟨gb245, 4, none⟩ = some (.int .i64 a1_4) := (blk_cell BK245.out 4).trans rfl; have hcz42_5 : w41.cell? ⟨gb245, 5, none⟩ = some (.int .i64 a1_5) := (blk_cell BK245.out 5).trans rfl; have hfz42_0 := blk_frozen BK245.out 0; have hfz42_1 := blk_frozen BK245.out 1; have hfz42_2 := blk_frozen BK245.out 2; have hfz42_3 := blk_frozen BK245.out 3; have hfz42_4 := blk_frozen BK245.out 4; have hfz42_5 := blk_frozen BK245.out 5))
                  go_meet
                  case rel => exact ⟨_, ((t252 != (wrap64 (a1_0 * a1_3)))), (by first | rfl | (simp; done) | (simp [*]; done)), H', ⟨by have := HJ5.out; first | omega | exact Nat.le_refl _⟩, ⟨by (with_reducible repeat (first | refine blk_drewN ?_ _ | refine blk_drew ?_ | refine blk_alloc ?_ _)); exact BK244.out⟩, ⟨by (with_reducible repeat (first | refine blk_drewN ?_ _ | refine blk_drew ?_ | refine blk_alloc ?_ _)); exact BK245.out⟩, ⟨by repeat (first | (with_reducible first | exact HB.out | apply below_alloc | apply pw_below_drewN | apply below_drew1 | refine below_set ?_ GE244.out | refine below_set ?_ GE245.out) | exact HB.out)⟩⟩
                · rw [if_neg c38] at H
                  have c38b0 : (t251 == t257) = false := beq_eq_false_iff_ne.mpr c38
                  have c38b1 : (t251 != t257) = true := bne_iff_ne.mpr c38
                  have H' := Aside0.mk H
                  clear H
                  have hnb43 := NB245_244.out
                  have hnc43 := NB244_245.out
                  have hcz44_0 : w35.cell? ⟨gb245, 0, none⟩ = some (.int .i64 a1_0) := (blk_cell BK245.out 0).trans rfl
                  have hcz44_1 : w35.cell? ⟨gb245, 1, none⟩ = some (.int .i64 a1_1) := (blk_cell BK245.out 1).trans rfl
                  have hcz44_2 : w35.cell? ⟨gb245, 2, none⟩ = some (.int .i64 a1_2) := (blk_cell BK245.out 2).trans rfl
                  have hcz44_3 : w35.cell? ⟨gb245, 3, none⟩ = some (.int .i64 a1_3) := (blk_cell BK245.out 3).trans rfl
                  have hcz44_4 : w35.cell? ⟨gb245, 4, none⟩ = some (.int .i64 a1_4) := (blk_cell BK245.out 4).trans rfl
                  have hcz44_5 : w35.cell? ⟨gb245, 5, none⟩ = some (.int .i64 a1_5) := (blk_cell BK245.out 5).trans rfl
                  have hfz44_0 := blk_frozen BK245.out 0
                  have hfz44_1 := blk_frozen BK245.out 1
                  have hfz44_2 := blk_frozen BK245.out 2
                  have hfz44_3 := blk_frozen BK245.out 3
                  have hfz44_4 := blk_frozen BK245.out 4
                  have hfz44_5 := blk_frozen BK245.out 5
                  go_wp2_with (first | (go_at_call 19; (with_reducible refine (gangsawref42_Level.calls kj5 a1_0 a1_1 a1_2 a1_3 a1_4 a1_5 (wrap64 (a1_0 - 1)) t257 _ A37.out).mono ?_); rintro e w45 ⟨rfl, hb⟩; have n0_ := Aside0.mk (blk_below (g := gb244) (o := .cells #[.int .i64 a0_0, .int .i64 a0_1, .int .i64 a0_2, .int .i64 a0_3, .int .i64 a0_4, .int .i64 a0_5] 25 (0, 0)) (by (with_reducible repeat (first | refine blk_drewN ?_ _ | refine blk_drew ?_ | refine blk_alloc ?_ _)); exact BK244.out) hb); have n1_ := Aside0.mk (blk_below (g := gb245) (o := .cells #[.int .i64 a1_0, .int .i64 a1_1, .int .i64 a1_2, .int .i64 a1_3, .int .i64 a1_4, .int .i64 a1_5] 27 (0, 0)) (by (with_reducible repeat (first | refine blk_drewN ?_ _ | refine blk_drew ?_ | refine blk_alloc ?_ _)); exact BK245.out) hb); have n2_ := Aside0.mk (below_step (by repeat (first | (with_reducible first | exact HB.out | apply below_alloc | apply pw_below_drewN | apply below_drew1 | refine below_set ?_ GE244.out | refine below_set ?_ GE245.out) | exact HB.out)) hb); clear BK244; clear BK245; clear HB; have BK244 := n0_; have BK245 := n1_; have HB := n2_; clear n0_ n1_ n2_; (try clear hb); (try clear hb2); (try clear hk); (try clear hi)))
                  go_meet
                  case rel => exact ⟨_, (true), (by first | rfl | (simp; done) | (simp [*]; done)), H', ⟨by have := HJ5.out; first | omega | exact Nat.le_refl _⟩, ⟨by (with_reducible repeat (first | refine blk_drewN ?_ _ | refine blk_drew ?_ | refine blk_alloc ?_ _)); exact BK244.out⟩, ⟨by (with_reducible repeat (first | refine blk_drewN ?_ _ | refine blk_drew ?_ | refine blk_alloc ?_ _)); exact BK245.out⟩, ⟨by repeat (first | (with_reducible first | exact HB.out | apply below_alloc | apply pw_below_drewN | apply below_drew1 | refine below_set ?_ GE244.out | refine below_set ?_ GE245.out) | exact HB.out)⟩⟩
              · rw [if_neg c36] at H
                have c36b0 : (t253 == 0) = false := beq_eq_false_iff_ne.mpr c36
                have c36b1 : (t253 != 0) = true := bne_iff_ne.mpr c36
                (first | rw [c36b0] | (simp only [i64_w, i32_w]; rw [c36b0]) | skip)
                have H' := Aside0.mk H
                clear H
                go_wp2
                go_meet
                case rel => exact ⟨_, (true), (by first | rfl | (simp; done) | (simp [*]; done)), H', ⟨by have := HJ5.out; first | omega | exact Nat.le_refl _⟩, ⟨by (with_reducible repeat (first | refine blk_drewN ?_ _ | refine blk_drew ?_ | refine blk_alloc ?_ _)); exact BK244.out⟩, ⟨by (with_reducible repeat (first | refine blk_drewN ?_ _ | refine blk_drew ?_ | refine blk_alloc ?_ _)); exact BK245.out⟩, ⟨by repeat (first | (with_reducible first | exact HB.out | apply below_alloc | apply pw_below_drewN | apply below_drew1 | refine below_set ?_ GE244.out | refine below_set ?_ GE245.out) | exact HB.out)⟩⟩
            case rest =>
              clear HC28
              try clear c1
              try clear c2
              try clear p2
              try clear c3
              try clear c4
              try clear c5
              try clear p6
              try clear c11
              try clear c12
              try clear c12b0
              try clear c12b1
              try clear c13
              try clear c14
              try clear c15
              try clear c16
              try clear c17
              try clear c18
              try clear c23
              try clear c27
              try clear c29
              try clear c36
              try clear c36b0
              try clear c36b1
              try clear c38
              try clear c38b0
              try clear c38b1
              try clear c39
              try clear c43
              try clear hcz30_0
              try clear hcz30_1
              try clear hcz30_2
              try clear hcz30_3
              try clear hcz30_4
              try clear hcz30_5
              try clear hcz32_0
              try clear hcz32_1
              try clear hcz32_2
              try clear hcz32_3
              try clear hcz32_4
              try clear hcz32_5
              try clear hcz34_0
              try clear hcz34_1
              try clear hcz34_2
              try clear hcz34_3
              try clear hcz34_4
              try clear hcz34_5
              try clear hcz40_0
              try clear hcz40_1
              try clear hcz40_2
              try clear hcz40_3
              try clear hcz40_4
              try clear hcz40_5
              try clear hcz42_0
              try clear hcz42_1
              try clear hcz42_2
              try clear hcz42_3
              try clear hcz42_4
              try clear hcz42_5
              try clear hcz44_0
              try clear hcz44_1
              try clear hcz44_2
              try clear hcz44_3
              try clear hcz44_4
              try clear hcz44_5
              try clear hfz30_0
              try clear hfz30_1
              try clear hfz30_2
              try clear hfz30_3
              try clear hfz30_4
              try clear hfz30_5
              try clear hfz32_0
              try clear hfz32_1
              try clear hfz32_2
              try clear hfz32_3
              try clear hfz32_4
              try clear hfz32_5
              try clear hfz34_0
              try clear hfz34_1
              try clear hfz34_2
              try clear hfz34_3
              try clear hfz34_4
              try clear hfz34_5
              try clear hfz40_0
              try clear hfz40_1
              try clear hfz40_2
              try clear hfz40_3
              try clear hfz40_4
              try clear hfz40_5
              try clear hfz42_0
              try clear hfz42_1
              try clear hfz42_2
              try clear hfz42_3
              try clear hfz42_4
              try clear hfz42_5
              try clear hfz44_0
              try clear hfz44_1
              try clear hfz44_2
              try clear hfz44_3
              try clear hfz44_4
              try clear hfz44_5
              try clear p2
              obtain ⟨kq, x81_27, rfl, HA, HJ27, BK244, BK245, HB⟩ := hcut
              cases kq with
              | zero => exact absurd HA.out (by simp [gangsawlaw42_StairChecks.j1])
              | succ kj27 =>
                have H := HA.out
                clear HA
                simp only [gangsawlaw42_StairChecks.j1] at H
                by_cases c46 : x81_27 = true
                · subst c46
                  have H1 : (some false) = some r := by rw [if_pos rfl] at H; exact H
                  clear H
                  have H := H1
                  clear H1
                  obtain rfl := Option.some.inj H
                  go_wp2
                  go_ret
                  exact ⟨by first | rfl | (simp [errW_none, errW_some] <;> rfl) | (simp [*, errW_none, errW_some] <;> rfl), by repeat (first | (with_reducible first | exact HB.out | apply below_alloc | apply pw_below_drewN | apply below_drew1 | refine below_set ?_ GE244.out | refine below_set ?_ GE245.out) | exact HB.out)⟩
                · replace c46 := Bool.eq_false_iff.mpr c46
                  subst c46
                  have H1 : (if a2 < 0 then (if t255 = 9 then (some (t254 == 0)) else (some false)) else (if a2 ≥ a1_0 then (if t255 = 9 then (some (t254 == 0)) else (some false)) else (if t255 = 0 then ((gangsawref42_Level.f kj27 a1_0 a1_1 a1_2 a1_3 a1_4 a1_5 a2).bind fun t258 => (some (t254 == t258))) else (some false)))) = some r := by rw [if_neg (show ¬ (false = true) by decide)] at H; exact H
                  clear H
                  have H := H1
                  clear H1
                  by_cases c47 : a2 < 0
                  · rw [if_pos c47] at H
                    have c47b0 : decide (a2 < 0) = true := decide_eq_true c47
                    clear c47
                    by_cases c48 : t255 = 9
                    · rw [if_pos c48] at H
                      have c48b0 : (t255 == 9) = true := beq_iff_eq.mpr c48
                      have c48b1 : (t255 != 9) = false := bne_eq_false_iff_eq.mpr c48
                      clear c48
                      obtain rfl := Option.some.inj H
                      go_wp2
                      go_ret
                      exact ⟨by first | rfl | (simp [errW_none, errW_some] <;> rfl) | (simp [*, errW_none, errW_some] <;> rfl), by repeat (first | (with_reducible first | exact HB.out | apply below_alloc | apply pw_below_drewN | apply below_drew1 | refine below_set ?_ GE244.out | refine below_set ?_ GE245.out) | exact HB.out)⟩
                    · rw [if_neg c48] at H
                      have c48b0 : (t255 == 9) = false := beq_eq_false_iff_ne.mpr c48
                      have c48b1 : (t255 != 9) = true := bne_iff_ne.mpr c48
                      obtain rfl := Option.some.inj H
                      go_wp2
                      go_ret
                      exact ⟨by first | rfl | (simp [errW_none, errW_some] <;> rfl) | (simp [*, errW_none, errW_some] <;> rfl), by repeat (first | (with_reducible first | exact HB.out | apply below_alloc | apply pw_below_drewN | apply below_drew1 | refine below_set ?_ GE244.out | refine below_set ?_ GE245.out) | exact HB.out)⟩
                  · rw [if_neg c47] at H
                    have c47b0 : decide (a2 < 0) = false := decide_eq_false c47
                    clear c47
                    by_cases c49 : a2 ≥ a1_0
                    · rw [if_pos c49] at H
                      have c49b0 : decide (a1_0 ≤ a2) = true := decide_eq_true c49
                      clear c49
                      by_cases c50 : t255 = 9
                      · rw [if_pos c50] at H
                        have c50b0 : (t255 == 9) = true := beq_iff_eq.mpr c50
                        have c50b1 : (t255 != 9) = false := bne_eq_false_iff_eq.mpr c50
                        clear c50
                        obtain rfl := Option.some.inj H
                        have hnb51 := NB245_244.out
                        have hnc51 := NB244_245.out
                        have hcz52_0 : wc.cell? ⟨gb245, 0, none⟩ = some (.int .i64 a1_0) := (blk_cell BK245.out 0).trans rfl
                        have hcz52_1 : wc.cell? ⟨gb245, 1, none⟩ = some (.int .i64 a1_1) := (blk_cell BK245.out 1).trans rfl
                        have hcz52_2 : wc.cell? ⟨gb245, 2, none⟩ = some (.int .i64 a1_2) := (blk_cell BK245.out 2).trans rfl
                        have hcz52_3 : wc.cell? ⟨gb245, 3, none⟩ = some (.int .i64 a1_3) := (blk_cell BK245.out 3).trans rfl
                        have hcz52_4 : wc.cell? ⟨gb245, 4, none⟩ = some (.int .i64 a1_4) := (blk_cell BK245.out 4).trans rfl
                        have hcz52_5 : wc.cell? ⟨gb245, 5, none⟩ = some (.int .i64 a1_5) := (blk_cell BK245.out 5).trans rfl
                        have hfz52_0 := blk_frozen BK245.out 0
                        have hfz52_1 := blk_frozen BK245.out 1
                        have hfz52_2 := blk_frozen BK245.out 2
                        have hfz52_3 := blk_frozen BK245.out 3
                        have hfz52_4 := blk_frozen BK245.out 4
                        have hfz52_5 := blk_frozen BK245.out 5
                        go_wp2
                        go_ret
                        exact ⟨by first | rfl | (simp [errW_none, errW_some] <;> rfl) | (simp [*, errW_none, errW_some] <;> rfl), by repeat (first | (with_reducible first | exact HB.out | apply below_alloc | apply pw_below_drewN | apply below_drew1 | refine below_set ?_ GE244.out | refine below_set ?_ GE245.out) | exact HB.out)⟩
                      · rw [if_neg c50] at H
                        have c50b0 : (t255 == 9) = false := beq_eq_false_iff_ne.mpr c50
                        have c50b1 : (t255 != 9) = true := bne_iff_ne.mpr c50
                        obtain rfl := Option.some.inj H
                        have hnb53 := NB245_244.out
                        have hnc53 := NB244_245.out
                        have hcz54_0 : wc.cell? ⟨gb245, 0, none⟩ = some (.int .i64 a1_0) := (blk_cell BK245.out 0).trans rfl
                        have hcz54_1 : wc.cell? ⟨gb245, 1, none⟩ = some (.int .i64 a1_1) := (blk_cell BK245.out 1).trans rfl
                        have hcz54_2 : wc.cell? ⟨gb245, 2, none⟩ = some (.int .i64 a1_2) := (blk_cell BK245.out 2).trans rfl
                        have hcz54_3 : wc.cell? ⟨gb245, 3, none⟩ = some (.int .i64 a1_3) := (blk_cell BK245.out 3).trans rfl
                        have hcz54_4 : wc.cell? ⟨gb245, 4, none⟩ = some (.int .i64 a1_4) := (blk_cell BK245.out 4).trans rfl
                        have hcz54_5 : wc.cell? ⟨gb245, 5, none⟩ = some (.int .i64 a1_5) := (blk_cell BK245.out 5).trans rfl
                        have hfz54_0 := blk_frozen BK245.out 0
                        have hfz54_1 := blk_frozen BK245.out 1
                        have hfz54_2 := blk_frozen BK245.out 2
                        have hfz54_3 := blk_frozen BK245.out 3
                        have hfz54_4 := blk_frozen BK245.out 4
                        have hfz54_5 := blk_frozen BK245.out 5
                        go_wp2
                        go_ret
                        exact ⟨by first | rfl | (simp [errW_none, errW_some] <;> rfl) | (simp [*, errW_none, errW_some] <;> rfl), by repeat (first | (with_reducible first | exact HB.out | apply below_alloc | apply pw_below_drewN | apply below_drew1 | refine below_set ?_ GE244.out | refine below_set ?_ GE245.out) | exact HB.out)⟩
                    · rw [if_neg c49] at H
                      have c49b0 : decide (a1_0 ≤ a2) = false := decide_eq_false c49
                      clear c49
                      by_cases c55 : t255 = 0
                      · rw [if_pos c55] at H
                        have c55b0 : (t255 == 0) = true := beq_iff_eq.mpr c55
                        have c55b1 : (t255 != 0) = false := bne_eq_false_iff_eq.mpr c55
                        clear c55
                        replace H := Option.bind_eq_some_iff.mp H
                        obtain ⟨t258, A560, H⟩ := H
                        replace H : (some (t254 == t258)) = some r := H
                        have A56 := Aside0.mk A560
                        clear A560
                        obtain rfl := Option.some.inj H
                        have hnb57 := NB245_244.out
                        have hnc57 := NB244_245.out
                        have hcz58_0 : wc.cell? ⟨gb245, 0, none⟩ = some (.int .i64 a1_0) := (blk_cell BK245.out 0).trans rfl
                        have hcz58_1 : wc.cell? ⟨gb245, 1, none⟩ = some (.int .i64 a1_1) := (blk_cell BK245.out 1).trans rfl
                        have hcz58_2 : wc.cell? ⟨gb245, 2, none⟩ = some (.int .i64 a1_2) := (blk_cell BK245.out 2).trans rfl
                        have hcz58_3 : wc.cell? ⟨gb245, 3, none⟩ = some (.int .i64 a1_3) := (blk_cell BK245.out 3).trans rfl
                        have hcz58_4 : wc.cell? ⟨gb245, 4, none⟩ = some (.int .i64 a1_4) := (blk_cell BK245.out 4).trans rfl
                        have hcz58_5 : wc.cell? ⟨gb245, 5, none⟩ = some (.int .i64 a1_5) := (blk_cell BK245.out 5).trans rfl
                        have hfz58_0 := blk_frozen BK245.out 0
                        have hfz58_1 := blk_frozen BK245.out 1
                        have hfz58_2 := blk_frozen BK245.out 2
                        have hfz58_3 := blk_frozen BK245.out 3
                        have hfz58_4 := blk_frozen BK245.out 4
                        have hfz58_5 := blk_frozen BK245.out 5
                        go_wp2_with (first | (go_at_call 19; (with_reducible refine (gangsawref42_Level.calls kj27 a1_0 a1_1 a1_2 a1_3 a1_4 a1_5 a2 t258 _ A56.out).mono ?_); rintro e w59 ⟨rfl, hb⟩; have n0_ := Aside0.mk (blk_below (g := gb244) (o := .cells #[.int .i64 a0_0, .int .i64 a0_1, .int .i64 a0_2, .int .i64 a0_3, .int .i64 a0_4, .int .i64 a0_5] 25 (0, 0)) (by (with_reducible repeat (first | refine blk_drewN ?_ _ | refine blk_drew ?_ | refine blk_alloc ?_ _)); exact BK244.out) hb); have n1_ := Aside0.mk (blk_below (g := gb245) (o := .cells #[.int .i64 a1_0, .int .i64 a1_1, .int .i64 a1_2, .int .i64 a1_3, .int .i64 a1_4, .int .i64 a1_5] 27 (0, 0)) (by (with_reducible repeat (first | refine blk_drewN ?_ _ | refine blk_drew ?_ | refine blk_alloc ?_ _)); exact BK245.out) hb); have n2_ := Aside0.mk (below_step (by repeat (first | (with_reducible first | exact HB.out | apply below_alloc | apply pw_below_drewN | apply below_drew1 | refine below_set ?_ GE244.out | refine below_set ?_ GE245.out) | exact HB.out)) hb); clear BK244; clear BK245; clear HB; have BK244 := n0_; have BK245 := n1_; have HB := n2_; clear n0_ n1_ n2_; (try clear hb); (try clear hb2); (try clear hk); (try clear hi)))
                        go_ret
                        exact ⟨by first | rfl | (simp [errW_none, errW_some] <;> rfl) | (simp [*, errW_none, errW_some] <;> rfl), by repeat (first | (with_reducible first | exact HB.out | apply below_alloc | apply pw_below_drewN | apply below_drew1 | refine below_set ?_ GE244.out | refine below_set ?_ GE245.out) | exact HB.out)⟩
                      · rw [if_neg c55] at H
                        have c55b0 : (t255 == 0) = false := beq_eq_false_iff_ne.mpr c55
                        have c55b1 : (t255 != 0) = true := bne_iff_ne.mpr c55
                        obtain rfl := Option.some.inj H
                        have hnb60 := NB245_244.out
                        have hnc60 := NB244_245.out
                        have hcz61_0 : wc.cell? ⟨gb245, 0, none⟩ = some (.int .i64 a1_0) := (blk_cell BK245.out 0).trans rfl
                        have hcz61_1 : wc.cell? ⟨gb245, 1, none⟩ = some (.int .i64 a1_1) := (blk_cell BK245.out 1).trans rfl
                        have hcz61_2 : wc.cell? ⟨gb245, 2, none⟩ = some (.int .i64 a1_2) := (blk_cell BK245.out 2).trans rfl
                        have hcz61_3 : wc.cell? ⟨gb245, 3, none⟩ = some (.int .i64 a1_3) := (blk_cell BK245.out 3).trans rfl
                        have hcz61_4 : wc.cell? ⟨gb245, 4, none⟩ = some (.int .i64 a1_4) := (blk_cell BK245.out 4).trans rfl
                        have hcz61_5 : wc.cell? ⟨gb245, 5, none⟩ = some (.int .i64 a1_5) := (blk_cell BK245.out 5).trans rfl
                        have hfz61_0 := blk_frozen BK245.out 0
                        have hfz61_1 := blk_frozen BK245.out 1
                        have hfz61_2 := blk_frozen BK245.out 2
                        have hfz61_3 := blk_frozen BK245.out 3
                        have hfz61_4 := blk_frozen BK245.out 4
                        have hfz61_5 := blk_frozen BK245.out 5
                        go_wp2
                        go_ret
                        exact ⟨by first | rfl | (simp [errW_none, errW_some] <;> rfl) | (simp [*, errW_none, errW_some] <;> rfl), by repeat (first | (with_reducible first | exact HB.out | apply below_alloc | apply pw_below_drewN | apply below_drew1 | refine below_set ?_ GE244.out | refine below_set ?_ GE245.out) | exact HB.out)⟩
          · replace c27 := Bool.eq_false_iff.mpr c27
            subst c27
            have H1 : (if t253 = 1 then (if t255 = t253 then (if t251 = 0 then (if t252 = 0 then (some (t254 == 0)) else (some false)) else (some false)) else (some false)) else (some false)) = some r := by rw [if_neg (show ¬ (false = true) by decide)] at H; exact H
            clear H
            have H := H1
            clear H1
            by_cases c62 : t253 = 1
            · rw [if_pos c62] at H
              have c62b0 : (t253 == 1) = true := beq_iff_eq.mpr c62
              have c62b1 : (t253 != 1) = false := bne_eq_false_iff_eq.mpr c62
              clear c62
              by_cases c63 : t255 = t253
              · rw [if_pos c63] at H
                have c63b0 : (t255 == t253) = true := beq_iff_eq.mpr c63
                have c63b1 : (t255 != t253) = false := bne_eq_false_iff_eq.mpr c63
                clear c63
                by_cases c64 : t251 = 0
                · rw [if_pos c64] at H
                  have c64b0 : (t251 == 0) = true := beq_iff_eq.mpr c64
                  have c64b1 : (t251 != 0) = false := bne_eq_false_iff_eq.mpr c64
                  clear c64
                  by_cases c65 : t252 = 0
                  · rw [if_pos c65] at H
                    have c65b0 : (t252 == 0) = true := beq_iff_eq.mpr c65
                    have c65b1 : (t252 != 0) = false := bne_eq_false_iff_eq.mpr c65
                    clear c65
                    obtain rfl := Option.some.inj H
                    have hnb66 := NB245_244.out
                    have hnc66 := NB244_245.out
                    have hcz67_0 : wc.cell? ⟨gb245, 0, none⟩ = some (.int .i64 a1_0) := (blk_cell BK245.out 0).trans rfl
                    have hcz67_1 : wc.cell? ⟨gb245, 1, none⟩ = some (.int .i64 a1_1) := (blk_cell BK245.out 1).trans rfl
                    have hcz67_2 : wc.cell? ⟨gb245, 2, none⟩ = some (.int .i64 a1_2) := (blk_cell BK245.out 2).trans rfl
                    have hcz67_3 : wc.cell? ⟨gb245, 3, none⟩ = some (.int .i64 a1_3) := (blk_cell BK245.out 3).trans rfl
                    have hcz67_4 : wc.cell? ⟨gb245, 4, none⟩ = some (.int .i64 a1_4) := (blk_cell BK245.out 4).trans rfl
                    have hcz67_5 : wc.cell? ⟨gb245, 5, none⟩ = some (.int .i64 a1_5) := (blk_cell BK245.out 5).trans rfl
                    have hfz67_0 := blk_frozen BK245.out 0
                    have hfz67_1 := blk_frozen BK245.out 1
                    have hfz67_2 := blk_frozen BK245.out 2
                    have hfz67_3 := blk_frozen BK245.out 3
                    have hfz67_4 := blk_frozen BK245.out 4
                    have hfz67_5 := blk_frozen BK245.out 5
                    go_wp2_with (first | ((with_reducible refine gate_callee (f := 16) rfl ?_); refine goesL_ (some 30) rfl rfl Try.func16 (by kernel_rfl) rfl #[.agg #[.int .i64 a1_0, .int .i64 a1_1, .int .i64 a1_2, .int .i64 a1_3, .int .i64 a1_4, .int .i64 a1_5]] rfl (by (try simp only [List.map_toArray, List.map_cons, List.map_nil]); first | done | rfl | (simp only [List.length_drop, List.length_take]; rfl)) ?_; (with_reducible refine (stair_Height.calls a1_0 a1_1 a1_2 a1_3 a1_4 a1_5 t251 t252 t253 _ A24.out).mono ?_); rintro e w68 ⟨rfl, hb⟩; refine ⟨_, rfl, ?_⟩; have n0_ := Aside0.mk (blk_below (g := gb244) (o := .cells #[.int .i64 a0_0, .int .i64 a0_1, .int .i64 a0_2, .int .i64 a0_3, .int .i64 a0_4, .int .i64 a0_5] 25 (0, 0)) (by (with_reducible repeat (first | refine blk_drewN ?_ _ | refine blk_drew ?_ | refine blk_alloc ?_ _)); exact BK244.out) hb); have n1_ := Aside0.mk (blk_below (g := gb245) (o := .cells #[.int .i64 a1_0, .int .i64 a1_1, .int .i64 a1_2, .int .i64 a1_3, .int .i64 a1_4, .int .i64 a1_5] 27 (0, 0)) (by (with_reducible repeat (first | refine blk_drewN ?_ _ | refine blk_drew ?_ | refine blk_alloc ?_ _)); exact BK245.out) hb); have n2_ := Aside0.mk (below_step (by repeat (first | (with_reducible first | exact HB.out | apply below_alloc | apply pw_below_drewN | apply below_drew1 | refine below_set ?_ GE244.out | refine below_set ?_ GE245.out) | exact HB.out)) hb); clear BK244; clear BK245; clear HB; have BK244 := n0_; have BK245 := n1_; have HB := n2_; clear n0_ n1_ n2_; (try clear hb); (try clear hb2); (try clear hk); (try clear hi); have hcz69_0 : w68.cell? ⟨gb245, 0, none⟩ = some (.int .i64 a1_0) := (blk_cell BK245.out 0).trans rfl; have hcz69_1 : w68.cell? ⟨gb245, 1, none⟩ = some (.int .i64 a1_1) := (blk_cell BK245.out 1).trans rfl; have hcz69_2 : w68.cell? ⟨gb245, 2, none⟩ = some (.int .i64 a1_2) := (blk_cell BK245.out 2).trans rfl; have hcz69_3 : w68.cell? ⟨gb245, 3, none⟩ = some (.int .i64 a1_3) := (blk_cell BK245.out 3).trans rfl; have hcz69_4 : w68.cell? ⟨gb245, 4, none⟩ = some (.int .i64 a1_4) := (blk_cell BK245.out 4).trans rfl; have hcz69_5 : w68.cell? ⟨gb245, 5, none⟩ = some (.int .i64 a1_5) := (blk_cell BK245.out 5).trans rfl; have hfz69_0 := blk_frozen BK245.out 0; have hfz69_1 := blk_frozen BK245.out 1; have hfz69_2 := blk_frozen BK245.out 2; have hfz69_3 := blk_frozen BK245.out 3; have hfz69_4 := blk_frozen BK245.out 4; have hfz69_5 := blk_frozen BK245.out 5) | ((with_reducible refine gate_callee (f := 17) rfl ?_); refine goesL_ (some 37) rfl rfl Try.func17 (by kernel_rfl) rfl #[.agg #[.int .i64 a1_0, .int .i64 a1_1, .int .i64 a1_2, .int .i64 a1_3, .int .i64 a1_4, .int .i64 a1_5], .int .i64 a2] rfl (by (try simp only [List.map_toArray, List.map_cons, List.map_nil]); first | done | rfl | (simp only [List.length_drop, List.length_take]; rfl)) ?_; (with_reducible refine (stair_Level.calls a1_0 a1_1 a1_2 a1_3 a1_4 a1_5 a2 t254 t255 _ A25.out).mono ?_); rintro e w70 ⟨rfl, hb⟩; refine ⟨_, rfl, ?_⟩; have n0_ := Aside0.mk (blk_below (g := gb244) (o := .cells #[.int .i64 a0_0, .int .i64 a0_1, .int .i64 a0_2, .int .i64 a0_3, .int .i64 a0_4, .int .i64 a0_5] 25 (0, 0)) (by (with_reducible repeat (first | refine blk_drewN ?_ _ | refine blk_drew ?_ | refine blk_alloc ?_ _)); exact BK244.out) hb); have n1_ := Aside0.mk (blk_below (g := gb245) (o := .cells #[.int .i64 a1_0, .int .i64 a1_1, .int .i64 a1_2, .int .i64 a1_3, .int .i64 a1_4, .int .i64 a1_5] 27 (0, 0)) (by (with_reducible repeat (first | refine blk_drewN ?_ _ | refine blk_drew ?_ | refine blk_alloc ?_ _)); exact BK245.out) hb); have n2_ := Aside0.mk (below_step (by repeat (first | (with_reducible first | exact HB.out | apply below_alloc | apply pw_below_drewN | apply below_drew1 | refine below_set ?_ GE244.out | refine below_set ?_ GE245.out) | exact HB.out)) hb); clear BK244; clear BK245; clear HB; have BK244 := n0_; have BK245 := n1_; have HB := n2_; clear n0_ n1_ n2_; (try clear hb); (try clear hb2); (try clear hk); (try clear hi); have hcz71_0 : w70.cell? ⟨gb245, 0, none⟩ = some (.int .i64 a1_0) := (blk_cell BK245.out 0).trans rfl; have hcz71_1 : w70.cell? ⟨gb245, 1, none⟩ = some (.int .i64 a1_1) := (blk_cell BK245.out 1).trans rfl; have hcz71_2 : w70.cell? ⟨gb245, 2, none⟩ = some (.int .i64 a1_2) := (blk_cell BK245.out 2).trans rfl; have hcz71_3 : w70.cell? ⟨gb245, 3, none⟩ = some (.int .i64 a1_3) := (blk_cell BK245.out 3).trans rfl; have hcz71_4 : w70.cell? ⟨gb245, 4, none⟩ = some (.int .i64 a1_4) := (blk_cell BK245.out 4).trans rfl; have hcz71_5 : w70.cell? ⟨gb245, 5, none⟩ = some (.int .i64 a1_5) := (blk_cell BK245.out 5).trans rfl; have hfz71_0 := blk_frozen BK245.out 0; have hfz71_1 := blk_frozen BK245.out 1; have hfz71_2 := blk_frozen BK245.out 2; have hfz71_3 := blk_frozen BK245.out 3; have hfz71_4 := blk_frozen BK245.out 4; have hfz71_5 := blk_frozen BK245.out 5) | ((with_reducible refine gate_callee (f := 18) rfl ?_); refine goesL_ (some 41) rfl rfl Try.func18 (by kernel_rfl) rfl #[.agg #[.int .i64 a1_0, .int .i64 a1_1, .int .i64 a1_2, .int .i64 a1_3, .int .i64 a1_4, .int .i64 a1_5]] rfl (by (try simp only [List.map_toArray, List.map_cons, List.map_nil]); first | done | rfl | (simp only [List.length_drop, List.length_take]; rfl)) ?_; (with_reducible refine (gangsawref42_Valid.calls a1_0 a1_1 a1_2 a1_3 a1_4 a1_5 false _ A26.out).mono ?_); rintro e w72 ⟨rfl, hb⟩; refine ⟨_, rfl, ?_⟩; have n0_ := Aside0.mk (blk_below (g := gb244) (o := .cells #[.int .i64 a0_0, .int .i64 a0_1, .int .i64 a0_2, .int .i64 a0_3, .int .i64 a0_4, .int .i64 a0_5] 25 (0, 0)) (by (with_reducible repeat (first | refine blk_drewN ?_ _ | refine blk_drew ?_ | refine blk_alloc ?_ _)); exact BK244.out) hb); have n1_ := Aside0.mk (blk_below (g := gb245) (o := .cells #[.int .i64 a1_0, .int .i64 a1_1, .int .i64 a1_2, .int .i64 a1_3, .int .i64 a1_4, .int .i64 a1_5] 27 (0, 0)) (by (with_reducible repeat (first | refine blk_drewN ?_ _ | refine blk_drew ?_ | refine blk_alloc ?_ _)); exact BK245.out) hb); have n2_ := Aside0.mk (below_step (by repeat (first | (with_reducible first | exact HB.out | apply below_alloc | apply pw_below_drewN | apply below_drew1 | refine below_set ?_ GE244.out | refine below_set ?_ GE245.out) | exact HB.out)) hb); clear BK244; clear BK245; clear HB; have BK244 := n0_; have BK245 := n1_; have HB := n2_; clear n0_ n1_ n2_; (try clear hb); (try clear hb2); (try clear hk); (try clear hi)))
                    go_ret
                    exact ⟨by first | rfl | (simp [errW_none, errW_some] <;> rfl) | (simp [*, errW_none, errW_some] <;> rfl), by repeat (first | (with_reducible first | exact HB.out | apply below_alloc | apply pw_below_drewN | apply below_drew1 | refine below_set ?_ GE244.out | refine below_set ?_ GE245.out) | exact HB.out)⟩
                  · rw [if_neg c65] at H
                    have c65b0 : (t252 == 0) = false := beq_eq_false_iff_ne.mpr c65
                    have c65b1 : (t252 != 0) = true := bne_iff_ne.mpr c65
                    obtain rfl := Option.some.inj H
                    have hnb73 := NB245_244.out
                    have hnc73 := NB244_245.out
                    have hcz74_0 : wc.cell? ⟨gb245, 0, none⟩ = some (.int .i64 a1_0) := (blk_cell BK245.out 0).trans rfl
                    have hcz74_1 : wc.cell? ⟨gb245, 1, none⟩ = some (.int .i64 a1_1) := (blk_cell BK245.out 1).trans rfl
                    have hcz74_2 : wc.cell? ⟨gb245, 2, none⟩ = some (.int .i64 a1_2) := (blk_cell BK245.out 2).trans rfl
                    have hcz74_3 : wc.cell? ⟨gb245, 3, none⟩ = some (.int .i64 a1_3) := (blk_cell BK245.out 3).trans rfl
                    have hcz74_4 : wc.cell? ⟨gb245, 4, none⟩ = some (.int .i64 a1_4) := (blk_cell BK245.out 4).trans rfl
                    have hcz74_5 : wc.cell? ⟨gb245, 5, none⟩ = some (.int .i64 a1_5) := (blk_cell BK245.out 5).trans rfl
                    have hfz74_0 := blk_frozen BK245.out 0
                    have hfz74_1 := blk_frozen BK245.out 1
                    have hfz74_2 := blk_frozen BK245.out 2
                    have hfz74_3 := blk_frozen BK245.out 3
                    have hfz74_4 := blk_frozen BK245.out 4
                    have hfz74_5 := blk_frozen BK245.out 5
                    go_wp2_with (first | ((with_reducible refine gate_callee (f := 16) rfl ?_); refine goesL_ (some 30) rfl rfl Try.func16 (by kernel_rfl) rfl #[.agg #[.int .i64 a1_0, .int .i64 a1_1, .int .i64 a1_2, .int .i64 a1_3, .int .i64 a1_4, .int .i64 a1_5]] rfl (by (try simp only [List.map_toArray, List.map_cons, List.map_nil]); first | done | rfl | (simp only [List.length_drop, List.length_take]; rfl)) ?_; (with_reducible refine (stair_Height.calls a1_0 a1_1 a1_2 a1_3 a1_4 a1_5 t251 t252 t253 _ A24.out).mono ?_); rintro e w75 ⟨rfl, hb⟩; refine ⟨_, rfl, ?_⟩; have n0_ := Aside0.mk (blk_below (g := gb244) (o := .cells #[.int .i64 a0_0, .int .i64 a0_1, .int .i64 a0_2, .int .i64 a0_3, .int .i64 a0_4, .int .i64 a0_5] 25 (0, 0)) (by (with_reducible repeat (first | refine blk_drewN ?_ _ | refine blk_drew ?_ | refine blk_alloc ?_ _)); exact BK244.out) hb); have n1_ := Aside0.mk (blk_below (g := gb245) (o := .cells #[.int .i64 a1_0, .int .i64 a1_1, .int .i64 a1_2, .int .i64 a1_3, .int .i64 a1_4, .int .i64 a1_5] 27 (0, 0)) (by (with_reducible repeat (first | refine blk_drewN ?_ _ | refine blk_drew ?_ | refine blk_alloc ?_ _)); exact BK245.out) hb); have n2_ := Aside0.mk (below_step (by repeat (first | (with_reducible first | exact HB.out | apply below_alloc | apply pw_below_drewN | apply below_drew1 | refine below_set ?_ GE244.out | refine below_set ?_ GE245.out) | exact HB.out)) hb); clear BK244; clear BK245; clear HB; have BK244 := n0_; have BK245 := n1_; have HB := n2_; clear n0_ n1_ n2_; (try clear hb); (try clear hb2); (try clear hk); (try clear hi); have hcz76_0 : w75.cell? ⟨gb245, 0, none⟩ = some (.int .i64 a1_0) := (blk_cell BK245.out 0).trans rfl; have hcz76_1 : w75.cell? ⟨gb245, 1, none⟩ = some (.int .i64 a1_1) := (blk_cell BK245.out 1).trans rfl; have hcz76_2 : w75.cell? ⟨gb245, 2, none⟩ = some (.int .i64 a1_2) := (blk_cell BK245.out 2).trans rfl; have hcz76_3 : w75.cell? ⟨gb245, 3, none⟩ = some (.int .i64 a1_3) := (blk_cell BK245.out 3).trans rfl; have hcz76_4 : w75.cell? ⟨gb245, 4, none⟩ = some (.int .i64 a1_4) := (blk_cell BK245.out 4).trans rfl; have hcz76_5 : w75.cell? ⟨gb245, 5, none⟩ = some (.int .i64 a1_5) := (blk_cell BK245.out 5).trans rfl; have hfz76_0 := blk_frozen BK245.out 0; have hfz76_1 := blk_frozen BK245.out 1; have hfz76_2 := blk_frozen BK245.out 2; have hfz76_3 := blk_frozen BK245.out 3; have hfz76_4 := blk_frozen BK245.out 4; have hfz76_5 := blk_frozen BK245.out 5) | ((with_reducible refine gate_callee (f := 17) rfl ?_); refine goesL_ (some 37) rfl rfl Try.func17 (by kernel_rfl) rfl #[.agg #[.int .i64 a1_0, .int .i64 a1_1, .int .i64 a1_2, .int .i64 a1_3, .int .i64 a1_4, .int .i64 a1_5], .int .i64 a2] rfl (by (try simp only [List.map_toArray, List.map_cons, List.map_nil]); first | done | rfl | (simp only [List.length_drop, List.length_take]; rfl)) ?_; (with_reducible refine (stair_Level.calls a1_0 a1_1 a1_2 a1_3 a1_4 a1_5 a2 t254 t255 _ A25.out).mono ?_); rintro e w77 ⟨rfl, hb⟩; refine ⟨_, rfl, ?_⟩; have n0_ := Aside0.mk (blk_below (g := gb244) (o := .cells #[.int .i64 a0_0, .int .i64 a0_1, .int .i64 a0_2, .int .i64 a0_3, .int .i64 a0_4, .int .i64 a0_5] 25 (0, 0)) (by (with_reducible repeat (first | refine blk_drewN ?_ _ | refine blk_drew ?_ | refine blk_alloc ?_ _)); exact BK244.out) hb); have n1_ := Aside0.mk (blk_below (g := gb245) (o := .cells #[.int .i64 a1_0, .int .i64 a1_1, .int .i64 a1_2, .int .i64 a1_3, .int .i64 a1_4, .int .i64 a1_5] 27 (0, 0)) (by (with_reducible repeat (first | refine blk_drewN ?_ _ | refine blk_drew ?_ | refine blk_alloc ?_ _)); exact BK245.out) hb); have n2_ := Aside0.mk (below_step (by repeat (first | (with_reducible first | exact HB.out | apply below_alloc | apply pw_below_drewN | apply below_drew1 | refine below_set ?_ GE244.out | refine below_set ?_ GE245.out) | exact HB.out)) hb); clear BK244; clear BK245; clear HB; have BK244 := n0_; have BK245 := n1_; have HB := n2_; clear n0_ n1_ n2_; (try clear hb); (try clear hb2); (try clear hk); (try clear hi); have hcz78_0 : w77.cell? ⟨gb245, 0, none⟩ = some (.int .i64 a1_0) := (blk_cell BK245.out 0).trans rfl; have hcz78_1 : w77.cell? ⟨gb245, 1, none⟩ = some (.int .i64 a1_1) := (blk_cell BK245.out 1).trans rfl; have hcz78_2 : w77.cell? ⟨gb245, 2, none⟩ = some (.int .i64 a1_2) := (blk_cell BK245.out 2).trans rfl; have hcz78_3 : w77.cell? ⟨gb245, 3, none⟩ = some (.int .i64 a1_3) := (blk_cell BK245.out 3).trans rfl; have hcz78_4 : w77.cell? ⟨gb245, 4, none⟩ = some (.int .i64 a1_4) := (blk_cell BK245.out 4).trans rfl; have hcz78_5 : w77.cell? ⟨gb245, 5, none⟩ = some (.int .i64 a1_5) := (blk_cell BK245.out 5).trans rfl; have hfz78_0 := blk_frozen BK245.out 0; have hfz78_1 := blk_frozen BK245.out 1; have hfz78_2 := blk_frozen BK245.out 2; have hfz78_3 := blk_frozen BK245.out 3; have hfz78_4 := blk_frozen BK245.out 4; have hfz78_5 := blk_frozen BK245.out 5) | ((with_reducible refine gate_callee (f := 18) rfl ?_); refine goesL_ (some 41) rfl rfl Try.func18 (by kernel_rfl) rfl #[.agg #[.int .i64 a1_0, .int .i64 a1_1, .int .i64 a1_2, .int .i64 a1_3, .int .i64 a1_4, .int .i64 a1_5]] rfl (by (try simp only [List.map_toArray, List.map_cons, List.map_nil]); first | done | rfl | (simp only [List.length_drop, List.length_take]; rfl)) ?_; (with_reducible refine (gangsawref42_Valid.calls a1_0 a1_1 a1_2 a1_3 a1_4 a1_5 false _ A26.out).mono ?_); rintro e w79 ⟨rfl, hb⟩; refine ⟨_, rfl, ?_⟩; have n0_ := Aside0.mk (blk_below (g := gb244) (o := .cells #[.int .i64 a0_0, .int .i64 a0_1, .int .i64 a0_2, .int .i64 a0_3, .int .i64 a0_4, .int .i64 a0_5] 25 (0, 0)) (by (with_reducible repeat (first | refine blk_drewN ?_ _ | refine blk_drew ?_ | refine blk_alloc ?_ _)); exact BK244.out) hb); have n1_ := Aside0.mk (blk_below (g := gb245) (o := .cells #[.int .i64 a1_0, .int .i64 a1_1, .int .i64 a1_2, .int .i64 a1_3, .int .i64 a1_4, .int .i64 a1_5] 27 (0, 0)) (by (with_reducible repeat (first | refine blk_drewN ?_ _ | refine blk_drew ?_ | refine blk_alloc ?_ _)); exact BK245.out) hb); have n2_ := Aside0.mk (below_step (by repeat (first | (with_reducible first | exact HB.out | apply below_alloc | apply pw_below_drewN | apply below_drew1 | refine below_set ?_ GE244.out | refine below_set ?_ GE245.out) | exact HB.out)) hb); clear BK244; clear BK245; clear HB; have BK244 := n0_; have BK245 := n1_; have HB := n2_; clear n0_ n1_ n2_; (try clear hb); (try clear hb2); (try clear hk); (try clear hi)))
                    go_ret
                    exact ⟨by first | rfl | (simp [errW_none, errW_some] <;> rfl) | (simp [*, errW_none, errW_some] <;> rfl), by repeat (first | (with_reducible first | exact HB.out | apply below_alloc | apply pw_below_drewN | apply below_drew1 | refine below_set ?_ GE244.out | refine below_set ?_ GE245.out) | exact HB.out)⟩
                · rw [if_neg c64] at H
                  have c64b0 : (t251 == 0) = false := beq_eq_false_iff_ne.mpr c64
                  have c64b1 : (t251 != 0) = true := bne_iff_ne.mpr c64
                  obtain rfl := Option.some.inj H
                  have hnb80 := NB245_244.out
                  have hnc80 := NB244_245.out
                  have hcz81_0 : wc.cell? ⟨gb245, 0, none⟩ = some (.int .i64 a1_0) := (blk_cell BK245.out 0).trans rfl
                  have hcz81_1 : wc.cell? ⟨gb245, 1, none⟩ = some (.int .i64 a1_1) := (blk_cell BK245.out 1).trans rfl
                  have hcz81_2 : wc.cell? ⟨gb245, 2, none⟩ = some (.int .i64 a1_2) := (blk_cell BK245.out 2).trans rfl
                  have hcz81_3 : wc.cell? ⟨gb245, 3, none⟩ = some (.int .i64 a1_3) := (blk_cell BK245.out 3).trans rfl
                  have hcz81_4 : wc.cell? ⟨gb245, 4, none⟩ = some (.int .i64 a1_4) := (blk_cell BK245.out 4).trans rfl
                  have hcz81_5 : wc.cell? ⟨gb245, 5, none⟩ = some (.int .i64 a1_5) := (blk_cell BK245.out 5).trans rfl
                  have hfz81_0 := blk_frozen BK245.out 0
                  have hfz81_1 := blk_frozen BK245.out 1
                  have hfz81_2 := blk_frozen BK245.out 2
                  have hfz81_3 := blk_frozen BK245.out 3
                  have hfz81_4 := blk_frozen BK245.out 4
                  have hfz81_5 := blk_frozen BK245.out 5
                  go_wp2_with (first | ((with_reducible refine gate_callee (f := 16) rfl ?_); refine goesL_ (some 30) rfl rfl Try.func16 (by kernel_rfl) rfl #[.agg #[.int .i64 a1_0, .int .i64 a1_1, .int .i64 a1_2, .int .i64 a1_3, .int .i64 a1_4, .int .i64 a1_5]] rfl (by (try simp only [List.map_toArray, List.map_cons, List.map_nil]); first | done | rfl | (simp only [List.length_drop, List.length_take]; rfl)) ?_; (with_reducible refine (stair_Height.calls a1_0 a1_1 a1_2 a1_3 a1_4 a1_5 t251 t252 t253 _ A24.out).mono ?_); rintro e w82 ⟨rfl, hb⟩; refine ⟨_, rfl, ?_⟩; have n0_ := Aside0.mk (blk_below (g := gb244) (o := .cells #[.int .i64 a0_0, .int .i64 a0_1, .int .i64 a0_2, .int .i64 a0_3, .int .i64 a0_4, .int .i64 a0_5] 25 (0, 0)) (by (with_reducible repeat (first | refine blk_drewN ?_ _ | refine blk_drew ?_ | refine blk_alloc ?_ _)); exact BK244.out) hb); have n1_ := Aside0.mk (blk_below (g := gb245) (o := .cells #[.int .i64 a1_0, .int .i64 a1_1, .int .i64 a1_2, .int .i64 a1_3, .int .i64 a1_4, .int .i64 a1_5] 27 (0, 0)) (by (with_reducible repeat (first | refine blk_drewN ?_ _ | refine blk_drew ?_ | refine blk_alloc ?_ _)); exact BK245.out) hb); have n2_ := Aside0.mk (below_step (by repeat (first | (with_reducible first | exact HB.out | apply below_alloc | apply pw_below_drewN | apply below_drew1 | refine below_set ?_ GE244.out | refine below_set ?_ GE245.out) | exact HB.out)) hb); clear BK244; clear BK245; clear HB; have BK244 := n0_; have BK245 := n1_; have HB := n2_; clear n0_ n1_ n2_; (try clear hb); (try clear hb2); (try clear hk); (try clear hi); have hcz83_0 : w82.cell? ⟨gb245, 0, none⟩ = some (.int .i64 a1_0) := (blk_cell BK245.out 0).trans rfl; have hcz83_1 : w82.cell? ⟨gb245, 1, none⟩ = some (.int .i64 a1_1) := (blk_cell BK245.out 1).trans rfl; have hcz83_2 : w82.cell? ⟨gb245, 2, none⟩ = some (.int .i64 a1_2) := (blk_cell BK245.out 2).trans rfl; have hcz83_3 : w82.cell? ⟨gb245, 3, none⟩ = some (.int .i64 a1_3) := (blk_cell BK245.out 3).trans rfl; have hcz83_4 : w82.cell? ⟨gb245, 4, none⟩ = some (.int .i64 a1_4) := (blk_cell BK245.out 4).trans rfl; have hcz83_5 : w82.cell? ⟨gb245, 5, none⟩ = some (.int .i64 a1_5) := (blk_cell BK245.out 5).trans rfl; have hfz83_0 := blk_frozen BK245.out 0; have hfz83_1 := blk_frozen BK245.out 1; have hfz83_2 := blk_frozen BK245.out 2; have hfz83_3 := blk_frozen BK245.out 3; have hfz83_4 := blk_frozen BK245.out 4; have hfz83_5 := blk_frozen BK245.out 5) | ((with_reducible refine gate_callee (f := 17) rfl ?_); refine goesL_ (some 37) rfl rfl Try.func17 (by kernel_rfl) rfl #[.agg #[.int .i64 a1_0, .int .i64 a1_1, .int .i64 a1_2, .int .i64 a1_3, .int .i64 a1_4, .int .i64 a1_5], .int .i64 a2] rfl (by (try simp only [List.map_toArray, List.map_cons, List.map_nil]); first | done | rfl | (simp only [List.length_drop, List.length_take]; rfl)) ?_; (with_reducible refine (stair_Level.calls a1_0 a1_1 a1_2 a1_3 a1_4 a1_5 a2 t254 t255 _ A25.out).mono ?_); rintro e w84 ⟨rfl, hb⟩; refine ⟨_, rfl, ?_⟩; have n0_ := Aside0.mk (blk_below (g := gb244) (o := .cells #[.int .i64 a0_0, .int .i64 a0_1, .int .i64 a0_2, .int .i64 a0_3, .int .i64 a0_4, .int .i64 a0_5] 25 (0, 0)) (by (with_reducible repeat (first | refine blk_drewN ?_ _ | refine blk_drew ?_ | refine blk_alloc ?_ _)); exact BK244.out) hb); have n1_ := Aside0.mk (blk_below (g := gb245) (o := .cells #[.int .i64 a1_0, .int .i64 a1_1, .int .i64 a1_2, .int .i64 a1_3, .int .i64 a1_4, .int .i64 a1_5] 27 (0, 0)) (by (with_reducible repeat (first | refine blk_drewN ?_ _ | refine blk_drew ?_ | refine blk_alloc ?_ _)); exact BK245.out) hb); have n2_ := Aside0.mk (below_step (by repeat (first | (with_reducible first | exact HB.out | apply below_alloc | apply pw_below_drewN | apply below_drew1 | refine below_set ?_ GE244.out | refine below_set ?_ GE245.out) | exact HB.out)) hb); clear BK244; clear BK245; clear HB; have BK244 := n0_; have BK245 := n1_; have HB := n2_; clear n0_ n1_ n2_; (try clear hb); (try clear hb2); (try clear hk); (try clear hi); have hcz85_0 : w84.cell? ⟨gb245, 0, none⟩ = some (.int .i64 a1_0) := (blk_cell BK245.out 0).trans rfl; have hcz85_1 : w84.cell? ⟨gb245, 1, none⟩ = some (.int .i64 a1_1) := (blk_cell BK245.out 1).trans rfl; have hcz85_2 : w84.cell? ⟨gb245, 2, none⟩ = some (.int .i64 a1_2) := (blk_cell BK245.out 2).trans rfl; have hcz85_3 : w84.cell? ⟨gb245, 3, none⟩ = some (.int .i64 a1_3) := (blk_cell BK245.out 3).trans rfl; have hcz85_4 : w84.cell? ⟨gb245, 4, none⟩ = some (.int .i64 a1_4) := (blk_cell BK245.out 4).trans rfl; have hcz85_5 : w84.cell? ⟨gb245, 5, none⟩ = some (.int .i64 a1_5) := (blk_cell BK245.out 5).trans rfl; have hfz85_0 := blk_frozen BK245.out 0; have hfz85_1 := blk_frozen BK245.out 1; have hfz85_2 := blk_frozen BK245.out 2; have hfz85_3 := blk_frozen BK245.out 3; have hfz85_4 := blk_frozen BK245.out 4; have hfz85_5 := blk_frozen BK245.out 5) | ((with_reducible refine gate_callee (f := 18) rfl ?_); refine goesL_ (some 41) rfl rfl Try.func18 (by kernel_rfl) rfl #[.agg #[.int .i64 a1_0, .int .i64 a1_1, .int .i64 a1_2, .int .i64 a1_3, .int .i64 a1_4, .int .i64 a1_5]] rfl (by (try simp only [List.map_toArray, List.map_cons, List.map_nil]); first | done | rfl | (simp only [List.length_drop, List.length_take]; rfl)) ?_; (with_reducible refine (gangsawref42_Valid.calls a1_0 a1_1 a1_2 a1_3 a1_4 a1_5 false _ A26.out).mono ?_); rintro e w86 ⟨rfl, hb⟩; refine ⟨_, rfl, ?_⟩; have n0_ := Aside0.mk (blk_below (g := gb244) (o := .cells #[.int .i64 a0_0, .int .i64 a0_1, .int .i64 a0_2, .int .i64 a0_3, .int .i64 a0_4, .int .i64 a0_5] 25 (0, 0)) (by (with_reducible repeat (first | refine blk_drewN ?_ _ | refine blk_drew ?_ | refine blk_alloc ?_ _)); exact BK244.out) hb); have n1_ := Aside0.mk (blk_below (g := gb245) (o := .cells #[.int .i64 a1_0, .int .i64 a1_1, .int .i64 a1_2, .int .i64 a1_3, .int .i64 a1_4, .int .i64 a1_5] 27 (0, 0)) (by (with_reducible repeat (first | refine blk_drewN ?_ _ | refine blk_drew ?_ | refine blk_alloc ?_ _)); exact BK245.out) hb); have n2_ := Aside0.mk (below_step (by repeat (first | (with_reducible first | exact HB.out | apply below_alloc | apply pw_below_drewN | apply below_drew1 | refine below_set ?_ GE244.out | refine below_set ?_ GE245.out) | exact HB.out)) hb); clear BK244; clear BK245; clear HB; have BK244 := n0_; have BK245 := n1_; have HB := n2_; clear n0_ n1_ n2_; (try clear hb); (try clear hb2); (try clear hk); (try clear hi)))
                  go_ret
                  exact ⟨by first | rfl | (simp [errW_none, errW_some] <;> rfl) | (simp [*, errW_none, errW_some] <;> rfl), by repeat (first | (with_reducible first | exact HB.out | apply below_alloc | apply pw_below_drewN | apply below_drew1 | refine below_set ?_ GE244.out | refine below_set ?_ GE245.out) | exact HB.out)⟩
              · rw [if_neg c63] at H
                have c63b0 : (t255 == t253) = false := beq_eq_false_iff_ne.mpr c63
                have c63b1 : (t255 != t253) = true := bne_iff_ne.mpr c63
                obtain rfl := Option.some.inj H
                have hnb87 := NB245_244.out
                have hnc87 := NB244_245.out
                have hcz88_0 : wc.cell? ⟨gb245, 0, none⟩ = some (.int .i64 a1_0) := (blk_cell BK245.out 0).trans rfl
                have hcz88_1 : wc.cell? ⟨gb245, 1, none⟩ = some (.int .i64 a1_1) := (blk_cell BK245.out 1).trans rfl
                have hcz88_2 : wc.cell? ⟨gb245, 2, none⟩ = some (.int .i64 a1_2) := (blk_cell BK245.out 2).trans rfl
                have hcz88_3 : wc.cell? ⟨gb245, 3, none⟩ = some (.int .i64 a1_3) := (blk_cell BK245.out 3).trans rfl
                have hcz88_4 : wc.cell? ⟨gb245, 4, none⟩ = some (.int .i64 a1_4) := (blk_cell BK245.out 4).trans rfl
                have hcz88_5 : wc.cell? ⟨gb245, 5, none⟩ = some (.int .i64 a1_5) := (blk_cell BK245.out 5).trans rfl
                have hfz88_0 := blk_frozen BK245.out 0
                have hfz88_1 := blk_frozen BK245.out 1
                have hfz88_2 := blk_frozen BK245.out 2
                have hfz88_3 := blk_frozen BK245.out 3
                have hfz88_4 := blk_frozen BK245.out 4
                have hfz88_5 := blk_frozen BK245.out 5
                go_wp2_with (first | ((with_reducible refine gate_callee (f := 16) rfl ?_); refine goesL_ (some 30) rfl rfl Try.func16 (by kernel_rfl) rfl #[.agg #[.int .i64 a1_0, .int .i64 a1_1, .int .i64 a1_2, .int .i64 a1_3, .int .i64 a1_4, .int .i64 a1_5]] rfl (by (try simp only [List.map_toArray, List.map_cons, List.map_nil]); first | done | rfl | (simp only [List.length_drop, List.length_take]; rfl)) ?_; (with_reducible refine (stair_Height.calls a1_0 a1_1 a1_2 a1_3 a1_4 a1_5 t251 t252 t253 _ A24.out).mono ?_); rintro e w89 ⟨rfl, hb⟩; refine ⟨_, rfl, ?_⟩; have n0_ := Aside0.mk (blk_below (g := gb244) (o := .cells #[.int .i64 a0_0, .int .i64 a0_1, .int .i64 a0_2, .int .i64 a0_3, .int .i64 a0_4, .int .i64 a0_5] 25 (0, 0)) (by (with_reducible repeat (first | refine blk_drewN ?_ _ | refine blk_drew ?_ | refine blk_alloc ?_ _)); exact BK244.out) hb); have n1_ := Aside0.mk (blk_below (g := gb245) (o := .cells #[.int .i64 a1_0, .int .i64 a1_1, .int .i64 a1_2, .int .i64 a1_3, .int .i64 a1_4, .int .i64 a1_5] 27 (0, 0)) (by (with_reducible repeat (first | refine blk_drewN ?_ _ | refine blk_drew ?_ | refine blk_alloc ?_ _)); exact BK245.out) hb); have n2_ := Aside0.mk (below_step (by repeat (first | (with_reducible first | exact HB.out | apply below_alloc | apply pw_below_drewN | apply below_drew1 | refine below_set ?_ GE244.out | refine below_set ?_ GE245.out) | exact HB.out)) hb); clear BK244; clear BK245; clear HB; have BK244 := n0_; have BK245 := n1_; have HB := n2_; clear n0_ n1_ n2_; (try clear hb); (try clear hb2); (try clear hk); (try clear hi); have hcz90_0 : w89.cell? ⟨gb245, 0, none⟩ = some (.int .i64 a1_0) := (blk_cell BK245.out 0).trans rfl; have hcz90_1 : w89.cell? ⟨gb245, 1, none⟩ = some (.int .i64 a1_1) := (blk_cell BK245.out 1).trans rfl; have hcz90_2 : w89.cell? ⟨gb245, 2, none⟩ = some (.int .i64 a1_2) := (blk_cell BK245.out 2).trans rfl; have hcz90_3 : w89.cell? ⟨gb245, 3, none⟩ = some (.int .i64 a1_3) := (blk_cell BK245.out 3).trans rfl; have hcz90_4 : w89.cell? ⟨gb245, 4, none⟩ = some (.int .i64 a1_4) := (blk_cell BK245.out 4).trans rfl; have hcz90_5 : w89.cell? ⟨gb245, 5, none⟩ = some (.int .i64 a1_5) := (blk_cell BK245.out 5).trans rfl; have hfz90_0 := blk_frozen BK245.out 0; have hfz90_1 := blk_frozen BK245.out 1; have hfz90_2 := blk_frozen BK245.out 2; have hfz90_3 := blk_frozen BK245.out 3; have hfz90_4 := blk_frozen BK245.out 4; have hfz90_5 := blk_frozen BK245.out 5) | ((with_reducible refine gate_callee (f := 17) rfl ?_); refine goesL_ (some 37) rfl rfl Try.func17 (by kernel_rfl) rfl #[.agg #[.int .i64 a1_0, .int .i64 a1_1, .int .i64 a1_2, .int .i64 a1_3, .int .i64 a1_4, .int .i64 a1_5], .int .i64 a2] rfl (by (try simp only [List.map_toArray, List.map_cons, List.map_nil]); first | done | rfl | (simp only [List.length_drop, List.length_take]; rfl)) ?_; (with_reducible refine (stair_Level.calls a1_0 a1_1 a1_2 a1_3 a1_4 a1_5 a2 t254 t255 _ A25.out).mono ?_); rintro e w91 ⟨rfl, hb⟩; refine ⟨_, rfl, ?_⟩; have n0_ := Aside0.mk (blk_below (g := gb244) (o := .cells #[.int .i64 a0_0, .int .i64 a0_1, .int .i64 a0_2, .int .i64 a0_3, .int .i64 a0_4, .int .i64 a0_5] 25 (0, 0)) (by (with_reducible repeat (first | refine blk_drewN ?_ _ | refine blk_drew ?_ | refine blk_alloc ?_ _)); exact BK244.out) hb); have n1_ := Aside0.mk (blk_below (g := gb245) (o := .cells #[.int .i64 a1_0, .int .i64 a1_1, .int .i64 a1_2, .int .i64 a1_3, .int .i64 a1_4, .int .i64 a1_5] 27 (0, 0)) (by (with_reducible repeat (first | refine blk_drewN ?_ _ | refine blk_drew ?_ | refine blk_alloc ?_ _)); exact BK245.out) hb); have n2_ := Aside0.mk (below_step (by repeat (first | (with_reducible first | exact HB.out | apply below_alloc | apply pw_below_drewN | apply below_drew1 | refine below_set ?_ GE244.out | refine below_set ?_ GE245.out) | exact HB.out)) hb); clear BK244; clear BK245; clear HB; have BK244 := n0_; have BK245 := n1_; have HB := n2_; clear n0_ n1_ n2_; (try clear hb); (try clear hb2); (try clear hk); (try clear hi); have hcz92_0 : w91.cell? ⟨gb245, 0, none⟩ = some (.int .i64 a1_0) := (blk_cell BK245.out 0).trans rfl; have hcz92_1 : w91.cell? ⟨gb245, 1, none⟩ = some (.int .i64 a1_1) := (blk_cell BK245.out 1).trans rfl; have hcz92_2 : w91.cell? ⟨gb245, 2, none⟩ = some (.int .i64 a1_2) := (blk_cell BK245.out 2).trans rfl; have hcz92_3 : w91.cell? ⟨gb245, 3, none⟩ = some (.int .i64 a1_3) := (blk_cell BK245.out 3).trans rfl; have hcz92_4 : w91.cell? ⟨gb245, 4, none⟩ = some (.int .i64 a1_4) := (blk_cell BK245.out 4).trans rfl; have hcz92_5 : w91.cell? ⟨gb245, 5, none⟩ = some (.int .i64 a1_5) := (blk_cell BK245.out 5).trans rfl; have hfz92_0 := blk_frozen BK245.out 0; have hfz92_1 := blk_frozen BK245.out 1; have hfz92_2 := blk_frozen BK245.out 2; have hfz92_3 := blk_frozen BK245.out 3; have hfz92_4 := blk_frozen BK245.out 4; have hfz92_5 := blk_frozen BK245.out 5) | ((with_reducible refine gate_callee (f := 18) rfl ?_); refine goesL_ (some 41) rfl rfl Try.func18 (by kernel_rfl) rfl #[.agg #[.int .i64 a1_0, .int .i64 a1_1, .int .i64 a1_2, .int .i64 a1_3, .int .i64 a1_4, .int .i64 a1_5]] rfl (by (try simp only [List.map_toArray, List.map_cons, List.map_nil]); first | done | rfl | (simp only [List.length_drop, List.length_take]; rfl)) ?_; (with_reducible refine (gangsawref42_Valid.calls a1_0 a1_1 a1_2 a1_3 a1_4 a1_5 false _ A26.out).mono ?_); rintro e w93 ⟨rfl, hb⟩; refine ⟨_, rfl, ?_⟩; have n0_ := Aside0.mk (blk_below (g := gb244) (o := .cells #[.int .i64 a0_0, .int .i64 a0_1, .int .i64 a0_2, .int .i64 a0_3, .int .i64 a0_4, .int .i64 a0_5] 25 (0, 0)) (by (with_reducible repeat (first | refine blk_drewN ?_ _ | refine blk_drew ?_ | refine blk_alloc ?_ _)); exact BK244.out) hb); have n1_ := Aside0.mk (blk_below (g := gb245) (o := .cells #[.int .i64 a1_0, .int .i64 a1_1, .int .i64 a1_2, .int .i64 a1_3, .int .i64 a1_4, .int .i64 a1_5] 27 (0, 0)) (by (with_reducible repeat (first | refine blk_drewN ?_ _ | refine blk_drew ?_ | refine blk_alloc ?_ _)); exact BK245.out) hb); have n2_ := Aside0.mk (below_step (by repeat (first | (with_reducible first | exact HB.out | apply below_alloc | apply pw_below_drewN | apply below_drew1 | refine below_set ?_ GE244.out | refine below_set ?_ GE245.out) | exact HB.out)) hb); clear BK244; clear BK245; clear HB; have BK244 := n0_; have BK245 := n1_; have HB := n2_; clear n0_ n1_ n2_; (try clear hb); (try clear hb2); (try clear hk); (try clear hi)))
                go_ret
                exact ⟨by first | rfl | (simp [errW_none, errW_some] <;> rfl) | (simp [*, errW_none, errW_some] <;> rfl), by repeat (first | (with_reducible first | exact HB.out | apply below_alloc | apply pw_below_drewN | apply below_drew1 | refine below_set ?_ GE244.out | refine below_set ?_ GE245.out) | exact HB.out)⟩
            · rw [if_neg c62] at H
              have c62b0 : (t253 == 1) = false := beq_eq_false_iff_ne.mpr c62
              have c62b1 : (t253 != 1) = true := bne_iff_ne.mpr c62
              obtain rfl := Option.some.inj H
              have hnb94 := NB245_244.out
              have hnc94 := NB244_245.out
              have hcz95_0 : wc.cell? ⟨gb245, 0, none⟩ = some (.int .i64 a1_0) := (blk_cell BK245.out 0).trans rfl
              have hcz95_1 : wc.cell? ⟨gb245, 1, none⟩ = some (.int .i64 a1_1) := (blk_cell BK245.out 1).trans rfl
              have hcz95_2 : wc.cell? ⟨gb245, 2, none⟩ = some (.int .i64 a1_2) := (blk_cell BK245.out 2).trans rfl
              have hcz95_3 : wc.cell? ⟨gb245, 3, none⟩ = some (.int .i64 a1_3) := (blk_cell BK245.out 3).trans rfl
              have hcz95_4 : wc.cell? ⟨gb245, 4, none⟩ = some (.int .i64 a1_4) := (blk_cell BK245.out 4).trans rfl
              have hcz95_5 : wc.cell? ⟨gb245, 5, none⟩ = some (.int .i64 a1_5) := (blk_cell BK245.out 5).trans rfl
              have hfz95_0 := blk_frozen BK245.out 0
              have hfz95_1 := blk_frozen BK245.out 1
              have hfz95_2 := blk_frozen BK245.out 2
              have hfz95_3 := blk_frozen BK245.out 3
              have hfz95_4 := blk_frozen BK245.out 4
              have hfz95_5 := blk_frozen BK245.out 5
              go_wp2_with (first | ((with_reducible refine gate_callee (f := 16) rfl ?_); refine goesL_ (some 30) rfl rfl Try.func16 (by kernel_rfl) rfl #[.agg #[.int .i64 a1_0, .int .i64 a1_1, .int .i64 a1_2, .int .i64 a1_3, .int .i64 a1_4, .int .i64 a1_5]] rfl (by (try simp only [List.map_toArray, List.map_cons, List.map_nil]); first | done | rfl | (simp only [List.length_drop, List.length_take]; rfl)) ?_; (with_reducible refine (stair_Height.calls a1_0 a1_1 a1_2 a1_3 a1_4 a1_5 t251 t252 t253 _ A24.out).mono ?_); rintro e w96 ⟨rfl, hb⟩; refine ⟨_, rfl, ?_⟩; have n0_ := Aside0.mk (blk_below (g := gb244) (o := .cells #[.int .i64 a0_0, .int .i64 a0_1, .int .i64 a0_2, .int .i64 a0_3, .int .i64 a0_4, .int .i64 a0_5] 25 (0, 0)) (by (with_reducible repeat (first | refine blk_drewN ?_ _ | refine blk_drew ?_ | refine blk_alloc ?_ _)); exact BK244.out) hb); have n1_ := Aside0.mk (blk_below (g := gb245) (o := .cells #[.int .i64 a1_0, .int .i64 a1_1, .int .i64 a1_2, .int .i64 a1_3, .int .i64 a1_4, .int .i64 a1_5] 27 (0, 0)) (by (with_reducible repeat (first | refine blk_drewN ?_ _ | refine blk_drew ?_ | refine blk_alloc ?_ _)); exact BK245.out) hb); have n2_ := Aside0.mk (below_step (by repeat (first | (with_reducible first | exact HB.out | apply below_alloc | apply pw_below_drewN | apply below_drew1 | refine below_set ?_ GE244.out | refine below_set ?_ GE245.out) | exact HB.out)) hb); clear BK244; clear BK245; clear HB; have BK244 := n0_; have BK245 := n1_; have HB := n2_; clear n0_ n1_ n2_; (try clear hb); (try clear hb2); (try clear hk); (try clear hi); have hcz97_0 : w96.cell? ⟨gb245, 0, none⟩ = some (.int .i64 a1_0) := (blk_cell BK245.out 0).trans rfl; have hcz97_1 : w96.cell? ⟨gb245, 1, none⟩ = some (.int .i64 a1_1) := (blk_cell BK245.out 1).trans rfl; have hcz97_2 : w96.cell? ⟨gb245, 2, none⟩ = some (.int .i64 a1_2) := (blk_cell BK245.out 2).trans rfl; have hcz97_3 : w96.cell? ⟨gb245, 3, none⟩ = some (.int .i64 a1_3) := (blk_cell BK245.out 3).trans rfl; have hcz97_4 : w96.cell? ⟨gb245, 4, none⟩ = some (.int .i64 a1_4) := (blk_cell BK245.out 4).trans rfl; have hcz97_5 : w96.cell? ⟨gb245, 5, none⟩ = some (.int .i64 a1_5) := (blk_cell BK245.out 5).trans rfl; have hfz97_0 := blk_frozen BK245.out 0; have hfz97_1 := blk_frozen BK245.out 1; have hfz97_2 := blk_frozen BK245.out 2; have hfz97_3 := blk_frozen BK245.out 3; have hfz97_4 := blk_frozen BK245.out 4; have hfz97_5 := blk_frozen BK245.out 5) | ((with_reducible refine gate_callee (f := 17) rfl ?_); refine goesL_ (some 37) rfl rfl Try.func17 (by kernel_rfl) rfl #[.agg #[.int .i64 a1_0, .int .i64 a1_1, .int .i64 a1_2, .int .i64 a1_3, .int .i64 a1_4, .int .i64 a1_5], .int .i64 a2] rfl (by (try simp only [List.map_toArray, List.map_cons, List.map_nil]); first | done | rfl | (simp only [List.length_drop, List.length_take]; rfl)) ?_; (with_reducible refine (stair_Level.calls a1_0 a1_1 a1_2 a1_3 a1_4 a1_5 a2 t254 t255 _ A25.out).mono ?_); rintro e w98 ⟨rfl, hb⟩; refine ⟨_, rfl, ?_⟩; have n0_ := Aside0.mk (blk_below (g := gb244) (o := .cells #[.int .i64 a0_0, .int .i64 a0_1, .int .i64 a0_2, .int .i64 a0_3, .int .i64 a0_4, .int .i64 a0_5] 25 (0, 0)) (by (with_reducible repeat (first | refine blk_drewN ?_ _ | refine blk_drew ?_ | refine blk_alloc ?_ _)); exact BK244.out) hb); have n1_ := Aside0.mk (blk_below (g := gb245) (o := .cells #[.int .i64 a1_0, .int .i64 a1_1, .int .i64 a1_2, .int .i64 a1_3, .int .i64 a1_4, .int .i64 a1_5] 27 (0, 0)) (by (with_reducible repeat (first | refine blk_drewN ?_ _ | refine blk_drew ?_ | refine blk_alloc ?_ _)); exact BK245.out) hb); have n2_ := Aside0.mk (below_step (by repeat (first | (with_reducible first | exact HB.out | apply below_alloc | apply pw_below_drewN | apply below_drew1 | refine below_set ?_ GE244.out | refine below_set ?_ GE245.out) | exact HB.out)) hb); clear BK244; clear BK245; clear HB; have BK244 := n0_; have BK245 := n1_; have HB := n2_; clear n0_ n1_ n2_; (try clear hb); (try clear hb2); (try clear hk); (try clear hi); have hcz99_0 : w98.cell? ⟨gb245, 0, none⟩ = some (.int .i64 a1_0) := (blk_cell BK245.out 0).trans rfl; have hcz99_1 : w98.cell? ⟨gb245, 1, none⟩ = some (.int .i64 a1_1) := (blk_cell BK245.out 1).trans rfl; have hcz99_2 : w98.cell? ⟨gb245, 2, none⟩ = some (.int .i64 a1_2) := (blk_cell BK245.out 2).trans rfl; have hcz99_3 : w98.cell? ⟨gb245, 3, none⟩ = some (.int .i64 a1_3) := (blk_cell BK245.out 3).trans rfl; have hcz99_4 : w98.cell? ⟨gb245, 4, none⟩ = some (.int .i64 a1_4) := (blk_cell BK245.out 4).trans rfl; have hcz99_5 : w98.cell? ⟨gb245, 5, none⟩ = some (.int .i64 a1_5) := (blk_cell BK245.out 5).trans rfl; have hfz99_0 := blk_frozen BK245.out 0; have hfz99_1 := blk_frozen BK245.out 1; have hfz99_2 := blk_frozen BK245.out 2; have hfz99_3 := blk_frozen BK245.out 3; have hfz99_4 := blk_frozen BK245.out 4; have hfz99_5 := blk_frozen BK245.out 5) | ((with_reducible refine gate_callee (f := 18) rfl ?_); refine goesL_ (some 41) rfl rfl Try.func18 (by kernel_rfl) rfl #[.agg #[.int .i64 a1_0, .int .i64 a1_1, .int .i64 a1_2, .int .i64 a1_3, .int .i64 a1_4, .int .i64 a1_5]] rfl (by (try simp only [List.map_toArray, List.map_cons, List.map_nil]); first | done | rfl | (simp only [List.length_drop, List.length_take]; rfl)) ?_; (with_reducible refine (gangsawref42_Valid.calls a1_0 a1_1 a1_2 a1_3 a1_4 a1_5 false _ A26.out).mono ?_); rintro e w100 ⟨rfl, hb⟩; refine ⟨_, rfl, ?_⟩; have n0_ := Aside0.mk (blk_below (g := gb244) (o := .cells #[.int .i64 a0_0, .int .i64 a0_1, .int .i64 a0_2, .int .i64 a0_3, .int .i64 a0_4, .int .i64 a0_5] 25 (0, 0)) (by (with_reducible repeat (first | refine blk_drewN ?_ _ | refine blk_drew ?_ | refine blk_alloc ?_ _)); exact BK244.out) hb); have n1_ := Aside0.mk (blk_below (g := gb245) (o := .cells #[.int .i64 a1_0, .int .i64 a1_1, .int .i64 a1_2, .int .i64 a1_3, .int .i64 a1_4, .int .i64 a1_5] 27 (0, 0)) (by (with_reducible repeat (first | refine blk_drewN ?_ _ | refine blk_drew ?_ | refine blk_alloc ?_ _)); exact BK245.out) hb); have n2_ := Aside0.mk (below_step (by repeat (first | (with_reducible first | exact HB.out | apply below_alloc | apply pw_below_drewN | apply below_drew1 | refine below_set ?_ GE244.out | refine below_set ?_ GE245.out) | exact HB.out)) hb); clear BK244; clear BK245; clear HB; have BK244 := n0_; have BK245 := n1_; have HB := n2_; clear n0_ n1_ n2_; (try clear hb); (try clear hb2); (try clear hk); (try clear hi)))
              go_ret
              exact ⟨by first | rfl | (simp [errW_none, errW_some] <;> rfl) | (simp [*, errW_none, errW_some] <;> rfl), by repeat (first | (with_reducible first | exact HB.out | apply below_alloc | apply pw_below_drewN | apply below_drew1 | refine below_set ?_ GE244.out | refine below_set ?_ GE245.out) | exact HB.out)⟩
  · replace c5 := Bool.eq_false_iff.mpr c5
    subst c5
    have H1 : (some false) = some r := by rw [if_neg (show ¬ (false = true) by decide)] at H; exact H
    clear H
    have H := H1
    clear H1
    obtain rfl := Option.some.inj H
    go_enter Try.func3, Try.ntmps3
    go_wp2_with (first | ((with_reducible refine gate_dst (N := 3) rfl ?_); refine box_event ?hg (N := 3) ?hd (cs := #[.int .i64 a0_0, .int .i64 a0_1, .int .i64 a0_2, .int .i64 a0_3, .int .i64 a0_4, .int .i64 a0_5]) (t := 25) ?hr ?_; (case hd => rfl); (case hg => rfl); (case hr => first | (go_simp; done) | (go_simp; rfl)); intro gb244 hg w101 hbox hb; have n0_ := Aside0.mk (below_step (by repeat (first | (with_reducible first | exact HB.out | apply below_alloc | apply pw_below_drewN | apply below_drew1) | exact HB.out)) hb); have n1_ := Aside0.mk (hbox); have n2_ := Aside0.mk ((by rw [hg]; exact (below_size (by repeat (first | (with_reducible first | exact HB.out | apply below_alloc | apply pw_below_drewN | apply below_drew1) | exact HB.out))) : w.heap.size ≤ gb244)); have n3_ := Aside0.mk ((by rw [hg]; exact (below_size (by repeat (first | (with_reducible first | exact HB.out | apply below_alloc | apply pw_below_drewN | apply below_drew1) | exact HB.out))) : w.heap.size ≤ gb244)); clear HB; have HB := n0_; have BK244 := n1_; have GW244 := n2_; have GE244 := n3_; clear n0_ n1_ n2_ n3_; clear hb hbox hg) | ((with_reducible refine gate_dst (N := 4) rfl ?_); refine box_event ?hg (N := 4) ?hd (cs := #[.int .i64 a1_0, .int .i64 a1_1, .int .i64 a1_2, .int .i64 a1_3, .int .i64 a1_4, .int .i64 a1_5]) (t := 27) ?hr ?_; (case hd => rfl); (case hg => rfl); (case hr => first | (go_simp; done) | (go_simp; rfl)); intro gb245 hg w102 hbox hb; have n0_ := Aside0.mk (blk_below (g := gb244) (o := .cells #[.int .i64 a0_0, .int .i64 a0_1, .int .i64 a0_2, .int .i64 a0_3, .int .i64 a0_4, .int .i64 a0_5] 25 (0, 0)) (by (with_reducible repeat (first | refine blk_drewN ?_ _ | refine blk_drew ?_ | refine blk_alloc ?_ _)); exact BK244.out) hb); have n1_ := Aside0.mk (below_step (by repeat (first | (with_reducible first | exact HB.out | apply below_alloc | apply pw_below_drewN | apply below_drew1 | refine below_set ?_ GE244.out) | exact HB.out)) hb); have n2_ := Aside0.mk (hbox); have n3_ := Aside0.mk ((by rw [hg]; exact (below_size (by repeat (first | (with_reducible first | exact HB.out | apply below_alloc | apply pw_below_drewN | apply below_drew1 | refine below_set ?_ GE244.out) | exact HB.out))) : w.heap.size ≤ gb245)); have n4_ := Aside0.mk ((by rw [hg]; exact (below_size (by repeat (first | (with_reducible first | exact HB.out | apply below_alloc | apply pw_below_drewN | apply below_drew1 | refine below_set ?_ GE244.out) | exact HB.out))) : w.heap.size ≤ gb245)); have n5_ := Aside0.mk ((by rw [hg]; exact Nat.ne_of_lt (blk_lt (g := gb244) (o := .cells #[.int .i64 a0_0, .int .i64 a0_1, .int .i64 a0_2, .int .i64 a0_3, .int .i64 a0_4, .int .i64 a0_5] 25 (0, 0)) (by (with_reducible repeat (first | refine blk_drewN ?_ _ | refine blk_drew ?_ | refine blk_alloc ?_ _)); exact BK244.out)) : gb244 ≠ gb245)); have n6_ := Aside0.mk ((by rw [hg]; exact Nat.ne_of_gt (blk_lt (g := gb244) (o := .cells #[.int .i64 a0_0, .int .i64 a0_1, .int .i64 a0_2, .int .i64 a0_3, .int .i64 a0_4, .int .i64 a0_5] 25 (0, 0)) (by (with_reducible repeat (first | refine blk_drewN ?_ _ | refine blk_drew ?_ | refine blk_alloc ?_ _)); exact BK244.out)) : gb245 ≠ gb244)); clear BK244; clear HB; have BK244 := n0_; have HB := n1_; have BK245 := n2_; have GW245 := n3_; have GE245 := n4_; have NB244_245 := n5_; have NB245_244 := n6_; clear n0_ n1_ n2_ n3_ n4_ n5_ n6_; clear hb hbox hg) | ((with_reducible refine gate_callee (f := 11) rfl ?_); refine goesL_ (some 12) rfl rfl Try.func11 (by kernel_rfl) rfl #[] rfl (by (try simp only [List.map_toArray, List.map_cons, List.map_nil]); first | done | rfl | (simp only [List.length_drop, List.length_take]; rfl)) ?_; (with_reducible refine (gangsawlaw42_awake.calls k  false _ A4.out).mono ?_); rintro e w103 ⟨rfl, hb⟩; refine ⟨_, rfl, ?_⟩; have n0_ := Aside0.mk (blk_below (g := gb244) (o := .cells #[.int .i64 a0_0, .int .i64 a0_1, .int .i64 a0_2, .int .i64 a0_3, .int .i64 a0_4, .int .i64 a0_5] 25 (0, 0)) (by (with_reducible repeat (first | refine blk_drewN ?_ _ | refine blk_drew ?_ | refine blk_alloc ?_ _)); exact BK244.out) hb); have n1_ := Aside0.mk (blk_below (g := gb245) (o := .cells #[.int .i64 a1_0, .int .i64 a1_1, .int .i64 a1_2, .int .i64 a1_3, .int .i64 a1_4, .int .i64 a1_5] 27 (0, 0)) (by (with_reducible repeat (first | refine blk_drewN ?_ _ | refine blk_drew ?_ | refine blk_alloc ?_ _)); exact BK245.out) hb); have n2_ := Aside0.mk (below_step (by repeat (first | (with_reducible first | exact HB.out | apply below_alloc | apply pw_below_drewN | apply below_drew1 | refine below_set ?_ GE244.out | refine below_set ?_ GE245.out) | exact HB.out)) hb); clear BK244; clear BK245; clear HB; have BK244 := n0_; have BK245 := n1_; have HB := n2_; clear n0_ n1_ n2_; (try clear hb); (try clear hb2); (try clear hk); (try clear hi)))
    go_ret
    exact ⟨by first | rfl | (simp [errW_none, errW_some] <;> rfl) | (simp [*, errW_none, errW_some] <;> rfl), by repeat (first | (with_reducible first | exact HB.out | apply below_alloc | apply pw_below_drewN | apply below_drew1 | refine below_set ?_ GE244.out | refine below_set ?_ GE245.out) | exact HB.out)⟩

/-- THE ONE PURE STATEMENT of gangsawlaw42_StairChecks. -/
def gangsawlaw42_StairChecks.Pure : Prop := ∀ (a0_0 : Int) (a0_1 : Int) (a0_2 : Int) (a0_3 : Int) (a0_4 : Int) (a0_5 : Int) (a1_0 : Int) (a1_1 : Int) (a1_2 : Int) (a1_3 : Int) (a1_4 : Int) (a1_5 : Int) (a2 : Int), g25 ((⟨(⟨a0_0, a0_1⟩ : S23), (⟨a0_2, a0_3⟩ : S23), (⟨a0_4, a0_5⟩ : S23)⟩ : S25)) → g27 ((⟨a1_0, a1_1, a1_2, a1_3, a1_4, a1_5⟩ : S27)) → (gInt .i64) a2 → ∃ k, gangsawlaw42_StairChecks.f k a0_0 a0_1 a0_2 a0_3 a0_4 a0_5 a1_0 a1_1 a1_2 a1_3 a1_4 a1_5 a2 = some true
theorem gangsawlaw42_StairChecks.walk (P : gangsawlaw42_StairChecks.Pure) (a0_0 : Int) (a0_1 : Int) (a0_2 : Int) (a0_3 : Int) (a0_4 : Int) (a0_5 : Int) (a1_0 : Int) (a1_1 : Int) (a1_2 : Int) (a1_3 : Int) (a1_4 : Int) (a1_5 : Int) (a2 : Int) (w : World) (w0 : g25 ((⟨(⟨a0_0, a0_1⟩ : S23), (⟨a0_2, a0_3⟩ : S23), (⟨a0_4, a0_5⟩ : S23)⟩ : S25))) (w1 : g27 ((⟨a1_0, a1_1, a1_2, a1_3, a1_4, a1_5⟩ : S27))) (w2 : (gInt .i64) a2) :
    Calls Try.prog 3 #[.agg #[.int .i64 a0_0, .int .i64 a0_1, .int .i64 a0_2, .int .i64 a0_3, .int .i64 a0_4, .int .i64 a0_5], .agg #[.int .i64 a1_0, .int .i64 a1_1, .int .i64 a1_2, .int .i64 a1_3, .int .i64 a1_4, .int .i64 a1_5], .int .i64 a2] w fun e w' => e = .returned (.bool true) ∧ Below w.heap.size w w' := by
  obtain ⟨k, h⟩ := P a0_0 a0_1 a0_2 a0_3 a0_4 a0_5 a1_0 a1_1 a1_2 a1_3 a1_4 a1_5 a2 w0 w1 w2
  refine (gangsawlaw42_StairChecks.calls k a0_0 a0_1 a0_2 a0_3 a0_4 a0_5 a1_0 a1_1 a1_2 a1_3 a1_4 a1_5 a2 true w h).mono ?_
  rintro e w' ⟨rfl, hd⟩
  exact ⟨rfl, hd⟩

end Go.Proofs.Ytaainbbkengjfaa.XA
