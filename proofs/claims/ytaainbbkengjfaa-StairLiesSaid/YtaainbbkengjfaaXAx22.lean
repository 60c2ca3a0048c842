-- written by xprint.py, this project's own program (wip/), over the words of print.sh
import Derived.Test.YtaainbbkengjfaaXAx0
import Derived.Test.YtaainbbkengjfaaXAx4
import Derived.Test.YtaainbbkengjfaaXAx6
import Derived.Test.YtaainbbkengjfaaXAx9
import Derived.Test.YtaainbbkengjfaaXAx11
import Derived.Test.YtaainbbkengjfaaXAx12
namespace Go.Proofs.Ytaainbbkengjfaa.XA
open Go.RowKit Go.Proofs.Ytaainbbkengjfaa.Opens Go.Proofs.YtaainbbkengjfaaW.PrintWords Go.Proofs.YtaainbbkengjfaaW.PrintLast Go.Proofs.YtaainbbkengjfaaW.PrintMore
attribute [local go_sem] max2_int min2_int max_two min_two max_three min_three max_four min_four   -- for this text's walks alone
set_option linter.unusedVariables false
set_option linter.unusedSimpArgs false

attribute [local go_sem high] eqA60
/-! ### gangsawlaw42_StairLies: function 8 -/
mutual
def gangsawlaw42_StairLies.j0 : Nat → List (S66) → Bool → Int → Int → Int → Int → Int → Int → Option (Bool)
  | 0, _, _, _, _, _, _, _, _ => none
  | k + 1, x3, x60, x365000, x365001, x365002, x365003, x365004, x365005 => if x60 = true then (some false) else (gangsawlaw42_StairLies.l0 k x3 0 x365000 x365001 x365002 x365003 x365004 x365005)
def gangsawlaw42_StairLies.l0 : Nat → List (S66) → Int → Int → Int → Int → Int → Int → Int → Option (Bool)
  | 0, _, _, _, _, _, _, _, _ => none
  | k + 1, x3, x8, x365000, x365001, x365002, x365003, x365004, x365005 => if x8 < (x3.length : Int) then (if 0 ≤ x8 then (if ((rd_T66 x3 x8).f0.f0) ≥ ((rd_T66 x3 x8).f1.f0) then (gangsawlaw42_StairLies.j2 k x3 x8 true x365000 x365001 x365002 x365003 x365004 x365005) else (if ((rd_T66 x3 x8).f1.f1) = x365004 then (gangsawlaw42_StairLies.j2 k x3 x8 (decide (((rd_T66 x3 x8).f0.f2) ≥ ((rd_T66 x3 x8).f1.f2))) x365000 x365001 x365002 x365003 x365004 x365005) else (gangsawlaw42_StairLies.j2 k x3 x8 true x365000 x365001 x365002 x365003 x365004 x365005))) else (none)) else (some true)
def gangsawlaw42_StairLies.j2 : Nat → List (S66) → Int → Bool → Int → Int → Int → Int → Int → Int → Option (Bool)
  | 0, _, _, _, _, _, _, _, _, _ => none
  | k + 1, x3, x8, x105, x365000, x365001, x365002, x365003, x365004, x365005 => if x105 = true then (some false) else (if x8 > 0 then (if 0 ≤ x8 then (if x8 < (x3.length : Int) then (if 0 ≤ (wrap64 (x8 - 1)) then (if (wrap64 (x8 - 1)) < (x3.length : Int) then (if ((rd_T66 x3 x8).f0.f2) = ((rd_T66 x3 (wrap64 (x8 - 1))).f1.f2) then (if (wrap64 (((rd_T66 x3 (wrap64 (x8 - 1))).f1.f0) - ((rd_T66 x3 x8).f0.f0))) = x365005 then (if (wrap64 (((rd_T66 x3 x8).f0.f0) - ((rd_T66 x3 (wrap64 (x8 - 1))).f0.f0))) = x365003 then (gangsawlaw42_StairLies.l0 k x3 (wrap64 (x8 + 1)) x365000 x365001 x365002 x365003 x365004 x365005) else (some false)) else (some false)) else (some false)) else (none)) else (none)) else (none)) else (none)) else (gangsawlaw42_StairLies.l0 k x3 (wrap64 (x8 + 1)) x365000 x365001 x365002 x365003 x365004 x365005))
end
def gangsawlaw42_StairLies.f (k : Nat) (a0_0 : Int) (a0_1 : Int) (a0_2 : Int) (a0_3 : Int) (a0_4 : Int) (a0_5 : Int) : Option (Bool) := (gangsawlaw42_awake.f k).bind fun t365 => (if t365 = true then ((stair_Stones.f k a0_0 a0_1 a0_2 a0_3 a0_4 a0_5).bind fun bt366 => (if bt366.2 = 0 then ((stair_Height.f a0_0 a0_1 a0_2 a0_3 a0_4 a0_5).bind fun bt370 => (if bt370.2.2 = 0 then (if (bt366.1.length : Int) = a0_0 then (if (bt366.1.length : Int) = 0 then (gangsawlaw42_StairLies.j0 k bt366.1 true a0_0 a0_1 a0_2 a0_3 a0_4 a0_5) else (if 0 ≤ (wrap64 ((bt366.1.length : Int) - 1)) then (if (wrap64 ((bt366.1.length : Int) - 1)) < (bt366.1.length : Int) then (if ((rd_T66 bt366.1 (wrap64 ((bt366.1.length : Int) - 1))).f1.f2) = bt370.1 then (if 0 < (bt366.1.length : Int) then (gangsawlaw42_StairLies.j0 k bt366.1 (!(((rd_T66 bt366.1 0).f0.f0) == 0) || (!(((rd_T66 bt366.1 0).f0.f1) == 0) || (!(((rd_T66 bt366.1 0).f0.f2) == 0)))) a0_0 a0_1 a0_2 a0_3 a0_4 a0_5) else (none)) else (gangsawlaw42_StairLies.j0 k bt366.1 true a0_0 a0_1 a0_2 a0_3 a0_4 a0_5)) else (none)) else (none))) else (gangsawlaw42_StairLies.j0 k bt366.1 true a0_0 a0_1 a0_2 a0_3 a0_4 a0_5)) else (gangsawlaw42_StairLies.j0 k bt366.1 true a0_0 a0_1 a0_2 a0_3 a0_4 a0_5))) else (some ((bt366.1.length : Int) == 0)))) else (some false))
theorem gangsawlaw42_StairLies.mono_l : ∀ k, (∀ y0 y1 y2 y3 y4 y5 y6 y7, LeO (gangsawlaw42_StairLies.j0 k y0 y1 y2 y3 y4 y5 y6 y7) (gangsawlaw42_StairLies.j0 (k + 1) y0 y1 y2 y3 y4 y5 y6 y7)) ∧ (∀ y0 y1 y2 y3 y4 y5 y6 y7, LeO (gangsawlaw42_StairLies.l0 k y0 y1 y2 y3 y4 y5 y6 y7) (gangsawlaw42_StairLies.l0 (k + 1) y0 y1 y2 y3 y4 y5 y6 y7)) ∧ (∀ y0 y1 y2 y3 y4 y5 y6 y7 y8, LeO (gangsawlaw42_StairLies.j2 k y0 y1 y2 y3 y4 y5 y6 y7 y8) (gangsawlaw42_StairLies.j2 (k + 1) y0 y1 y2 y3 y4 y5 y6 y7 y8))
  | 0 => ⟨fun _ _ _ _ _ _ _ _ r h => by simp [gangsawlaw42_StairLies.j0] at h, fun _ _ _ _ _ _ _ _ r h => by simp [gangsawlaw42_StairLies.l0] at h, fun _ _ _ _ _ _ _ _ _ r h => by simp [gangsawlaw42_StairLies.j2] at h⟩
  | k + 1 => by
    obtain ⟨ih0, ih1, ih2⟩ := gangsawlaw42_StairLies.mono_l k
    refine ⟨?_, ?_, ?_⟩
    · intro y0 y1 y2 y3 y4 y5 y6 y7
      unfold gangsawlaw42_StairLies.j0
      repeat' first
      | (with_reducible exact ih0 _ _ _ _ _ _ _ _)
      | (with_reducible exact ih1 _ _ _ _ _ _ _ _)
      | (with_reducible exact ih2 _ _ _ _ _ _ _ _ _)
      | (with_reducible exact gangsawlaw42_awake.mono _)
      | (with_reducible exact stair_Stones.mono _ _ _ _ _ _ _)
      | (with_reducible exact LeO.refl _)
      | (with_reducible exact LeO.none _)
      | (with_reducible refine LeO.ite ?_ ?_)
      | (with_reducible refine LeO.bind ?_ (fun _ => ?_))
      | exact ih0 _ _ _ _ _ _ _ _
      | exact ih1 _ _ _ _ _ _ _ _
      | exact ih2 _ _ _ _ _ _ _ _ _
      | exact gangsawlaw42_awake.mono _
      | exact stair_Stones.mono _ _ _ _ _ _ _
      | exact LeO.none _
      | refine LeO.ite ?_ ?_
      | refine LeO.bind ?_ (fun _ => ?_)
    · intro y0 y1 y2 y3 y4 y5 y6 y7
      unfold gangsawlaw42_StairLies.l0
      repeat' first
      | (with_reducible exact ih0 _ _ _ _ _ _ _ _)
      | (with_reducible exact ih1 _ _ _ _ _ _ _ _)
      | (with_reducible exact ih2 _ _ _ _ _ _ _ _ _)
      | (with_reducible exact gangsawlaw42_awake.mono _)
      | (with_reducible exact stair_Stones.mono _ _ _ _ _ _ _)
      | (with_reducible exact LeO.refl _)
      | (with_reducible exact LeO.none _)
      | (with_reducible refine LeO.ite ?_ ?_)
      | (with_reducible refine LeO.bind ?_ (fun _ => ?_))
      | exact ih0 _ _ _ _ _ _ _ _
      | exact ih1 _ _ _ _ _ _ _ _
      | exact ih2 _ _ _ _ _ _ _ _ _
      | exact gangsawlaw42_awake.mono _
      | exact stair_Stones.mono _ _ _ _ _ _ _
      | exact LeO.none _
      | refine LeO.ite ?_ ?_
      | refine LeO.bind ?_ (fun _ => ?_)
    · intro y0 y1 y2 y3 y4 y5 y6 y7 y8
      unfold gangsawlaw42_StairLies.j2
      repeat' first
      | (with_reducible exact ih0 _ _ _ _ _ _ _ _)
      | (with_reducible exact ih1 _ _ _ _ _ _ _ _)
      | (with_reducible exact ih2 _ _ _ _ _ _ _ _ _)
      | (with_reducible exact gangsawlaw42_awake.mono _)
      | (with_reducible exact stair_Stones.mono _ _ _ _ _ _ _)
      | (with_reducible exact LeO.refl _)
      | (with_reducible exact LeO.none _)
      | (with_reducible refine LeO.ite ?_ ?_)
      | (with_reducible refine LeO.bind ?_ (fun _ => ?_))
      | exact ih0 _ _ _ _ _ _ _ _
      | exact ih1 _ _ _ _ _ _ _ _
      | exact ih2 _ _ _ _ _ _ _ _ _
      | exact gangsawlaw42_awake.mono _
      | exact stair_Stones.mono _ _ _ _ _ _ _
      | exact LeO.none _
      | refine LeO.ite ?_ ?_
      | refine LeO.bind ?_ (fun _ => ?_)
theorem gangsawlaw42_StairLies.mono : ∀ a0 a1 a2 a3 a4 a5 k, LeO (gangsawlaw42_StairLies.f k a0 a1 a2 a3 a4 a5) (gangsawlaw42_StairLies.f (k + 1) a0 a1 a2 a3 a4 a5) := by
  intro a0 a1 a2 a3 a4 a5 k
  obtain ⟨ih0, ih1, ih2⟩ := gangsawlaw42_StairLies.mono_l k
  unfold gangsawlaw42_StairLies.f
  repeat' first
      | (with_reducible exact ih0 _ _ _ _ _ _ _ _)
      | (with_reducible exact ih1 _ _ _ _ _ _ _ _)
      | (with_reducible exact ih2 _ _ _ _ _ _ _ _ _)
      | (with_reducible exact gangsawlaw42_awake.mono _)
      | (with_reducible exact stair_Stones.mono _ _ _ _ _ _ _)
      | (with_reducible exact LeO.refl _)
      | (with_reducible exact LeO.none _)
      | (with_reducible refine LeO.ite ?_ ?_)
      | (with_reducible refine LeO.bind ?_ (fun _ => ?_))
      | exact ih0 _ _ _ _ _ _ _ _
      | exact ih1 _ _ _ _ _ _ _ _
      | exact ih2 _ _ _ _ _ _ _ _ _
      | exact gangsawlaw42_awake.mono _
      | exact stair_Stones.mono _ _ _ _ _ _ _
      | exact LeO.none _
      | refine LeO.ite ?_ ?_
      | refine LeO.bind ?_ (fun _ => ?_)
set_option maxHeartbeats 8000000 in
set_option maxRecDepth 100000 in
theorem gangsawlaw42_StairLies.calls (k : Nat) (a0_0 : Int) (a0_1 : Int) (a0_2 : Int) (a0_3 : Int) (a0_4 : Int) (a0_5 : Int) (r : Bool) (w : World) (h : gangsawlaw42_StairLies.f k a0_0 a0_1 a0_2 a0_3 a0_4 a0_5 = some r) :
    Calls Try.prog 8 #[.agg #[.int .i64 a0_0, .int .i64 a0_1, .int .i64 a0_2, .int .i64 a0_3, .int .i64 a0_4, .int .i64 a0_5]] w fun e w' => e = .returned (.bool r) ∧ Below w.heap.size w w' := by
  have hu27 := Try.underlying27
  have hu60 := Try.underlying60
  have HB := Aside0.mk (Below.refl w.heap.size w)
  have H : ((gangsawlaw42_awake.f k).bind fun t365 => (if t365 = true then ((stair_Stones.f k a0_0 a0_1 a0_2 a0_3 a0_4 a0_5).bind fun bt366 => (if bt366.2 = 0 then ((stair_Height.f a0_0 a0_1 a0_2 a0_3 a0_4 a0_5).bind fun bt370 => (if bt370.2.2 = 0 then (if (bt366.1.length : Int) = a0_0 then (if (bt366.1.length : Int) = 0 then (gangsawlaw42_StairLies.j0 k bt366.1 true a0_0 a0_1 a0_2 a0_3 a0_4 a0_5) else (if 0 ≤ (wrap64 ((bt366.1.length : Int) - 1)) then (if (wrap64 ((bt366.1.length : Int) - 1)) < (bt366.1.length : Int) then (if ((rd_T66 bt366.1 (wrap64 ((bt366.1.length : Int) - 1))).f1.f2) = bt370.1 then (if 0 < (bt366.1.length : Int) then (gangsawlaw42_StairLies.j0 k bt366.1 (!(((rd_T66 bt366.1 0).f0.f0) == 0) || (!(((rd_T66 bt366.1 0).f0.f1) == 0) || (!(((rd_T66 bt366.1 0).f0.f2) == 0)))) a0_0 a0_1 a0_2 a0_3 a0_4 a0_5) else (none)) else (gangsawlaw42_StairLies.j0 k bt366.1 true a0_0 a0_1 a0_2 a0_3 a0_4 a0_5)) else (none)) else (none))) else (gangsawlaw42_StairLies.j0 k bt366.1 true a0_0 a0_1 a0_2 a0_3 a0_4 a0_5)) else (gangsawlaw42_StairLies.j0 k bt366.1 true a0_0 a0_1 a0_2 a0_3 a0_4 a0_5))) else (some ((bt366.1.length : Int) == 0)))) else (some false))) = some r := h
  clear h
  replace H := Option.bind_eq_some_iff.mp H
  obtain ⟨t365, A20, H⟩ := H
  replace H : (if t365 = true then ((stair_Stones.f k a0_0 a0_1 a0_2 a0_3 a0_4 a0_5).bind fun bt366 => (if bt366.2 = 0 then ((stair_Height.f a0_0 a0_1 a0_2 a0_3 a0_4 a0_5).bind fun bt370 => (if bt370.2.2 = 0 then (if (bt366.1.length : Int) = a0_0 then (if (bt366.1.length : Int) = 0 then (gangsawlaw42_StairLies.j0 k bt366.1 true a0_0 a0_1 a0_2 a0_3 a0_4 a0_5) else (if 0 ≤ (wrap64 ((bt366.1.length : Int) - 1)) then (if (wrap64 ((bt366.1.length : Int) - 1)) < (bt366.1.length : Int) then (if ((rd_T66 bt366.1 (wrap64 ((bt366.1.length : Int) - 1))).f1.f2) = bt370.1 then (if 0 < (bt366.1.length : Int) then (gangsawlaw42_StairLies.j0 k bt366.1 (!(((rd_T66 bt366.1 0).f0.f0) == 0) || (!(((rd_T66 bt366.1 0).f0.f1) == 0) || (!(((rd_T66 bt366.1 0).f0.f2) == 0)))) a0_0 a0_1 a0_2 a0_3 a0_4 a0_5) else (none)) else (gangsawlaw42_StairLies.j0 k bt366.1 true a0_0 a0_1 a0_2 a0_3 a0_4 a0_5)) else (none)) else (none))) else (gangsawlaw42_StairLies.j0 k bt366.1 true a0_0 a0_1 a0_2 a0_3 a0_4 a0_5)) else (gangsawlaw42_StairLies.j0 k bt366.1 true a0_0 a0_1 a0_2 a0_3 a0_4 a0_5))) else (some ((bt366.1.length : Int) == 0)))) else (some false)) = some r := H
  have A2 := Aside0.mk A20
  clear A20
  by_cases c3 : t365 = true
  · subst c3
    have H1 : ((stair_Stones.f k a0_0 a0_1 a0_2 a0_3 a0_4 a0_5).bind fun bt366 => (if bt366.2 = 0 then ((stair_Height.f a0_0 a0_1 a0_2 a0_3 a0_4 a0_5).bind fun bt370 => (if bt370.2.2 = 0 then (if (bt366.1.length : Int) = a0_0 then (if (bt366.1.length : Int) = 0 then (gangsawlaw42_StairLies.j0 k bt366.1 true a0_0 a0_1 a0_2 a0_3 a0_4 a0_5) else (if 0 ≤ (wrap64 ((bt366.1.length : Int) - 1)) then (if (wrap64 ((bt366.1.length : Int) - 1)) < (bt366.1.length : Int) then (if ((rd_T66 bt366.1 (wrap64 ((bt366.1.length : Int) - 1))).f1.f2) = bt370.1 then (if 0 < (bt366.1.length : Int) then (gangsawlaw42_StairLies.j0 k bt366.1 (!(((rd_T66 bt366.1 0).f0.f0) == 0) || (!(((rd_T66 bt366.1 0).f0.f1) == 0) || (!(((rd_T66 bt366.1 0).f0.f2) == 0)))) a0_0 a0_1 a0_2 a0_3 a0_4 a0_5) else (none)) else (gangsawlaw42_StairLies.j0 k bt366.1 true a0_0 a0_1 a0_2 a0_3 a0_4 a0_5)) else (none)) else (none))) else (gangsawlaw42_StairLies.j0 k bt366.1 true a0_0 a0_1 a0_2 a0_3 a0_4 a0_5)) else (gangsawlaw42_StairLies.j0 k bt366.1 true a0_0 a0_1 a0_2 a0_3 a0_4 a0_5))) else (some ((bt366.1.length : Int) == 0)))) = some r := by rw [if_pos rfl] at H; exact H
    clear H
    have H := H1
    clear H1
    replace H := Option.bind_eq_some_iff.mp H
    obtain ⟨⟨t366, t369⟩, A40, H⟩ := H
    replace H : (if t369 = 0 then ((stair_Height.f a0_0 a0_1 a0_2 a0_3 a0_4 a0_5).bind fun bt370 => (if bt370.2.2 = 0 then (if (t366.length : Int) = a0_0 then (if (t366.length : Int) = 0 then (gangsawlaw42_StairLies.j0 k t366 true a0_0 a0_1 a0_2 a0_3 a0_4 a0_5) else (if 0 ≤ (wrap64 ((t366.length : Int) - 1)) then (if (wrap64 ((t366.length : Int) - 1)) < (t366.length : Int) then (if ((rd_T66 t366 (wrap64 ((t366.length : Int) - 1))).f1.f2) = bt370.1 then (if 0 < (t366.length : Int) then (gangsawlaw42_StairLies.j0 k t366 (!(((rd_T66 t366 0).f0.f0) == 0) || (!(((rd_T66 t366 0).f0.f1) == 0) || (!(((rd_T66 t366 0).f0.f2) == 0)))) a0_0 a0_1 a0_2 a0_3 a0_4 a0_5) else (none)) else (gangsawlaw42_StairLies.j0 k t366 true a0_0 a0_1 a0_2 a0_3 a0_4 a0_5)) else (none)) else (none))) else (gangsawlaw42_StairLies.j0 k t366 true a0_0 a0_1 a0_2 a0_3 a0_4 a0_5)) else (gangsawlaw42_StairLies.j0 k t366 true a0_0 a0_1 a0_2 a0_3 a0_4 a0_5))) else (some ((t366.length : Int) == 0))) = some r := H
    have A4 := Aside0.mk A40
    clear A40
    by_cases c5 : t369 = 0
    · rw [if_pos c5] at H
      have c5b0 : (t369 == 0) = true := beq_iff_eq.mpr c5
      have c5b1 : (t369 != 0) = false := bne_eq_false_iff_eq.mpr c5
      clear c5
      replace H := Option.bind_eq_some_iff.mp H
      obtain ⟨⟨t370, t371, t372⟩, A60, H⟩ := H
      replace H : (if t372 = 0 then (if (t366.length : Int) = a0_0 then (if (t366.length : Int) = 0 then (gangsawlaw42_StairLies.j0 k t366 true a0_0 a0_1 a0_2 a0_3 a0_4 a0_5) else (if 0 ≤ (wrap64 ((t366.length : Int) - 1)) then (if (wrap64 ((t366.length : Int) - 1)) < (t366.length : Int) then (if ((rd_T66 t366 (wrap64 ((t366.length : Int) - 1))).f1.f2) = t370 then (if 0 < (t366.length : Int) then (gangsawlaw42_StairLies.j0 k t366 (!(((rd_T66 t366 0).f0.f0) == 0) || (!(((rd_T66 t366 0).f0.f1) == 0) || (!(((rd_T66 t366 0).f0.f2) == 0)))) a0_0 a0_1 a0_2 a0_3 a0_4 a0_5) else (none)) else (gangsawlaw42_StairLies.j0 k t366 true a0_0 a0_1 a0_2 a0_3 a0_4 a0_5)) else (none)) else (none))) else (gangsawlaw42_StairLies.j0 k t366 true a0_0 a0_1 a0_2 a0_3 a0_4 a0_5)) else (gangsawlaw42_StairLies.j0 k t366 true a0_0 a0_1 a0_2 a0_3 a0_4 a0_5)) = some r := H
      have A6 := Aside0.mk A60
      clear A60
      have HC7 := Aside0.mk H
      clear H
      go_enter Try.func8, Try.ntmps8
      go_upto_region 7 with (first | ((with_reducible refine gate_dst (N := 1) rfl ?_); refine box_event ?hg (N := 1) ?hd (cs := #[.int .i64 a0_0, .int .i64 a0_1, .int .i64 a0_2, .int .i64 a0_3, .int .i64 a0_4, .int .i64 a0_5]) (t := 27) ?hr ?_; (case hd => rfl); (case hg => rfl); (case hr => first | (go_simp; done) | (go_simp; rfl)); intro gb364 hg w8 hbox hb; have n0_ := Aside0.mk (below_step (by repeat (first | (with_reducible first | exact HB.out | apply below_alloc | apply pw_below_drewN | apply below_drew1) | exact HB.out)) hb); have n1_ := Aside0.mk (hbox); have n2_ := Aside0.mk ((by rw [hg]; exact (below_size (by repeat (first | (with_reducible first | exact HB.out | apply below_alloc | apply pw_below_drewN | apply below_drew1) | exact HB.out))) : w.heap.size ≤ gb364)); have n3_ := Aside0.mk ((by rw [hg]; exact (below_size (by repeat (first | (with_reducible first | exact HB.out | apply below_alloc | apply pw_below_drewN | apply below_drew1) | exact HB.out))) : w.heap.size ≤ gb364)); clear HB; have HB := n0_; have BK364 := n1_; have GW364 := n2_; have GE364 := n3_; clear n0_ n1_ n2_ n3_; clear hb hbox hg) | (go_at_call 11; (with_reducible refine (gangsawlaw42_awake.calls k  true _ A2.out).mono ?_); rintro e w9 ⟨rfl, hb⟩; have n0_ := Aside0.mk (blk_below (g := gb364) (o := .cells #[.int .i64 a0_0, .int .i64 a0_1, .int .i64 a0_2, .int .i64 a0_3, .int .i64 a0_4, .int .i64 a0_5] 27 (0, 0)) (by (with_reducible repeat (first | refine blk_drewN ?_ _ | refine blk_drew ?_ | refine blk_alloc ?_ _)); exact BK364.out) hb); have n1_ := Aside0.mk (below_step (by repeat (first | (with_reducible first | exact HB.out | apply below_alloc | apply pw_below_drewN | apply below_drew1 | refine below_set ?_ GE364.out) | exact HB.out)) hb); clear BK364; clear HB; have BK364 := n0_; have HB := n1_; clear n0_ n1_; (try clear hb); (try clear hb2); (try clear hk); (try clear hi); have hcz10_0 : w9.cell? ⟨gb364, 0, none⟩ = some (.int .i64 a0_0) := (blk_cell BK364.out 0).trans rfl; have hcz10_1 : w9.cell? ⟨gb364, 1, none⟩ = some (.int .i64 a0_1) := (blk_cell BK364.out 1).trans rfl; have hcz10_2 : w9.cell? ⟨gb364, 2, none⟩ = some (.int .i64 a0_2) := (blk_cell BK364.out 2).trans rfl; have hcz10_3 : w9.cell? ⟨gb364, 3, none⟩ = some (.int .i64 a0_3) := (blk_cell BK364.out 3).trans rfl; have hcz10_4 : w9.cell? ⟨gb364, 4, none⟩ = some (.int .i64 a0_4) := (blk_cell BK364.out 4).trans rfl; have hcz10_5 : w9.cell? ⟨gb364, 5, none⟩ = some (.int .i64 a0_5) := (blk_cell BK364.out 5).trans rfl; have hfz10_0 := blk_frozen BK364.out 0; have hfz10_1 := blk_frozen BK364.out 1; have hfz10_2 := blk_frozen BK364.out 2; have hfz10_3 := blk_frozen BK364.out 3; have hfz10_4 := blk_frozen BK364.out 4; have hfz10_5 := blk_frozen BK364.out 5) | (go_at_call 22; (with_reducible refine (stair_Stones.calls k a0_0 a0_1 a0_2 a0_3 a0_4 a0_5 t366 t369 _ A4.out).mono ?_); rintro e w11 ⟨v367, rfl, ho0, hb⟩; have n0_ := Aside0.mk (Kd.R_lower ho0 (below_size (by repeat (first | (with_reducible first | exact HB.out | apply below_alloc | apply pw_below_drewN | apply below_drew1 | refine below_set ?_ GE364.out) | exact HB.out)))); have n1_ := Aside0.mk (blk_below (g := gb364) (o := .cells #[.int .i64 a0_0, .int .i64 a0_1, .int .i64 a0_2, .int .i64 a0_3, .int .i64 a0_4, .int .i64 a0_5] 27 (0, 0)) (by (with_reducible repeat (first | refine blk_drewN ?_ _ | refine blk_drew ?_ | refine blk_alloc ?_ _)); exact BK364.out) hb); have n2_ := Aside0.mk (below_step (by repeat (first | (with_reducible first | exact HB.out | apply below_alloc | apply pw_below_drewN | apply below_drew1 | refine below_set ?_ GE364.out) | exact HB.out)) hb); clear BK364; clear HB; have HO368 := n0_; have BK364 := n1_; have HB := n2_; clear n0_ n1_ n2_; (try clear hb); (try clear hb2); (try clear hk); (try clear hi); (try clear ho0); have hcz12_0 : w11.cell? ⟨gb364, 0, none⟩ = some (.int .i64 a0_0) := (blk_cell BK364.out 0).trans rfl; have hcz12_1 : w11.cell? ⟨gb364, 1, none⟩ = some (.int .i64 a0_1) := (blk_cell BK364.out 1).trans rfl; have hcz12_2 : w11.cell? ⟨gb364, 2, none⟩ = some (.int .i64 a0_2) := (blk_cell BK364.out 2).trans rfl; have hcz12_3 : w11.cell? ⟨gb364, 3, none⟩ = some (.int .i64 a0_3) := (blk_cell BK364.out 3).trans rfl; have hcz12_4 : w11.cell? ⟨gb364, 4, none⟩ = some (.int .i64 a0_4) := (blk_cell BK364.out 4).trans rfl; have hcz12_5 : w11.cell? ⟨gb364, 5, none⟩ = some (.int .i64 a0_5) := (blk_cell BK364.out 5).trans rfl; have hfz12_0 := blk_frozen BK364.out 0; have hfz12_1 := blk_frozen BK364.out 1; have hfz12_2 := blk_frozen BK364.out 2; have hfz12_3 := blk_frozen BK364.out 3; have hfz12_4 := blk_frozen BK364.out 4; have hfz12_5 := blk_frozen BK364.out 5) | (go_at_call 16; (with_reducible refine (stair_Height.calls a0_0 a0_1 a0_2 a0_3 a0_4 a0_5 t370 t371 t372 _ A6.out).mono ?_); rintro e w13 ⟨rfl, hb⟩; have n0_ := Aside0.mk (Kd.R_below (by (with_reducible repeat (first | apply Kd.R_alloc | apply Kd.R_drewN | apply Kd.R_drew)); exact HO368.out) hb); have n1_ := Aside0.mk (blk_below (g := gb364) (o := .cells #[.int .i64 a0_0, .int .i64 a0_1, .int .i64 a0_2, .int .i64 a0_3, .int .i64 a0_4, .int .i64 a0_5] 27 (0, 0)) (by (with_reducible repeat (first | refine blk_drewN ?_ _ | refine blk_drew ?_ | refine blk_alloc ?_ _)); exact BK364.out) hb); have n2_ := Aside0.mk (below_step (by repeat (first | (with_reducible first | exact HB.out | apply below_alloc | apply pw_below_drewN | apply below_drew1 | refine below_set ?_ GE364.out) | exact HB.out)) hb); clear HO368; clear BK364; clear HB; have HO368 := n0_; have BK364 := n1_; have HB := n2_; clear n0_ n1_ n2_; (try clear hb); (try clear hb2); (try clear hk); (try clear hi)))
      repeat (go_quiet (first | ((with_reducible refine gate_dst (N := 1) rfl ?_); refine box_event ?hg (N := 1) ?hd (cs := #[.int .i64 a0_0, .int .i64 a0_1, .int .i64 a0_2, .int .i64 a0_3, .int .i64 a0_4, .int .i64 a0_5]) (t := 27) ?hr ?_; (case hd => rfl); (case hg => rfl); (case hr => first | (go_simp; done) | (go_simp; rfl)); intro gb364 hg w8 hbox hb; have n0_ := Aside0.mk (below_step (by repeat (first | (with_reducible first | exact HB.out | apply below_alloc | apply pw_below_drewN | apply below_drew1) | exact HB.out)) hb); have n1_ := Aside0.mk (hbox); have n2_ := Aside0.mk ((by rw [hg]; exact (below_size (by repeat (first | (with_reducible first | exact HB.out | apply below_alloc | apply pw_below_drewN | apply below_drew1) | exact HB.out))) : w.heap.size ≤ gb364)); have n3_ := Aside0.mk ((by rw [hg]; exact (below_size (by repeat (first | (with_reducible first | exact HB.out | apply below_alloc | apply pw_below_drewN | apply below_drew1) | exact HB.out))) : w.heap.size ≤ gb364)); clear HB; have HB := n0_; have BK364 := n1_; have GW364 := n2_; have GE364 := n3_; clear n0_ n1_ n2_ n3_; clear hb hbox hg) | (go_at_call 11; (with_reducible refine (gangsawlaw42_awake.calls k  true _ A2.out).mono ?_); rintro e w9 ⟨rfl, hb⟩; have n0_ := Aside0.mk (blk_below (g := gb364) (o := .cells #[.int .i64 a0_0, .int .i64 a0_1, .int .i64 a0_2, .int .i64 a0_3, .int .i64 a0_4, .int .i64 a0_5] 27 (0, 0)) (by (with_reducible repeat (first | refine blk_drewN ?_ _ | refine blk_drew ?_ | refine blk_alloc ?_ _)); exact BK364.out) hb); have n1_ := Aside0.mk (below_step (by repeat (first | (with_reducible first | exact HB.out | apply below_alloc | apply pw_below_drewN | apply below_drew1 | refine below_set ?_ GE364.out) | exact HB.out)) hb); clear BK364; clear HB; have BK364 := n0_; have HB := n1_; clear n0_ n1_; (try clear hb); (try clear hb2); (try clear hk); (try clear hi); have hcz10_0 : w9.cell? ⟨gb364, 0, none⟩ = some (.int .i64 a0_0) := (blk_cell BK364.out 0).trans rfl; have hcz10_1 : w9.cell? ⟨gb364, 1, none⟩ = some (.int .i64 a0_1) := (blk_cell BK364.out 1).trans rfl; have hcz10_2 : w9.cell? ⟨gb364, 2, none⟩ = some (.int .i64 a0_2) := (blk_cell BK364.out 2).trans rfl; have hcz10_3 : w9.cell? ⟨gb364, 3, none⟩ = some (.int .i64 a0_3) := (blk_cell BK364.out 3).trans rfl; have hcz10_4 : w9.cell? ⟨gb364, 4, none⟩ = some (.int .i64 a0_4) := (blk_cell BK364.out 4).trans rfl; have hcz10_5 : w9.cell? ⟨gb364, 5, none⟩ = some (.int .i64 a0_5) := (blk_cell BK364.out 5).trans rfl; have hfz10_0 := blk_frozen BK364.out 0; have hfz10_1 := blk_frozen BK364.out 1; have hfz10_2 := blk_frozen BK364.out 2; have hfz10_3 := blk_frozen BK364.out 3; have hfz10_4 := blk_frozen BK364.out 4; have hfz10_5 := blk_frozen BK364.out 5) | (go_at_call 22; (with_reducible refine (stair_Stones.calls k a0_0 a0_1 a0_2 a0_3 a0_4 a0_5 t366 t369 _ A4.out).mono ?_); rintro e w11 ⟨v367, rfl, ho0, hb⟩; have n0_ := Aside0.mk (Kd.R_lower ho0 (below_size (by repeat (first | (with_reducible first | exact HB.out | apply below_alloc | apply pw_below_drewN | apply below_drew1 | refine below_set ?_ GE364.out) | exact HB.out)))); have n1_ := Aside0.mk (blk_below (g := gb364) (o := .cells #[.int .i64 a0_0, .int .i64 a0_1, .int .i64 a0_2, .int .i64 a0_3, .int .i64 a0_4, .int .i64 a0_5] 27 (0, 0)) (by (with_reducible repeat (first | refine blk_drewN ?_ _ | refine blk_drew ?_ | refine blk_alloc ?_ _)); exact BK364.out) hb); have n2_ := Aside0.mk (below_step (by repeat (first | (with_reducible first | exact HB.out | apply below_alloc | apply pw_below_drewN | apply below_drew1 | refine below_set ?_ GE364.out) | exact HB.out)) hb); clear BK364; clear HB; have HO368 := n0_; have BK364 := n1_; have HB := n2_; clear n0_ n1_ n2_; (try clear hb); (try clear hb2); (try clear hk); (try clear hi); (try clear ho0); have hcz12_0 : w11.cell? ⟨gb364, 0, none⟩ = some (.int .i64 a0_0) := (blk_cell BK364.out 0).trans rfl; have hcz12_1 : w11.cell? ⟨gb364, 1, none⟩ = some (.int .i64 a0_1) := (blk_cell BK364.out 1).trans rfl; have hcz12_2 : w11.cell? ⟨gb364, 2, none⟩ = some (.int .i64 a0_2) := (blk_cell BK364.out 2).trans rfl; have hcz12_3 : w11.cell? ⟨gb364, 3, none⟩ = some (.int .i64 a0_3) := (blk_cell BK364.out 3).trans rfl; have hcz12_4 : w11.cell? ⟨gb364, 4, none⟩ = some (.int .i64 a0_4) := (blk_cell BK364.out 4).trans rfl; have hcz12_5 : w11.cell? ⟨gb364, 5, none⟩ = some (.int .i64 a0_5) := (blk_cell BK364.out 5).trans rfl; have hfz12_0 := blk_frozen BK364.out 0; have hfz12_1 := blk_frozen BK364.out 1; have hfz12_2 := blk_frozen BK364.out 2; have hfz12_3 := blk_frozen BK364.out 3; have hfz12_4 := blk_frozen BK364.out 4; have hfz12_5 := blk_frozen BK364.out 5) | (go_at_call 16; (with_reducible refine (stair_Height.calls a0_0 a0_1 a0_2 a0_3 a0_4 a0_5 t370 t371 t372 _ A6.out).mono ?_); rintro e w13 ⟨rfl, hb⟩; have n0_ := Aside0.mk (Kd.R_below (by (with_reducible repeat (first | apply Kd.R_alloc | apply Kd.R_drewN | apply Kd.R_drew)); exact HO368.out) hb); have n1_ := Aside0.mk (blk_below (g := gb364) (o := .cells #[.int .i64 a0_0, .int .i64 a0_1, .int .i64 a0_2, .int .i64 a0_3, .int .i64 a0_4, .int .i64 a0_5] 27 (0, 0)) (by (with_reducible repeat (first | refine blk_drewN ?_ _ | refine blk_drew ?_ | refine blk_alloc ?_ _)); exact BK364.out) hb); have n2_ := Aside0.mk (below_step (by repeat (first | (with_reducible first | exact HB.out | apply below_alloc | apply pw_below_drewN | apply below_drew1 | refine below_set ?_ GE364.out) | exact HB.out)) hb); clear HO368; clear BK364; clear HB; have HO368 := n0_; have BK364 := n1_; have HB := n2_; clear n0_ n1_ n2_; (try clear hb); (try clear hb2); (try clear hk); (try clear hi))); go_upto_region 7 with (first | ((with_reducible refine gate_dst (N := 1) rfl ?_); refine box_event ?hg (N := 1) ?hd (cs := #[.int .i64 a0_0, .int .i64 a0_1, .int .i64 a0_2, .int .i64 a0_3, .int .i64 a0_4, .int .i64 a0_5]) (t := 27) ?hr ?_; (case hd => rfl); (case hg => rfl); (case hr => first | (go_simp; done) | (go_simp; rfl)); intro gb364 hg w8 hbox hb; have n0_ := Aside0.mk (below_step (by repeat (first | (with_reducible first | exact HB.out | apply below_alloc | apply pw_below_drewN | apply below_drew1) | exact HB.out)) hb); have n1_ := Aside0.mk (hbox); have n2_ := Aside0.mk ((by rw [hg]; exact (below_size (by repeat (first | (with_reducible first | exact HB.out | apply below_alloc | apply pw_below_drewN | apply below_drew1) | exact HB.out))) : w.heap.size ≤ gb364)); have n3_ := Aside0.mk ((by rw [hg]; exact (below_size (by repeat (first | (with_reducible first | exact HB.out | apply below_alloc | apply pw_below_drewN | apply below_drew1) | exact HB.out))) : w.heap.size ≤ gb364)); clear HB; have HB := n0_; have BK364 := n1_; have GW364 := n2_; have GE364 := n3_; clear n0_ n1_ n2_ n3_; clear hb hbox hg) | (go_at_call 11; (with_reducible refine (gangsawlaw42_awake.calls k  true _ A2.out).mono ?_); rintro e w9 ⟨rfl, hb⟩; have n0_ := Aside0.mk (blk_below (g := gb364) (o := .cells #[.int .i64 a0_0, .int .i64 a0_1, .int .i64 a0_2, .int .i64 a0_3, .int .i64 a0_4, .int .i64 a0_5] 27 (0, 0)) (by (with_reducible repeat (first | refine blk_drewN ?_ _ | refine blk_drew ?_ | refine blk_alloc ?_ _)); exact BK364.out) hb); have n1_ := Aside0.mk (below_step (by repeat (first | (with_reducible first | exact HB.out | apply below_alloc | apply pw_below_drewN | apply below_drew1 | refine below_set ?_ GE364.out) | exact HB.out)) hb); clear BK364; clear HB; have BK364 := n0_; have HB := n1_; clear n0_ n1_; (try clear hb); (try clear hb2); (try clear hk); (try clear hi); have hcz10_0 : w9.cell? ⟨gb364, 0, none⟩ = some (.int .i64 a0_0) := (blk_cell BK364.out 0).trans rfl; have hcz10_1 : w9.cell? ⟨gb364, 1, none⟩ = some (.int .i64 a0_1) := (blk_cell BK364.out 1).trans rfl; have hcz10_2 : w9.cell? ⟨gb364, 2, none⟩ = some (.int .i64 a0_2) := (blk_cell BK364.out 2).trans rfl; have hcz10_3 : w9.cell? ⟨gb364, 3, none⟩ = some (.int .i64 a0_3) := (blk_cell BK364.out 3).trans rfl; have hcz10_4 : w9.cell? ⟨gb364, 4, none⟩ = some (.int .i64 a0_4) := (blk_cell BK364.out 4).trans rfl; have hcz10_5 : w9.cell? ⟨gb364, 5, none⟩ = some (.int .i64 a0_5) := (blk_cell BK364.out 5).trans rfl; have hfz10_0 := blk_frozen BK364.out 0; have hfz10_1 := blk_frozen BK364.out 1; have hfz10_2 := blk_frozen BK364.out 2; have hfz10_3 := blk_frozen BK364.out 3; have hfz10_4 := blk_frozen BK364.out 4; have hfz10_5 := blk_frozen BK364.out 5) | (go_at_call 22; (with_reducible refine (stair_Stones.calls k a0_0 a0_1 a0_2 a0_3 a0_4 a0_5 t366 t369 _ A4.out).mono ?_); rintro e w11 ⟨v367, rfl, ho0, hb⟩; have n0_ := Aside0.mk (Kd.R_lower ho0 (below_size (by repeat (first | (with_reducible first | exact HB.out | apply below_alloc | apply pw_below_drewN | apply below_drew1 | refine below_set ?_ GE364.out) | exact HB.out)))); have n1_ := Aside0.mk (blk_below (g := gb364) (o := .cells #[.int .i64 a0_0, .int .i64 a0_1, .int .i64 a0_2, .int .i64 a0_3, .int .i64 a0_4, .int .i64 a0_5] 27 (0, 0)) (by (with_reducible repeat (first | refine blk_drewN ?_ _ | refine blk_drew ?_ | refine blk_alloc ?_ _)); exact BK364.out) hb); have n2_ := Aside0.mk (below_step (by repeat (first | (with_reducible first | exact HB.out | apply below_alloc | apply pw_below_drewN | apply below_drew1 | refine below_set ?_ GE364.out) | exact HB.out)) hb); clear BK364; clear HB; have HO368 := n0_; have BK364 := n1_; have HB := n2_; clear n0_ n1_ n2_; (try clear hb); (try clear hb2); (try clear hk); (try clear hi); (try clear ho0); have hcz12_0 : w11.cell? ⟨gb364, 0, none⟩ = some (.int .i64 a0_0) := (blk_cell BK364.out 0).trans rfl; have hcz12_1 : w11.cell? ⟨gb364, 1, none⟩ = some (.int .i64 a0_1) := (blk_cell BK364.out 1).trans rfl; have hcz12_2 : w11.cell? ⟨gb364, 2, none⟩ = some (.int .i64 a0_2) := (blk_cell BK364.out 2).trans rfl; have hcz12_3 : w11.cell? ⟨gb364, 3, none⟩ = some (.int .i64 a0_3) := (blk_cell BK364.out 3).trans rfl; have hcz12_4 : w11.cell? ⟨gb364, 4, none⟩ = some (.int .i64 a0_4) := (blk_cell BK364.out 4).trans rfl; have hcz12_5 : w11.cell? ⟨gb364, 5, none⟩ = some (.int .i64 a0_5) := (blk_cell BK364.out 5).trans rfl; have hfz12_0 := blk_frozen BK364.out 0; have hfz12_1 := blk_frozen BK364.out 1; have hfz12_2 := blk_frozen BK364.out 2; have hfz12_3 := blk_frozen BK364.out 3; have hfz12_4 := blk_frozen BK364.out 4; have hfz12_5 := blk_frozen BK364.out 5) | (go_at_call 16; (with_reducible refine (stair_Height.calls a0_0 a0_1 a0_2 a0_3 a0_4 a0_5 t370 t371 t372 _ A6.out).mono ?_); rintro e w13 ⟨rfl, hb⟩; have n0_ := Aside0.mk (Kd.R_below (by (with_reducible repeat (first | apply Kd.R_alloc | apply Kd.R_drewN | apply Kd.R_drew)); exact HO368.out) hb); have n1_ := Aside0.mk (blk_below (g := gb364) (o := .cells #[.int .i64 a0_0, .int .i64 a0_1, .int .i64 a0_2, .int .i64 a0_3, .int .i64 a0_4, .int .i64 a0_5] 27 (0, 0)) (by (with_reducible repeat (first | refine blk_drewN ?_ _ | refine blk_drew ?_ | refine blk_alloc ?_ _)); exact BK364.out) hb); have n2_ := Aside0.mk (below_step (by repeat (first | (with_reducible first | exact HB.out | apply below_alloc | apply pw_below_drewN | apply below_drew1 | refine below_set ?_ GE364.out) | exact HB.out)) hb); clear HO368; clear BK364; clear HB; have HO368 := n0_; have BK364 := n1_; have HB := n2_; clear n0_ n1_ n2_; (try clear hb); (try clear hb2); (try clear hk); (try clear hi))))
      (try simp only [Act.put, List.setIfInBounds_toArray, List.set_cons_zero, List.set_cons_succ])
      go_cut [60] (fun v60 wc => ∃ (kq : Nat) (x60_6 : Bool), v60 = .bool x60_6 ∧ Aside0 (gangsawlaw42_StairLies.j0 kq t366 x60_6 a0_0 a0_1 a0_2 a0_3 a0_4 a0_5 = some r) ∧ Aside0 (kq ≤ k) ∧ Aside0 (Kd.R k66 66 wc w.heap.size (fun _ => True) v367 t366) ∧ Aside0 (wc.heap[gb364]? = some (.cells #[.int .i64 a0_0, .int .i64 a0_1, .int .i64 a0_2, .int .i64 a0_3, .int .i64 a0_4, .int .i64 a0_5] 27 (0, 0))) ∧ Aside0 (Below w.heap.size w wc))
      case first =>
        have H := HC7.out
        clear HC7
        by_cases c14 : t372 = 0
        · rw [if_pos c14] at H
          have c14b0 : (t372 == 0) = true := beq_iff_eq.mpr c14
          have c14b1 : (t372 != 0) = false := bne_eq_false_iff_eq.mpr c14
          clear c14
          (first | rw [c14b0] | (simp only [i64_w, i32_w]; rw [c14b0]) | skip)
          by_cases c15 : (t366.length : Int) = a0_0
          · rw [if_pos c15] at H
            have c15b0 : ((t366.length : Int) == a0_0) = true := beq_iff_eq.mpr c15
            have c15b1 : ((t366.length : Int) != a0_0) = false := bne_eq_false_iff_eq.mpr c15
            clear c15
            by_cases c16 : (t366.length : Int) = 0
            · rw [if_pos c16] at H
              have c16b0 : ((t366.length : Int) == 0) = true := beq_iff_eq.mpr c16
              have c16b1 : ((t366.length : Int) != 0) = false := bne_eq_false_iff_eq.mpr c16
              clear c16
              have H' := Aside0.mk H
              clear H
              obtain ⟨Ao17, co17, eo17⟩ := Kd.R_slice HO368.out
              subst eo17
              have hcz18_0 : w13.cell? ⟨gb364, 0, none⟩ = some (.int .i64 a0_0) := (blk_cell BK364.out 0).trans rfl
              have hcz18_1 : w13.cell? ⟨gb364, 1, none⟩ = some (.int .i64 a0_1) := (blk_cell BK364.out 1).trans rfl
              have hcz18_2 : w13.cell? ⟨gb364, 2, none⟩ = some (.int .i64 a0_2) := (blk_cell BK364.out 2).trans rfl
              have hcz18_3 : w13.cell? ⟨gb364, 3, none⟩ = some (.int .i64 a0_3) := (blk_cell BK364.out 3).trans rfl
              have hcz18_4 : w13.cell? ⟨gb364, 4, none⟩ = some (.int .i64 a0_4) := (blk_cell BK364.out 4).trans rfl
              have hcz18_5 : w13.cell? ⟨gb364, 5, none⟩ = some (.int .i64 a0_5) := (blk_cell BK364.out 5).trans rfl
              have hfz18_0 := blk_frozen BK364.out 0
              have hfz18_1 := blk_frozen BK364.out 1
              have hfz18_2 := blk_frozen BK364.out 2
              have hfz18_3 := blk_frozen BK364.out 3
              have hfz18_4 := blk_frozen BK364.out 4
              have hfz18_5 := blk_frozen BK364.out 5
              go_wp2
              repeat (go_quiet (fail); try go_wp2)
              go_meet
              case rel => exact ⟨_, (true), (by first | rfl | (simp; done) | (simp [*]; done)), H', ⟨by first | omega | exact Nat.le_refl _⟩, ⟨by (with_reducible repeat (first | apply Kd.R_alloc | apply Kd.R_drewN | apply Kd.R_drew)); exact HO368.out⟩, ⟨by (with_reducible repeat (first | refine blk_drewN ?_ _ | refine blk_drew ?_ | refine blk_alloc ?_ _)); exact BK364.out⟩, ⟨by repeat (first | (with_reducible first | exact HB.out | apply below_alloc | apply pw_below_drewN | apply below_drew1 | refine below_set ?_ GE364.out) | exact HB.out)⟩⟩
            · rw [if_neg c16] at H
              have c16b0 : ((t366.length : Int) == 0) = false := beq_eq_false_iff_ne.mpr c16
              have c16b1 : ((t366.length : Int) != 0) = true := bne_iff_ne.mpr c16
              have c16b2 : ¬ (t366 = []) := fun h_ => c16 (by rw [h_]; rfl)
              obtain ⟨ji19, hji19⟩ : ∃ j_ : Int, (wrap64 ((t366.length : Int) - 1)) = j_ := ⟨_, rfl⟩
              replace H : (if 0 ≤ (ji19) then (if (ji19) < (t366.length : Int) then (if ((rd_T66 t366 (ji19)).f1.f2) = t370 then (if 0 < (t366.length : Int) then (gangsawlaw42_StairLies.j0 k t366 (!(((rd_T66 t366 0).f0.f0) == 0) || (!(((rd_T66 t366 0).f0.f1) == 0) || (!(((rd_T66 t366 0).f0.f2) == 0)))) a0_0 a0_1 a0_2 a0_3 a0_4 a0_5) else (none)) else (gangsawlaw42_StairLies.j0 k t366 true a0_0 a0_1 a0_2 a0_3 a0_4 a0_5)) else (none)) else (none)) = some r := by first | (rw [hji19] at H; exact H) | (simp only [hji19] at H ⊢; exact H)
              have hji19w : (IntKind.i64.wrap ((t366.length : Int) - 1)) = ji19 := (i64_w _).trans hji19
              by_cases c20 : 0 ≤ (ji19)
              · rw [if_pos c20] at H
                have c20b0 : decide (0 ≤ (ji19)) = true := decide_eq_true c20
                clear c20
                by_cases c21 : (ji19) < (t366.length : Int)
                · rw [if_pos c21] at H
                  have c21b0 : decide ((ji19) < (t366.length : Int)) = true := decide_eq_true c21
                  clear c21
                  by_cases c22 : ((rd_T66 t366 (ji19)).f1.f2) = t370
                  · rw [if_pos c22] at H
                    have c22b0 : (((rd_T66 t366 (ji19)).f1.f2) == t370) = true := beq_iff_eq.mpr c22
                    have c22b1 : (((rd_T66 t366 (ji19)).f1.f2) != t370) = false := bne_eq_false_iff_eq.mpr c22
                    clear c22
                    by_cases c23 : 0 < (t366.length : Int)
                    · rw [if_pos c23] at H
                      have c23b0 : decide (0 < (t366.length : Int)) = true := decide_eq_true c23
                      have c23b1 : decide (0 < t366.length) = true := decide_eq_true (by omega)
                      clear c23
                      have H' := Aside0.mk H
                      clear H
                      obtain ⟨Ao24, co24, eo24⟩ := Kd.R_slice HO368.out
                      subst eo24
                      have hcz25_0 : w13.cell? ⟨gb364, 0, none⟩ = some (.int .i64 a0_0) := (blk_cell BK364.out 0).trans rfl
                      have hcz25_1 : w13.cell? ⟨gb364, 1, none⟩ = some (.int .i64 a0_1) := (blk_cell BK364.out 1).trans rfl
                      have hcz25_2 : w13.cell? ⟨gb364, 2, none⟩ = some (.int .i64 a0_2) := (blk_cell BK364.out 2).trans rfl
                      have hcz25_3 : w13.cell? ⟨gb364, 3, none⟩ = some (.int .i64 a0_3) := (blk_cell BK364.out 3).trans rfl
                      have hcz25_4 : w13.cell? ⟨gb364, 4, none⟩ = some (.int .i64 a0_4) := (blk_cell BK364.out 4).trans rfl
                      have hcz25_5 : w13.cell? ⟨gb364, 5, none⟩ = some (.int .i64 a0_5) := (blk_cell BK364.out 5).trans rfl
                      have hfz25_0 := blk_frozen BK364.out 0
                      have hfz25_1 := blk_frozen BK364.out 1
                      have hfz25_2 := blk_frozen BK364.out 2
                      have hfz25_3 := blk_frozen BK364.out 3
                      have hfz25_4 := blk_frozen BK364.out 4
                      have hfz25_5 := blk_frozen BK364.out 5
                      have p373 : 0 ≤ ((ji19) : Int) := of_decide_eq_true (by first | (with_reducible assumption) | assumption)
                      have q373 : (ji19) < (t366.length : Int) := of_decide_eq_true (by first | (with_reducible assumption) | assumption)
                      obtain ⟨ad373, e373, hx373_0, hx373_1, hx373_2, hx373_3, hx373_4, hx373_5⟩ := at_T66 (Kd.R_reads' HO368.out).2.2 (ji19) p373 q373
                      cases e373
                      replace p373 := eq_true p373
                      replace q373 := eq_true q373
                      have p374 : 0 ≤ (0 : Int) := (by omega)
                      have q374 : 0 < (t366.length : Int) := of_decide_eq_true (by first | (with_reducible assumption) | assumption)
                      obtain ⟨ad374, e374, hx374_0, hx374_1, hx374_2, hx374_3, hx374_4, hx374_5⟩ := at_T66 (Kd.R_reads' HO368.out).2.2 0 p374 q374
                      obtain rfl : ad373 = ad374 := (by injection e374)
                      have qi374 : (0 < t366.length) = True := eq_true (by omega)
                      (try rw [show ((0 : Int)).toNat = 0 from rfl] at hx374_0)
                      (try rw [show 0 * 6 = 0 from rfl] at hx374_0)
                      (try rw [Addr.add_zero'] at hx374_0)
                      (try rw [show ((0 : Int)).toNat = 0 from rfl] at hx374_1)
                      (try rw [show 0 * 6 = 0 from rfl] at hx374_1)
                      (try rw [Addr.add_zero'] at hx374_1)
                      (try rw [show ((0 : Int)).toNat = 0 from rfl] at hx374_2)
                      (try rw [show 0 * 6 = 0 from rfl] at hx374_2)
                      (try rw [Addr.add_zero'] at hx374_2)
                      (try rw [show ((0 : Int)).toNat = 0 from rfl] at hx374_3)
                      (try rw [show 0 * 6 = 0 from rfl] at hx374_3)
                      (try rw [Addr.add_zero'] at hx374_3)
                      (try rw [show ((0 : Int)).toNat = 0 from rfl] at hx374_4)
                      (try rw [show 0 * 6 = 0 from rfl] at hx374_4)
                      (try rw [Addr.add_zero'] at hx374_4)
                      (try rw [show ((0 : Int)).toNat = 0 from rfl] at hx374_5)
                      (try rw [show 0 * 6 = 0 from rfl] at hx374_5)
                      (try rw [Addr.add_zero'] at hx374_5)
                      replace p374 := eq_true p374
                      replace q374 := eq_true q374
                      go_wp2
                      repeat (go_quiet (fail); try go_wp2)
                      go_meet
                      case rel => exact ⟨_, ((!(((rd_T66 t366 0).f0.f0) == 0) || (!(((rd_T66 t366 0).f0.f1) == 0) || (!(((rd_T66 t366 0).f0.f2) == 0))))), (by first | rfl | (simp; done) | (simp [*]; done)), H', ⟨by first | omega | exact Nat.le_refl _⟩, ⟨by (with_reducible repeat (first | apply Kd.R_alloc | apply Kd.R_drewN | apply Kd.R_drew)); exact HO368.out⟩, ⟨by (with_reducible repeat (first | refine blk_drewN ?_ _ | refine blk_drew ?_ | refine blk_alloc ?_ _)); exact BK364.out⟩, ⟨by repeat (first | (with_reducible first | exact HB.out | apply below_alloc | apply pw_below_drewN | apply below_drew1 | refine below_set ?_ GE364.out) | exact HB.out)⟩⟩
                    · rw [if_neg c23] at H
                      exact absurd H (by simp)
                  · rw [if_neg c22] at H
                    have c22b0 : (((rd_T66 t366 (ji19)).f1.f2) == t370) = false := beq_eq_false_iff_ne.mpr c22
                    have c22b1 : (((rd_T66 t366 (ji19)).f1.f2) != t370) = true := bne_iff_ne.mpr c22
                    have H' := Aside0.mk H
                    clear H
                    obtain ⟨Ao26, co26, eo26⟩ := Kd.R_slice HO368.out
                    subst eo26
                    have hcz27_0 : w13.cell? ⟨gb364, 0, none⟩ = some (.int .i64 a0_0) := (blk_cell BK364.out 0).trans rfl
                    have hcz27_1 : w13.cell? ⟨gb364, 1, none⟩ = some (.int .i64 a0_1) := (blk_cell BK364.out 1).trans rfl
                    have hcz27_2 : w13.cell? ⟨gb364, 2, none⟩ = some (.int .i64 a0_2) := (blk_cell BK364.out 2).trans rfl
                    have hcz27_3 : w13.cell? ⟨gb364, 3, none⟩ = some (.int .i64 a0_3) := (blk_cell BK364.out 3).trans rfl
                    have hcz27_4 : w13.cell? ⟨gb364, 4, none⟩ = some (.int .i64 a0_4) := (blk_cell BK364.out 4).trans rfl
                    have hcz27_5 : w13.cell? ⟨gb364, 5, none⟩ = some (.int .i64 a0_5) := (blk_cell BK364.out 5).trans rfl
                    have hfz27_0 := blk_frozen BK364.out 0
                    have hfz27_1 := blk_frozen BK364.out 1
                    have hfz27_2 := blk_frozen BK364.out 2
                    have hfz27_3 := blk_frozen BK364.out 3
                    have hfz27_4 := blk_frozen BK364.out 4
                    have hfz27_5 := blk_frozen BK364.out 5
                    have p373 : 0 ≤ ((ji19) : Int) := of_decide_eq_true (by first | (with_reducible assumption) | assumption)
                    have q373 : (ji19) < (t366.length : Int) := of_decide_eq_true (by first | (with_reducible assumption) | assumption)
                    obtain ⟨ad373, e373, hx373_0, hx373_1, hx373_2, hx373_3, hx373_4, hx373_5⟩ := at_T66 (Kd.R_reads' HO368.out).2.2 (ji19) p373 q373
                    cases e373
                    replace p373 := eq_true p373
                    replace q373 := eq_true q373
                    go_wp2
                    repeat (go_quiet (fail); try go_wp2)
                    go_meet
                    case rel => exact ⟨_, (true), (by first | rfl | (simp; done) | (simp [*]; done)), H', ⟨by first | omega | exact Nat.le_refl _⟩, ⟨by (with_reducible repeat (first | apply Kd.R_alloc | apply Kd.R_drewN | apply Kd.R_drew)); exact HO368.out⟩, ⟨by (with_reducible repeat (first | refine blk_drewN ?_ _ | refine blk_drew ?_ | refine blk_alloc ?_ _)); exact BK364.out⟩, ⟨by repeat (first | (with_reducible first | exact HB.out | apply below_alloc | apply pw_below_drewN | apply below_drew1 | refine below_set ?_ GE364.out) | exact HB.out)⟩⟩
                · rw [if_neg c21] at H
                  exact absurd H (by simp)
              · rw [if_neg c20] at H
                exact absurd H (by simp)
          · rw [if_neg c15] at H
            have c15b0 : ((t366.length : Int) == a0_0) = false := beq_eq_false_iff_ne.mpr c15
            have c15b1 : ((t366.length : Int) != a0_0) = true := bne_iff_ne.mpr c15
            have H' := Aside0.mk H
            clear H
            obtain ⟨Ao28, co28, eo28⟩ := Kd.R_slice HO368.out
            subst eo28
            have hcz29_0 : w13.cell? ⟨gb364, 0, none⟩ = some (.int .i64 a0_0) := (blk_cell BK364.out 0).trans rfl
            have hcz29_1 : w13.cell? ⟨gb364, 1, none⟩ = some (.int .i64 a0_1) := (blk_cell BK364.out 1).trans rfl
            have hcz29_2 : w13.cell? ⟨gb364, 2, none⟩ = some (.int .i64 a0_2) := (blk_cell BK364.out 2).trans rfl
            have hcz29_3 : w13.cell? ⟨gb364, 3, none⟩ = some (.int .i64 a0_3) := (blk_cell BK364.out 3).trans rfl
            have hcz29_4 : w13.cell? ⟨gb364, 4, none⟩ = some (.int .i64 a0_4) := (blk_cell BK364.out 4).trans rfl
            have hcz29_5 : w13.cell? ⟨gb364, 5, none⟩ = some (.int .i64 a0_5) := (blk_cell BK364.out 5).trans rfl
            have hfz29_0 := blk_frozen BK364.out 0
            have hfz29_1 := blk_frozen BK364.out 1
            have hfz29_2 := blk_frozen BK364.out 2
            have hfz29_3 := blk_frozen BK364.out 3
            have hfz29_4 := blk_frozen BK364.out 4
            have hfz29_5 := blk_frozen BK364.out 5
            go_wp2
            repeat (go_quiet (fail); try go_wp2)
            go_meet
            case rel => exact ⟨_, (true), (by first | rfl | (simp; done) | (simp [*]; done)), H', ⟨by first | omega | exact Nat.le_refl _⟩, ⟨by (with_reducible repeat (first | apply Kd.R_alloc | apply Kd.R_drewN | apply Kd.R_drew)); exact HO368.out⟩, ⟨by (with_reducible repeat (first | refine blk_drewN ?_ _ | refine blk_drew ?_ | refine blk_alloc ?_ _)); exact BK364.out⟩, ⟨by repeat (first | (with_reducible first | exact HB.out | apply below_alloc | apply pw_below_drewN | apply below_drew1 | refine below_set ?_ GE364.out) | exact HB.out)⟩⟩
        · rw [if_neg c14] at H
          have c14b0 : (t372 == 0) = false := beq_eq_false_iff_ne.mpr c14
          have c14b1 : (t372 != 0) = true := bne_iff_ne.mpr c14
          (first | rw [c14b0] | (simp only [i64_w, i32_w]; rw [c14b0]) | skip)
          have H' := Aside0.mk H
          clear H
          go_wp2
          repeat (go_quiet (fail); try go_wp2)
          go_meet
          case rel => exact ⟨_, (true), (by first | rfl | (simp; done) | (simp [*]; done)), H', ⟨by first | omega | exact Nat.le_refl _⟩, ⟨by (with_reducible repeat (first | apply Kd.R_alloc | apply Kd.R_drewN | apply Kd.R_drew)); exact HO368.out⟩, ⟨by (with_reducible repeat (first | refine blk_drewN ?_ _ | refine blk_drew ?_ | refine blk_alloc ?_ _)); exact BK364.out⟩, ⟨by repeat (first | (with_reducible first | exact HB.out | apply below_alloc | apply pw_below_drewN | apply below_drew1 | refine below_set ?_ GE364.out) | exact HB.out)⟩⟩
      case rest =>
        clear HC7
        try clear c1
        try clear c2
        try clear p2
        try clear c3
        try clear p3
        try clear q3
        try clear hx3
        try clear qi3
        try clear c5
        try clear c5b0
        try clear c5b1
        try clear p6
        try clear c8
        try clear c14
        try clear c14b0
        try clear c14b1
        try clear c15
        try clear c15b0
        try clear c15b1
        try clear c16
        try clear c16b0
        try clear c16b1
        try clear c16b2
        try clear c20
        try clear c20b0
        try clear c21
        try clear c21b0
        try clear c22
        try clear c22b0
        try clear c22b1
        try clear c23
        try clear c23b0
        try clear c23b1
        try clear hcz10_0
        try clear hcz10_1
        try clear hcz10_2
        try clear hcz10_3
        try clear hcz10_4
        try clear hcz10_5
        try clear hcz12_0
        try clear hcz12_1
        try clear hcz12_2
        try clear hcz12_3
        try clear hcz12_4
        try clear hcz12_5
        try clear hcz18_0
        try clear hcz18_1
        try clear hcz18_2
        try clear hcz18_3
        try clear hcz18_4
        try clear hcz18_5
        try clear hcz25_0
        try clear hcz25_1
        try clear hcz25_2
        try clear hcz25_3
        try clear hcz25_4
        try clear hcz25_5
        try clear hcz27_0
        try clear hcz27_1
        try clear hcz27_2
        try clear hcz27_3
        try clear hcz27_4
        try clear hcz27_5
        try clear hcz29_0
        try clear hcz29_1
        try clear hcz29_2
        try clear hcz29_3
        try clear hcz29_4
        try clear hcz29_5
        try clear hfz10_0
        try clear hfz10_1
        try clear hfz10_2
        try clear hfz10_3
        try clear hfz10_4
        try clear hfz10_5
        try clear hfz12_0
        try clear hfz12_1
        try clear hfz12_2
        try clear hfz12_3
        try clear hfz12_4
        try clear hfz12_5
        try clear hfz18_0
        try clear hfz18_1
        try clear hfz18_2
        try clear hfz18_3
        try clear hfz18_4
        try clear hfz18_5
        try clear hfz25_0
        try clear hfz25_1
        try clear hfz25_2
        try clear hfz25_3
        try clear hfz25_4
        try clear hfz25_5
        try clear hfz27_0
        try clear hfz27_1
        try clear hfz27_2
        try clear hfz27_3
        try clear hfz27_4
        try clear hfz27_5
        try clear hfz29_0
        try clear hfz29_1
        try clear hfz29_2
        try clear hfz29_3
        try clear hfz29_4
        try clear hfz29_5
        try clear hx373_0
        try clear hx373_1
        try clear hx373_2
        try clear hx373_3
        try clear hx373_4
        try clear hx373_5
        try clear hx374_0
        try clear hx374_1
        try clear hx374_2
        try clear hx374_3
        try clear hx374_4
        try clear hx374_5
        try clear p373
        try clear p374
        try clear q373
        try clear q374
        obtain ⟨kq, x60_6, rfl, HA, HJ6, HO_3, BK364, HB⟩ := hcut
        cases kq with
        | zero => exact absurd HA.out (by simp [gangsawlaw42_StairLies.j0])
        | succ kj6 =>
          have H := HA.out
          clear HA
          simp only [gangsawlaw42_StairLies.j0] at H
          by_cases c30 : x60_6 = true
          · subst c30
            have H1 : (some false) = some r := by rw [if_pos rfl] at H; exact H
            clear H
            have H := H1
            clear H1
            obtain rfl := Option.some.inj H
            go_wp2
            repeat (go_quiet (fail); try go_wp2)
            go_ret
            exact ⟨by first | rfl | (simp [errW_none, errW_some] <;> rfl) | (simp [*, errW_none, errW_some] <;> rfl), by repeat (first | (with_reducible first | exact HB.out | apply below_alloc | apply pw_below_drewN | apply below_drew1 | refine below_set ?_ GE364.out) | exact HB.out)⟩
          · replace c30 := Bool.eq_false_iff.mpr c30
            subst c30
            have H1 : (gangsawlaw42_StairLies.l0 kj6 t366 0 a0_0 a0_1 a0_2 a0_3 a0_4 a0_5) = some r := by rw [if_neg (show ¬ (false = true) by decide)] at H; exact H
            clear H
            have H := H1
            clear H1
            have H' := Aside0.mk H
            clear H
            go_wp2
            repeat (go_quiet (fail); try go_wp2)
            go_loopg [8] kj6 (fun kq v8 w' => ∃ (x8_2 : Int), v8 = .int .i64 x8_2 ∧ Aside0 (gangsawlaw42_StairLies.l0 kq t366 x8_2 a0_0 a0_1 a0_2 a0_3 a0_4 a0_5 = some r) ∧ Aside0 (kq ≤ kj6) ∧ Aside0 (Kd.R k66 66 w' w.heap.size (fun _ => True) v367 t366) ∧ Aside0 (w'.heap[gb364]? = some (.cells #[.int .i64 a0_0, .int .i64 a0_1, .int .i64 a0_2, .int .i64 a0_3, .int .i64 a0_4, .int .i64 a0_5] 27 (0, 0))) ∧ Aside0 (Below w.heap.size w w'))
            case atStart => exact ⟨(0), (by first | rfl | (simp; done) | (simp [*]; done)), H', ⟨Nat.le_refl _⟩, ⟨by (with_reducible repeat (first | apply Kd.R_alloc | apply Kd.R_drewN | apply Kd.R_drew)); exact HO_3.out⟩, ⟨by (with_reducible repeat (first | refine blk_drewN ?_ _ | refine blk_drew ?_ | refine blk_alloc ?_ _)); exact BK364.out⟩, ⟨by repeat (first | (with_reducible first | exact HB.out | apply below_alloc | apply pw_below_drewN | apply below_drew1 | refine below_set ?_ GE364.out) | exact HB.out)⟩⟩
            case round =>
              clear H'
              try clear c1
              try clear c2
              try clear p2
              try clear c3
              try clear p3
              try clear q3
              try clear hx3
              try clear qi3
              try clear c5
              try clear c5b0
              try clear c5b1
              try clear p6
              try clear c8
              try clear c14
              try clear c14b0
              try clear c14b1
              try clear c15
              try clear c15b0
              try clear c15b1
              try clear c16
              try clear c16b0
              try clear c16b1
              try clear c16b2
              try clear c20
              try clear c20b0
              try clear c21
              try clear c21b0
              try clear c22
              try clear c22b0
              try clear c22b1
              try clear c23
              try clear c23b0
              try clear c23b1
              try clear c30
              try clear hcz10_0
              try clear hcz10_1
              try clear hcz10_2
              try clear hcz10_3
              try clear hcz10_4
              try clear hcz10_5
              try clear hcz12_0
              try clear hcz12_1
              try clear hcz12_2
              try clear hcz12_3
              try clear hcz12_4
              try clear hcz12_5
              try clear hcz18_0
              try clear hcz18_1
              try clear hcz18_2
              try clear hcz18_3
              try clear hcz18_4
              try clear hcz18_5
              try clear hcz25_0
              try clear hcz25_1
              try clear hcz25_2
              try clear hcz25_3
              try clear hcz25_4
              try clear hcz25_5
              try clear hcz27_0
              try clear hcz27_1
              try clear hcz27_2
              try clear hcz27_3
              try clear hcz27_4
              try clear hcz27_5
              try clear hcz29_0
              try clear hcz29_1
              try clear hcz29_2
              try clear hcz29_3
              try clear hcz29_4
              try clear hcz29_5
              try clear hfz10_0
              try clear hfz10_1
              try clear hfz10_2
              try clear hfz10_3
              try clear hfz10_4
              try clear hfz10_5
              try clear hfz12_0
              try clear hfz12_1
              try clear hfz12_2
              try clear hfz12_3
              try clear hfz12_4
              try clear hfz12_5
              try clear hfz18_0
              try clear hfz18_1
              try clear hfz18_2
              try clear hfz18_3
              try clear hfz18_4
              try clear hfz18_5
              try clear hfz25_0
              try clear hfz25_1
              try clear hfz25_2
              try clear hfz25_3
              try clear hfz25_4
              try clear hfz25_5
              try clear hfz27_0
              try clear hfz27_1
              try clear hfz27_2
              try clear hfz27_3
              try clear hfz27_4
              try clear hfz27_5
              try clear hfz29_0
              try clear hfz29_1
              try clear hfz29_2
              try clear hfz29_3
              try clear hfz29_4
              try clear hfz29_5
              try clear hx373_0
              try clear hx373_1
              try clear hx373_2
              try clear hx373_3
              try clear hx373_4
              try clear hx373_5
              try clear hx374_0
              try clear hx374_1
              try clear hx374_2
              try clear hx374_3
              try clear hx374_4
              try clear hx374_5
              try clear p2
              try clear p3
              try clear p373
              try clear p374
              try clear p6
              try clear q3
              try clear q373
              try clear q374
              obtain ⟨x8_2, rfl, HA, HK2, HO_3, BK364, HB⟩ := hrel
              cases gk with
              | zero => exact absurd HA.out (by simp [gangsawlaw42_StairLies.l0])
              | succ k2 =>
                have H := HA.out
                clear HA
                simp only [gangsawlaw42_StairLies.l0] at H
                by_cases c31 : x8_2 < (t366.length : Int)
                · rw [if_pos c31] at H
                  have c31b0 : decide (x8_2 < (t366.length : Int)) = true := decide_eq_true c31
                  clear c31
                  have HC32 := Aside0.mk H
                  clear H
                  obtain ⟨Ao33, co33, eo33⟩ := Kd.R_slice HO_3.out
                  subst eo33
                  go_upto_region 12 with (fail)
                  repeat (go_quiet (fail); go_upto_region 12 with (fail))
                  go_cut [105] (fun v105 wc => ∃ (kq : Nat) (x105_31 : Bool), v105 = .bool x105_31 ∧ Aside0 (gangsawlaw42_StairLies.j2 kq t366 x8_2 x105_31 a0_0 a0_1 a0_2 a0_3 a0_4 a0_5 = some r) ∧ Aside0 (kq ≤ k2) ∧ Aside0 (Kd.R k66 66 wc w.heap.size (fun _ => True) (.slice Ao33 t366.length co33) t366) ∧ Aside0 (wc.heap[gb364]? = some (.cells #[.int .i64 a0_0, .int .i64 a0_1, .int .i64 a0_2, .int .i64 a0_3, .int .i64 a0_4, .int .i64 a0_5] 27 (0, 0))) ∧ Aside0 (Below w.heap.size w wc))
                  case first =>
                    have H := HC32.out
                    clear HC32
                    by_cases c34 : 0 ≤ x8_2
                    · rw [if_pos c34] at H
                      have c34b0 : decide (0 ≤ x8_2) = true := decide_eq_true c34
                      clear c34
                      (first | rw [c34b0] | (simp only [i64_w, i32_w]; rw [c34b0]) | skip)
                      by_cases c35 : ((rd_T66 t366 x8_2).f0.f0) ≥ ((rd_T66 t366 x8_2).f1.f0)
                      · rw [if_pos c35] at H
                        have c35b0 : decide (((rd_T66 t366 x8_2).f1.f0) ≤ ((rd_T66 t366 x8_2).f0.f0)) = true := decide_eq_true c35
                        clear c35
                        have H' := Aside0.mk H
                        clear H
                        have p375 : 0 ≤ (x8_2 : Int) := of_decide_eq_true (by first | (with_reducible assumption) | assumption)
                        have q375 : x8_2 < (t366.length : Int) := of_decide_eq_true (by first | (with_reducible assumption) | assumption)
                        obtain ⟨ad375, e375, hx375_0, hx375_1, hx375_2, hx375_3, hx375_4, hx375_5⟩ := at_T66 (Kd.R_reads' HO_3.out).2.2 x8_2 p375 q375
                        cases e375
                        replace p375 := eq_true p375
                        replace q375 := eq_true q375
                        have p376 : 0 ≤ (x8_2 : Int) := of_decide_eq_true (by first | (with_reducible assumption) | assumption)
                        have q376 : x8_2 < (t366.length : Int) := of_decide_eq_true (by first | (with_reducible assumption) | assumption)
                        obtain ⟨ad376, e376, hx376_0, hx376_1, hx376_2, hx376_3, hx376_4, hx376_5⟩ := at_T66 (Kd.R_reads' HO_3.out).2.2 x8_2 p376 q376
                        obtain rfl : ad375 = ad376 := (by injection e376)
                        replace p376 := eq_true p376
                        replace q376 := eq_true q376
                        go_wp2
                        repeat (go_quiet (fail); try go_wp2)
                        go_meet
                        case rel => exact ⟨_, (true), (by first | rfl | (simp; done) | (simp [*]; done)), H', ⟨by have := HJ6.out; have := HK2.out; first | omega | exact Nat.le_refl _⟩, ⟨by (with_reducible repeat (first | apply Kd.R_alloc | apply Kd.R_drewN | apply Kd.R_drew)); exact HO_3.out⟩, ⟨by (with_reducible repeat (first | refine blk_drewN ?_ _ | refine blk_drew ?_ | refine blk_alloc ?_ _)); exact BK364.out⟩, ⟨by repeat (first | (with_reducible first | exact HB.out | apply below_alloc | apply pw_below_drewN | apply below_drew1 | refine below_set ?_ GE364.out) | exact HB.out)⟩⟩
                      · rw [if_neg c35] at H
                        have c35b0 : decide (((rd_T66 t366 x8_2).f1.f0) ≤ ((rd_T66 t366 x8_2).f0.f0)) = false := decide_eq_false c35
                        clear c35
                        by_cases c36 : ((rd_T66 t366 x8_2).f1.f1) = a0_4
                        · rw [if_pos c36] at H
                          have c36b0 : (((rd_T66 t366 x8_2).f1.f1) == a0_4) = true := beq_iff_eq.mpr c36
                          have c36b1 : (((rd_T66 t366 x8_2).f1.f1) != a0_4) = false := bne_eq_false_iff_eq.mpr c36
                          clear c36
                          have H' := Aside0.mk H
                          clear H
                          have p375 : 0 ≤ (x8_2 : Int) := of_decide_eq_true (by first | (with_reducible assumption) | assumption)
                          have q375 : x8_2 < (t366.length : Int) := of_decide_eq_true (by first | (with_reducible assumption) | assumption)
                          obtain ⟨ad375, e375, hx375_0, hx375_1, hx375_2, hx375_3, hx375_4, hx375_5⟩ := at_T66 (Kd.R_reads' HO_3.out).2.2 x8_2 p375 q375
                          cases e375
                          replace p375 := eq_true p375
                          replace q375 := eq_true q375
                          have p376 : 0 ≤ (x8_2 : Int) := of_decide_eq_true (by first | (with_reducible assumption) | assumption)
                          have q376 : x8_2 < (t366.length : Int) := of_decide_eq_true (by first | (with_reducible assumption) | assumption)
                          obtain ⟨ad376, e376, hx376_0, hx376_1, hx376_2, hx376_3, hx376_4, hx376_5⟩ := at_T66 (Kd.R_reads' HO_3.out).2.2 x8_2 p376 q376
                          obtain rfl : ad375 = ad376 := (by injection e376)
                          replace p376 := eq_true p376
                          replace q376 := eq_true q376
                          have p377 : 0 ≤ (x8_2 : Int) := of_decide_eq_true (by first | (with_reducible assumption) | assumption)
                          have q377 : x8_2 < (t366.length : Int) := of_decide_eq_true (by first | (with_reducible assumption) | assumption)
                          obtain ⟨ad377, e377, hx377_0, hx377_1, hx377_2, hx377_3, hx377_4, hx377_5⟩ := at_T66 (Kd.R_reads' HO_3.out).2.2 x8_2 p377 q377
                          obtain rfl : ad375 = ad377 := (by injection e377)
                          replace p377 := eq_true p377
                          replace q377 := eq_true q377
                          have hcz37_0 : wr.cell? ⟨gb364, 0, none⟩ = some (.int .i64 a0_0) := (blk_cell BK364.out 0).trans rfl
                          have hcz37_1 : wr.cell? ⟨gb364, 1, none⟩ = some (.int .i64 a0_1) := (blk_cell BK364.out 1).trans rfl
                          have hcz37_2 : wr.cell? ⟨gb364, 2, none⟩ = some (.int .i64 a0_2) := (blk_cell BK364.out 2).trans rfl
                          have hcz37_3 : wr.cell? ⟨gb364, 3, none⟩ = some (.int .i64 a0_3) := (blk_cell BK364.out 3).trans rfl
                          have hcz37_4 : wr.cell? ⟨gb364, 4, none⟩ = some (.int .i64 a0_4) := (blk_cell BK364.out 4).trans rfl
                          have hcz37_5 : wr.cell? ⟨gb364, 5, none⟩ = some (.int .i64 a0_5) := (blk_cell BK364.out 5).trans rfl
                          have hfz37_0 := blk_frozen BK364.out 0
                          have hfz37_1 := blk_frozen BK364.out 1
                          have hfz37_2 := blk_frozen BK364.out 2
                          have hfz37_3 := blk_frozen BK364.out 3
                          have hfz37_4 := blk_frozen BK364.out 4
                          have hfz37_5 := blk_frozen BK364.out 5
                          have p378 : 0 ≤ (x8_2 : Int) := of_decide_eq_true (by first | (with_reducible assumption) | assumption)
                          have q378 : x8_2 < (t366.length : Int) := of_decide_eq_true (by first | (with_reducible assumption) | assumption)
                          obtain ⟨ad378, e378, hx378_0, hx378_1, hx378_2, hx378_3, hx378_4, hx378_5⟩ := at_T66 (Kd.R_reads' HO_3.out).2.2 x8_2 p378 q378
                          obtain rfl : ad375 = ad378 := (by injection e378)
                          replace p378 := eq_true p378
                          replace q378 := eq_true q378
                          have p379 : 0 ≤ (x8_2 : Int) := of_decide_eq_true (by first | (with_reducible assumption) | assumption)
                          have q379 : x8_2 < (t366.length : Int) := of_decide_eq_true (by first | (with_reducible assumption) | assumption)
                          obtain ⟨ad379, e379, hx379_0, hx379_1, hx379_2, hx379_3, hx379_4, hx379_5⟩ := at_T66 (Kd.R_reads' HO_3.out).2.2 x8_2 p379 q379
                          obtain rfl : ad375 = ad379 := (by injection e379)
                          replace p379 := eq_true p379
                          replace q379 := eq_true q379
                          go_wp2
                          repeat (go_quiet (fail); try go_wp2)
                          go_meet
                          case rel => exact ⟨_, (decide (((rd_T66 t366 x8_2).f0.f2) ≥ ((rd_T66 t366 x8_2).f1.f2))), (by first | rfl | (simp; done) | (simp [*]; done)), H', ⟨by have := HJ6.out; have := HK2.out; first | omega | exact Nat.le_refl _⟩, ⟨by (with_reducible repeat (first | apply Kd.R_alloc | apply Kd.R_drewN | apply Kd.R_drew)); exact HO_3.out⟩, ⟨by (with_reducible repeat (first | refine blk_drewN ?_ _ | refine blk_drew ?_ | refine blk_alloc ?_ _)); exact BK364.out⟩, ⟨by repeat (first | (with_reducible first | exact HB.out | apply below_alloc | apply pw_below_drewN | apply below_drew1 | refine below_set ?_ GE364.out) | exact HB.out)⟩⟩
                        · rw [if_neg c36] at H
                          have c36b0 : (((rd_T66 t366 x8_2).f1.f1) == a0_4) = false := beq_eq_false_iff_ne.mpr c36
                          have c36b1 : (((rd_T66 t366 x8_2).f1.f1) != a0_4) = true := bne_iff_ne.mpr c36
                          have H' := Aside0.mk H
                          clear H
                          have p375 : 0 ≤ (x8_2 : Int) := of_decide_eq_true (by first | (with_reducible assumption) | assumption)
                          have q375 : x8_2 < (t366.length : Int) := of_decide_eq_true (by first | (with_reducible assumption) | assumption)
                          obtain ⟨ad375, e375, hx375_0, hx375_1, hx375_2, hx375_3, hx375_4, hx375_5⟩ := at_T66 (Kd.R_reads' HO_3.out).2.2 x8_2 p375 q375
                          cases e375
                          replace p375 := eq_true p375
                          replace q375 := eq_true q375
                          have p376 : 0 ≤ (x8_2 : Int) := of_decide_eq_true (by first | (with_reducible assumption) | assumption)
                          have q376 : x8_2 < (t366.length : Int) := of_decide_eq_true (by first | (with_reducible assumption) | assumption)
                          obtain ⟨ad376, e376, hx376_0, hx376_1, hx376_2, hx376_3, hx376_4, hx376_5⟩ := at_T66 (Kd.R_reads' HO_3.out).2.2 x8_2 p376 q376
                          obtain rfl : ad375 = ad376 := (by injection e376)
                          replace p376 := eq_true p376
                          replace q376 := eq_true q376
                          have p377 : 0 ≤ (x8_2 : Int) := of_decide_eq_true (by first | (with_reducible assumption) | assumption)
                          have q377 : x8_2 < (t366.length : Int) := of_decide_eq_true (by first | (with_reducible assumption) | assumption)
                          obtain ⟨ad377, e377, hx377_0, hx377_1, hx377_2, hx377_3, hx377_4, hx377_5⟩ := at_T66 (Kd.R_reads' HO_3.out).2.2 x8_2 p377 q377
                          obtain rfl : ad375 = ad377 := (by injection e377)
                          replace p377 := eq_true p377
                          replace q377 := eq_true q377
                          have hcz38_0 : wr.cell? ⟨gb364, 0, none⟩ = some (.int .i64 a0_0) := (blk_cell BK364.out 0).trans rfl
                          have hcz38_1 : wr.cell? ⟨gb364, 1, none⟩ = some (.int .i64 a0_1) := (blk_cell BK364.out 1).trans rfl
                          have hcz38_2 : wr.cell? ⟨gb364, 2, none⟩ = some (.int .i64 a0_2) := (blk_cell BK364.out 2).trans rfl
                          have hcz38_3 : wr.cell? ⟨gb364, 3, none⟩ = some (.int .i64 a0_3) := (blk_cell BK364.out 3).trans rfl
                          have hcz38_4 : wr.cell? ⟨gb364, 4, none⟩ = some (.int .i64 a0_4) := (blk_cell BK364.out 4).trans rfl
                          have hcz38_5 : wr.cell? ⟨gb364, 5, none⟩ = some (.int .i64 a0_5) := (blk_cell BK364.out 5).trans rfl
                          have hfz38_0 := blk_frozen BK364.out 0
                          have hfz38_1 := blk_frozen BK364.out 1
                          have hfz38_2 := blk_frozen BK364.out 2
                          have hfz38_3 := blk_frozen BK364.out 3
                          have hfz38_4 := blk_frozen BK364.out 4
                          have hfz38_5 := blk_frozen BK364.out 5
                          go_wp2
                          repeat (go_quiet (fail); try go_wp2)
                          go_meet
                          case rel => exact ⟨_, (true), (by first | rfl | (simp; done) | (simp [*]; done)), H', ⟨by have := HJ6.out; have := HK2.out; first | omega | exact Nat.le_refl _⟩, ⟨by (with_reducible repeat (first | apply Kd.R_alloc | apply Kd.R_drewN | apply Kd.R_drew)); exact HO_3.out⟩, ⟨by (with_reducible repeat (first | refine blk_drewN ?_ _ | refine blk_drew ?_ | refine blk_alloc ?_ _)); exact BK364.out⟩, ⟨by repeat (first | (with_reducible first | exact HB.out | apply below_alloc | apply pw_below_drewN | apply below_drew1 | refine below_set ?_ GE364.out) | exact HB.out)⟩⟩
                    · rw [if_neg c34] at H
                      exact absurd H (by simp)
                  case rest =>
                    clear HC32
                    try clear c1
                    try clear c2
                    try clear p2
                    try clear c3
                    try clear p3
                    try clear q3
                    try clear hx3
                    try clear qi3
                    try clear c5
                    try clear c5b0
                    try clear c5b1
                    try clear p6
                    try clear c8
                    try clear c14
                    try clear c14b0
                    try clear c14b1
                    try clear c15
                    try clear c15b0
                    try clear c15b1
                    try clear c16
                    try clear c16b0
                    try clear c16b1
                    try clear c16b2
                    try clear c20
                    try clear c20b0
                    try clear c21
                    try clear c21b0
                    try clear c22
                    try clear c22b0
                    try clear c22b1
                    try clear c23
                    try clear c23b0
                    try clear c23b1
                    try clear c30
                    try clear c31
                    try clear c31b0
                    try clear c34
                    try clear c34b0
                    try clear c35
                    try clear c35b0
                    try clear c36
                    try clear c36b0
                    try clear c36b1
                    try clear p37
                    try clear q37
                    try clear hx37
                    try clear qi37
                    try clear hcz10_0
                    try clear hcz10_1
                    try clear hcz10_2
                    try clear hcz10_3
                    try clear hcz10_4
                    try clear hcz10_5
                    try clear hcz12_0
                    try clear hcz12_1
                    try clear hcz12_2
                    try clear hcz12_3
                    try clear hcz12_4
                    try clear hcz12_5
                    try clear hcz18_0
                    try clear hcz18_1
                    try clear hcz18_2
                    try clear hcz18_3
                    try clear hcz18_4
                    try clear hcz18_5
                    try clear hcz25_0
                    try clear hcz25_1
                    try clear hcz25_2
                    try clear hcz25_3
                    try clear hcz25_4
                    try clear hcz25_5
                    try clear hcz27_0
                    try clear hcz27_1
                    try clear hcz27_2
                    try clear hcz27_3
                    try clear hcz27_4
                    try clear hcz27_5
                    try clear hcz29_0
                    try clear hcz29_1
                    try clear hcz29_2
                    try clear hcz29_3
                    try clear hcz29_4
                    try clear hcz29_5
                    try clear hcz37_0
                    try clear hcz37_1
                    try clear hcz37_2
                    try clear hcz37_3
                    try clear hcz37_4
                    try clear hcz37_5
                    try clear hcz38_0
                    try clear hcz38_1
                    try clear hcz38_2
                    try clear hcz38_3
                    try clear hcz38_4
                    try clear hcz38_5
                    try clear hfz10_0
                    try clear hfz10_1
                    try clear hfz10_2
                    try clear hfz10_3
                    try clear hfz10_4
                    try clear hfz10_5
                    try clear hfz12_0
                    try clear hfz12_1
                    try clear hfz12_2
                    try clear hfz12_3
                    try clear hfz12_4
                    try clear hfz12_5
                    try clear hfz18_0
                    try clear hfz18_1
                    try clear hfz18_2
                    try clear hfz18_3
                    try clear hfz18_4
                    try clear hfz18_5
                    try clear hfz25_0
                    try clear hfz25_1
                    try clear hfz25_2
                    try clear hfz25_3
                    try clear hfz25_4
                    try clear hfz25_5
                    try clear hfz27_0
                    try clear hfz27_1
                    try clear hfz27_2
                    try clear hfz27_3
                    try clear hfz27_4
                    try clear hfz27_5
                    try clear hfz29_0
                    try clear hfz29_1
                    try clear hfz29_2
                    try clear hfz29_3
                    try clear hfz29_4
                    try clear hfz29_5
                    try clear hfz37_0
                    try clear hfz37_1
                    try clear hfz37_2
                    try clear hfz37_3
                    try clear hfz37_4
                    try clear hfz37_5
                    try clear hfz38_0
                    try clear hfz38_1
                    try clear hfz38_2
                    try clear hfz38_3
                    try clear hfz38_4
                    try clear hfz38_5
                    try clear hx373_0
                    try clear hx373_1
                    try clear hx373_2
                    try clear hx373_3
                    try clear hx373_4
                    try clear hx373_5
                    try clear hx374_0
                    try clear hx374_1
                    try clear hx374_2
                    try clear hx374_3
                    try clear hx374_4
                    try clear hx374_5
                    try clear hx375_0
                    try clear hx375_1
                    try clear hx375_2
                    try clear hx375_3
                    try clear hx375_4
                    try clear hx375_5
                    try clear hx376_0
                    try clear hx376_1
                    try clear hx376_2
                    try clear hx376_3
                    try clear hx376_4
                    try clear hx376_5
                    try clear hx377_0
                    try clear hx377_1
                    try clear hx377_2
                    try clear hx377_3
                    try clear hx377_4
                    try clear hx377_5
                    try clear hx378_0
                    try clear hx378_1
                    try clear hx378_2
                    try clear hx378_3
                    try clear hx378_4
                    try clear hx378_5
                    try clear hx379_0
                    try clear hx379_1
                    try clear hx379_2
                    try clear hx379_3
                    try clear hx379_4
                    try clear hx379_5
                    try clear p2
                    try clear p3
                    try clear p373
                    try clear p374
                    try clear p375
                    try clear p376
                    try clear p377
                    try clear p378
                    try clear p379
                    try clear p6
                    try clear q3
                    try clear q373
                    try clear q374
                    try clear q375
                    try clear q376
                    try clear q377
                    try clear q378
                    try clear q379
                    obtain ⟨kq, x105_31, rfl, HA, HJ31, HO_3, BK364, HB⟩ := hcut
                    cases kq with
                    | zero => exact absurd HA.out (by simp [gangsawlaw42_StairLies.j2])
                    | succ kj31 =>
                      have H := HA.out
                      clear HA
                      simp only [gangsawlaw42_StairLies.j2] at H
                      by_cases c39 : x105_31 = true
                      · subst c39
                        have H1 : (some false) = some r := by rw [if_pos rfl] at H; exact H
                        clear H
                        have H := H1
                        clear H1
                        obtain rfl := Option.some.inj H
                        go_wp2
                        repeat (go_quiet (fail); try go_wp2)
                        go_ret
                        exact ⟨by first | rfl | (simp [errW_none, errW_some] <;> rfl) | (simp [*, errW_none, errW_some] <;> rfl), by repeat (first | (with_reducible first | exact HB.out | apply below_alloc | apply pw_below_drewN | apply below_drew1 | refine below_set ?_ GE364.out) | exact HB.out)⟩
                      · replace c39 := Bool.eq_false_iff.mpr c39
                        subst c39
                        have H1 : (if x8_2 > 0 then (if 0 ≤ x8_2 then (if x8_2 < (t366.length : Int) then (if 0 ≤ (wrap64 (x8_2 - 1)) then (if (wrap64 (x8_2 - 1)) < (t366.length : Int) then (if ((rd_T66 t366 x8_2).f0.f2) = ((rd_T66 t366 (wrap64 (x8_2 - 1))).f1.f2) then (if (wrap64 (((rd_T66 t366 (wrap64 (x8_2 - 1))).f1.f0) - ((rd_T66 t366 x8_2).f0.f0))) = a0_5 then (if (wrap64 (((rd_T66 t366 x8_2).f0.f0) - ((rd_T66 t366 (wrap64 (x8_2 - 1))).f0.f0))) = a0_3 then (gangsawlaw42_StairLies.l0 kj31 t366 (wrap64 (x8_2 + 1)) a0_0 a0_1 a0_2 a0_3 a0_4 a0_5) else (some false)) else (some false)) else (some false)) else (none)) else (none)) else (none)) else (none)) else (gangsawlaw42_StairLies.l0 kj31 t366 (wrap64 (x8_2 + 1)) a0_0 a0_1 a0_2 a0_3 a0_4 a0_5)) = some r := by rw [if_neg (show ¬ (false = true) by decide)] at H; exact H
                        clear H
                        have H := H1
                        clear H1
                        by_cases c40 : x8_2 > 0
                        · rw [if_pos c40] at H
                          have c40b0 : decide (0 < x8_2) = true := decide_eq_true c40
                          clear c40
                          by_cases c41 : 0 ≤ x8_2
                          · rw [if_pos c41] at H
                            have c41b0 : decide (0 ≤ x8_2) = true := decide_eq_true c41
                            clear c41
                            by_cases c42 : x8_2 < (t366.length : Int)
                            · rw [if_pos c42] at H
                              have c42b0 : decide (x8_2 < (t366.length : Int)) = true := decide_eq_true c42
                              clear c42
                              obtain ⟨ji43, hji43⟩ : ∃ j_ : Int, (wrap64 (x8_2 - 1)) = j_ := ⟨_, rfl⟩
                              replace H : (if 0 ≤ (ji43) then (if (ji43) < (t366.length : Int) then (if ((rd_T66 t366 x8_2).f0.f2) = ((rd_T66 t366 (ji43)).f1.f2) then (if (wrap64 (((rd_T66 t366 (ji43)).f1.f0) - ((rd_T66 t366 x8_2).f0.f0))) = a0_5 then (if (wrap64 (((rd_T66 t366 x8_2).f0.f0) - ((rd_T66 t366 (ji43)).f0.f0))) = a0_3 then (gangsawlaw42_StairLies.l0 kj31 t366 (wrap64 (x8_2 + 1)) a0_0 a0_1 a0_2 a0_3 a0_4 a0_5) else (some false)) else (some false)) else (some false)) else (none)) else (none)) = some r := by first | (rw [hji43] at H; exact H) | (simp only [hji43] at H ⊢; exact H)
                              have hji43w : (IntKind.i64.wrap (x8_2 - 1)) = ji43 := (i64_w _).trans hji43
                              by_cases c44 : 0 ≤ (ji43)
                              · rw [if_pos c44] at H
                                have c44b0 : decide (0 ≤ (ji43)) = true := decide_eq_true c44
                                clear c44
                                by_cases c45 : (ji43) < (t366.length : Int)
                                · rw [if_pos c45] at H
                                  have c45b0 : decide ((ji43) < (t366.length : Int)) = true := decide_eq_true c45
                                  clear c45
                                  by_cases c46 : ((rd_T66 t366 x8_2).f0.f2) = ((rd_T66 t366 (ji43)).f1.f2)
                                  · rw [if_pos c46] at H
                                    have c46b0 : (((rd_T66 t366 x8_2).f0.f2) == ((rd_T66 t366 (ji43)).f1.f2)) = true := beq_iff_eq.mpr c46
                                    have c46b1 : (((rd_T66 t366 x8_2).f0.f2) != ((rd_T66 t366 (ji43)).f1.f2)) = false := bne_eq_false_iff_eq.mpr c46
                                    clear c46
                                    by_cases c47 : (wrap64 (((rd_T66 t366 (ji43)).f1.f0) - ((rd_T66 t366 x8_2).f0.f0))) = a0_5
                                    · rw [if_pos c47] at H
                                      have c47b0 : ((wrap64 (((rd_T66 t366 (ji43)).f1.f0) - ((rd_T66 t366 x8_2).f0.f0))) == a0_5) = true := beq_iff_eq.mpr c47
                                      have c47b1 : ((wrap64 (((rd_T66 t366 (ji43)).f1.f0) - ((rd_T66 t366 x8_2).f0.f0))) != a0_5) = false := bne_eq_false_iff_eq.mpr c47
                                      clear c47
                                      by_cases c48 : (wrap64 (((rd_T66 t366 x8_2).f0.f0) - ((rd_T66 t366 (ji43)).f0.f0))) = a0_3
                                      · rw [if_pos c48] at H
                                        have c48b0 : ((wrap64 (((rd_T66 t366 x8_2).f0.f0) - ((rd_T66 t366 (ji43)).f0.f0))) == a0_3) = true := beq_iff_eq.mpr c48
                                        have c48b1 : ((wrap64 (((rd_T66 t366 x8_2).f0.f0) - ((rd_T66 t366 (ji43)).f0.f0))) != a0_3) = false := bne_eq_false_iff_eq.mpr c48
                                        clear c48
                                        have H' := Aside0.mk H
                                        clear H
                                        have p380 : 0 ≤ (x8_2 : Int) := of_decide_eq_true (by first | (with_reducible assumption) | assumption)
                                        have q380 : x8_2 < (t366.length : Int) := of_decide_eq_true (by first | (with_reducible assumption) | assumption)
                                        obtain ⟨ad380, e380, hx380_0, hx380_1, hx380_2, hx380_3, hx380_4, hx380_5⟩ := at_T66 (Kd.R_reads' HO_3.out).2.2 x8_2 p380 q380
                                        cases e380
                                        replace p380 := eq_true p380
                                        replace q380 := eq_true q380
                                        have p381 : 0 ≤ ((ji43) : Int) := of_decide_eq_true (by first | (with_reducible assumption) | assumption)
                                        have q381 : (ji43) < (t366.length : Int) := of_decide_eq_true (by first | (with_reducible assumption) | assumption)
                                        obtain ⟨ad381, e381, hx381_0, hx381_1, hx381_2, hx381_3, hx381_4, hx381_5⟩ := at_T66 (Kd.R_reads' HO_3.out).2.2 (ji43) p381 q381
                                        obtain rfl : ad380 = ad381 := (by injection e381)
                                        replace p381 := eq_true p381
                                        replace q381 := eq_true q381
                                        have p382 : 0 ≤ ((ji43) : Int) := of_decide_eq_true (by first | (with_reducible assumption) | assumption)
                                        have q382 : (ji43) < (t366.length : Int) := of_decide_eq_true (by first | (with_reducible assumption) | assumption)
                                        obtain ⟨ad382, e382, hx382_0, hx382_1, hx382_2, hx382_3, hx382_4, hx382_5⟩ := at_T66 (Kd.R_reads' HO_3.out).2.2 (ji43) p382 q382
                                        obtain rfl : ad380 = ad382 := (by injection e382)
                                        replace p382 := eq_true p382
                                        replace q382 := eq_true q382
                                        have p383 : 0 ≤ (x8_2 : Int) := of_decide_eq_true (by first | (with_reducible assumption) | assumption)
                                        have q383 : x8_2 < (t366.length : Int) := of_decide_eq_true (by first | (with_reducible assumption) | assumption)
                                        obtain ⟨ad383, e383, hx383_0, hx383_1, hx383_2, hx383_3, hx383_4, hx383_5⟩ := at_T66 (Kd.R_reads' HO_3.out).2.2 x8_2 p383 q383
                                        obtain rfl : ad380 = ad383 := (by injection e383)
                                        replace p383 := eq_true p383
                                        replace q383 := eq_true q383
                                        have hcz49_0 : wc.cell? ⟨gb364, 0, none⟩ = some (.int .i64 a0_0) := (blk_cell BK364.out 0).trans rfl
                                        have hcz49_1 : wc.cell? ⟨gb364, 1, none⟩ = some (.int .i64 a0_1) := (blk_cell BK364.out 1).trans rfl
                                        have hcz49_2 : wc.cell? ⟨gb364, 2, none⟩ = some (.int .i64 a0_2) := (blk_cell BK364.out 2).trans rfl
                                        have hcz49_3 : wc.cell? ⟨gb364, 3, none⟩ = some (.int .i64 a0_3) := (blk_cell BK364.out 3).trans rfl
                                        have hcz49_4 : wc.cell? ⟨gb364, 4, none⟩ = some (.int .i64 a0_4) := (blk_cell BK364.out 4).trans rfl
                                        have hcz49_5 : wc.cell? ⟨gb364, 5, none⟩ = some (.int .i64 a0_5) := (blk_cell BK364.out 5).trans rfl
                                        have hfz49_0 := blk_frozen BK364.out 0
                                        have hfz49_1 := blk_frozen BK364.out 1
                                        have hfz49_2 := blk_frozen BK364.out 2
                                        have hfz49_3 := blk_frozen BK364.out 3
                                        have hfz49_4 := blk_frozen BK364.out 4
                                        have hfz49_5 := blk_frozen BK364.out 5
                                        have p384 : 0 ≤ (x8_2 : Int) := of_decide_eq_true (by first | (with_reducible assumption) | assumption)
                                        have q384 : x8_2 < (t366.length : Int) := of_decide_eq_true (by first | (with_reducible assumption) | assumption)
                                        obtain ⟨ad384, e384, hx384_0, hx384_1, hx384_2, hx384_3, hx384_4, hx384_5⟩ := at_T66 (Kd.R_reads' HO_3.out).2.2 x8_2 p384 q384
                                        obtain rfl : ad380 = ad384 := (by injection e384)
                                        replace p384 := eq_true p384
                                        replace q384 := eq_true q384
                                        have p385 : 0 ≤ ((ji43) : Int) := of_decide_eq_true (by first | (with_reducible assumption) | assumption)
                                        have q385 : (ji43) < (t366.length : Int) := of_decide_eq_true (by first | (with_reducible assumption) | assumption)
                                        obtain ⟨ad385, e385, hx385_0, hx385_1, hx385_2, hx385_3, hx385_4, hx385_5⟩ := at_T66 (Kd.R_reads' HO_3.out).2.2 (ji43) p385 q385
                                        obtain rfl : ad380 = ad385 := (by injection e385)
                                        replace p385 := eq_true p385
                                        replace q385 := eq_true q385
                                        go_wp2
                                        repeat (go_quiet (fail); try go_wp2)
                                        go_roundg kj31
                                        case measure => have := HJ6.out; have := HK2.out; have := HJ31.out; omega
                                        case rel => exact ⟨(wrap64 (x8_2 + 1)), (by first | rfl | (simp; done) | (simp [*]; done)), H', ⟨by have := HJ6.out; have := HK2.out; have := HJ31.out; omega⟩, ⟨by (with_reducible repeat (first | apply Kd.R_alloc | apply Kd.R_drewN | apply Kd.R_drew)); exact HO_3.out⟩, ⟨by (with_reducible repeat (first | refine blk_drewN ?_ _ | refine blk_drew ?_ | refine blk_alloc ?_ _)); exact BK364.out⟩, ⟨by repeat (first | (with_reducible first | exact HB.out | apply below_alloc | apply pw_below_drewN | apply below_drew1 | refine below_set ?_ GE364.out) | exact HB.out)⟩⟩
                                      · rw [if_neg c48] at H
                                        have c48b0 : ((wrap64 (((rd_T66 t366 x8_2).f0.f0) - ((rd_T66 t366 (ji43)).f0.f0))) == a0_3) = false := beq_eq_false_iff_ne.mpr c48
                                        have c48b1 : ((wrap64 (((rd_T66 t366 x8_2).f0.f0) - ((rd_T66 t366 (ji43)).f0.f0))) != a0_3) = true := bne_iff_ne.mpr c48
                                        obtain rfl := Option.some.inj H
                                        have p380 : 0 ≤ (x8_2 : Int) := of_decide_eq_true (by first | (with_reducible assumption) | assumption)
                                        have q380 : x8_2 < (t366.length : Int) := of_decide_eq_true (by first | (with_reducible assumption) | assumption)
                                        obtain ⟨ad380, e380, hx380_0, hx380_1, hx380_2, hx380_3, hx380_4, hx380_5⟩ := at_T66 (Kd.R_reads' HO_3.out).2.2 x8_2 p380 q380
                                        cases e380
                                        replace p380 := eq_true p380
                                        replace q380 := eq_true q380
                                        have p381 : 0 ≤ ((ji43) : Int) := of_decide_eq_true (by first | (with_reducible assumption) | assumption)
                                        have q381 : (ji43) < (t366.length : Int) := of_decide_eq_true (by first | (with_reducible assumption) | assumption)
                                        obtain ⟨ad381, e381, hx381_0, hx381_1, hx381_2, hx381_3, hx381_4, hx381_5⟩ := at_T66 (Kd.R_reads' HO_3.out).2.2 (ji43) p381 q381
                                        obtain rfl : ad380 = ad381 := (by injection e381)
                                        replace p381 := eq_true p381
                                        replace q381 := eq_true q381
                                        have p382 : 0 ≤ ((ji43) : Int) := of_decide_eq_true (by first | (with_reducible assumption) | assumption)
                                        have q382 : (ji43) < (t366.length : Int) := of_decide_eq_true (by first | (with_reducible assumption) | assumption)
                                        obtain ⟨ad382, e382, hx382_0, hx382_1, hx382_2, hx382_3, hx382_4, hx382_5⟩ := at_T66 (Kd.R_reads' HO_3.out).2.2 (ji43) p382 q382
                                        obtain rfl : ad380 = ad382 := (by injection e382)
                                        replace p382 := eq_true p382
                                        replace q382 := eq_true q382
                                        have p383 : 0 ≤ (x8_2 : Int) := of_decide_eq_true (by first | (with_reducible assumption) | assumption)
                                        have q383 : x8_2 < (t366.length : Int) := of_decide_eq_true (by first | (with_reducible assumption) | assumption)
                                        obtain ⟨ad383, e383, hx383_0, hx383_1, hx383_2, hx383_3, hx383_4, hx383_5⟩ := at_T66 (Kd.R_reads' HO_3.out).2.2 x8_2 p383 q383
                                        obtain rfl : ad380 = ad383 := (by injection e383)
                                        replace p383 := eq_true p383
                                        replace q383 := eq_true q383
                                        have hcz50_0 : wc.cell? ⟨gb364, 0, none⟩ = some (.int .i64 a0_0) := (blk_cell BK364.out 0).trans rfl
                                        have hcz50_1 : wc.cell? ⟨gb364, 1, none⟩ = some (.int .i64 a0_1) := (blk_cell BK364.out 1).trans rfl
                                        have hcz50_2 : wc.cell? ⟨gb364, 2, none⟩ = some (.int .i64 a0_2) := (blk_cell BK364.out 2).trans rfl
                                        have hcz50_3 : wc.cell? ⟨gb364, 3, none⟩ = some (.int .i64 a0_3) := (blk_cell BK364.out 3).trans rfl
                                        have hcz50_4 : wc.cell? ⟨gb364, 4, none⟩ = some (.int .i64 a0_4) := (blk_cell BK364.out 4).trans rfl
                                        have hcz50_5 : wc.cell? ⟨gb364, 5, none⟩ = some (.int .i64 a0_5) := (blk_cell BK364.out 5).trans rfl
                                        have hfz50_0 := blk_frozen BK364.out 0
                                        have hfz50_1 := blk_frozen BK364.out 1
                                        have hfz50_2 := blk_frozen BK364.out 2
                                        have hfz50_3 := blk_frozen BK364.out 3
                                        have hfz50_4 := blk_frozen BK364.out 4
                                        have hfz50_5 := blk_frozen BK364.out 5
                                        have p384 : 0 ≤ (x8_2 : Int) := of_decide_eq_true (by first | (with_reducible assumption) | assumption)
                                        have q384 : x8_2 < (t366.length : Int) := of_decide_eq_true (by first | (with_reducible assumption) | assumption)
                                        obtain ⟨ad384, e384, hx384_0, hx384_1, hx384_2, hx384_3, hx384_4, hx384_5⟩ := at_T66 (Kd.R_reads' HO_3.out).2.2 x8_2 p384 q384
                                        obtain rfl : ad380 = ad384 := (by injection e384)
                                        replace p384 := eq_true p384
                                        replace q384 := eq_true q384
                                        have p385 : 0 ≤ ((ji43) : Int) := of_decide_eq_true (by first | (with_reducible assumption) | assumption)
                                        have q385 : (ji43) < (t366.length : Int) := of_decide_eq_true (by first | (with_reducible assumption) | assumption)
                                        obtain ⟨ad385, e385, hx385_0, hx385_1, hx385_2, hx385_3, hx385_4, hx385_5⟩ := at_T66 (Kd.R_reads' HO_3.out).2.2 (ji43) p385 q385
                                        obtain rfl : ad380 = ad385 := (by injection e385)
                                        replace p385 := eq_true p385
                                        replace q385 := eq_true q385
                                        go_wp2
                                        repeat (go_quiet (fail); try go_wp2)
                                        go_ret
                                        exact ⟨by first | rfl | (simp [errW_none, errW_some] <;> rfl) | (simp only [← hji43]; first | rfl | (simp [errW_none, errW_some] <;> rfl)) | (simp [*, errW_none, errW_some] <;> rfl), by repeat (first | (with_reducible first | exact HB.out | apply below_alloc | apply pw_below_drewN | apply below_drew1 | refine below_set ?_ GE364.out) | exact HB.out)⟩
                                    · rw [if_neg c47] at H
                                      have c47b0 : ((wrap64 (((rd_T66 t366 (ji43)).f1.f0) - ((rd_T66 t366 x8_2).f0.f0))) == a0_5) = false := beq_eq_false_iff_ne.mpr c47
                                      have c47b1 : ((wrap64 (((rd_T66 t366 (ji43)).f1.f0) - ((rd_T66 t366 x8_2).f0.f0))) != a0_5) = true := bne_iff_ne.mpr c47
                                      obtain rfl := Option.some.inj H
                                      have p380 : 0 ≤ (x8_2 : Int) := of_decide_eq_true (by first | (with_reducible assumption) | assumption)
                                      have q380 : x8_2 < (t366.length : Int) := of_decide_eq_true (by first | (with_reducible assumption) | assumption)
                                      obtain ⟨ad380, e380, hx380_0, hx380_1, hx380_2, hx380_3, hx380_4, hx380_5⟩ := at_T66 (Kd.R_reads' HO_3.out).2.2 x8_2 p380 q380
                                      cases e380
                                      replace p380 := eq_true p380
                                      replace q380 := eq_true q380
                                      have p381 : 0 ≤ ((ji43) : Int) := of_decide_eq_true (by first | (with_reducible assumption) | assumption)
                                      have q381 : (ji43) < (t366.length : Int) := of_decide_eq_true (by first | (with_reducible assumption) | assumption)
                                      obtain ⟨ad381, e381, hx381_0, hx381_1, hx381_2, hx381_3, hx381_4, hx381_5⟩ := at_T66 (Kd.R_reads' HO_3.out).2.2 (ji43) p381 q381
                                      obtain rfl : ad380 = ad381 := (by injection e381)
                                      replace p381 := eq_true p381
                                      replace q381 := eq_true q381
                                      have p382 : 0 ≤ ((ji43) : Int) := of_decide_eq_true (by first | (with_reducible assumption) | assumption)
                                      have q382 : (ji43) < (t366.length : Int) := of_decide_eq_true (by first | (with_reducible assumption) | assumption)
                                      obtain ⟨ad382, e382, hx382_0, hx382_1, hx382_2, hx382_3, hx382_4, hx382_5⟩ := at_T66 (Kd.R_reads' HO_3.out).2.2 (ji43) p382 q382
                                      obtain rfl : ad380 = ad382 := (by injection e382)
                                      replace p382 := eq_true p382
                                      replace q382 := eq_true q382
                                      have p383 : 0 ≤ (x8_2 : Int) := of_decide_eq_true (by first | (with_reducible assumption) | assumption)
                                      have q383 : x8_2 < (t366.length : Int) := of_decide_eq_true (by first | (with_reducible assumption) | assumption)
                                      obtain ⟨ad383, e383, hx383_0, hx383_1, hx383_2, hx383_3, hx383_4, hx383_5⟩ := at_T66 (Kd.R_reads' HO_3.out).2.2 x8_2 p383 q383
                                      obtain rfl : ad380 = ad383 := (by injection e383)
                                      replace p383 := eq_true p383
                                      replace q383 := eq_true q383
                                      have hcz51_0 : wc.cell? ⟨gb364, 0, none⟩ = some (.int .i64 a0_0) := (blk_cell BK364.out 0).trans rfl
                                      have hcz51_1 : wc.cell? ⟨gb364, 1, none⟩ = some (.int .i64 a0_1) := (blk_cell BK364.out 1).trans rfl
                                      have hcz51_2 : wc.cell? ⟨gb364, 2, none⟩ = some (.int .i64 a0_2) := (blk_cell BK364.out 2).trans rfl
                                      have hcz51_3 : wc.cell? ⟨gb364, 3, none⟩ = some (.int .i64 a0_3) := (blk_cell BK364.out 3).trans rfl
                                      have hcz51_4 : wc.cell? ⟨gb364, 4, none⟩ = some (.int .i64 a0_4) := (blk_cell BK364.out 4).trans rfl
                                      have hcz51_5 : wc.cell? ⟨gb364, 5, none⟩ = some (.int .i64 a0_5) := (blk_cell BK364.out 5).trans rfl
                                      have hfz51_0 := blk_frozen BK364.out 0
                                      have hfz51_1 := blk_frozen BK364.out 1
                                      have hfz51_2 := blk_frozen BK364.out 2
                                      have hfz51_3 := blk_frozen BK364.out 3
                                      have hfz51_4 := blk_frozen BK364.out 4
                                      have hfz51_5 := blk_frozen BK364.out 5
                                      go_wp2
                                      repeat (go_quiet (fail); try go_wp2)
                                      go_ret
                                      exact ⟨by first | rfl | (simp [errW_none, errW_some] <;> rfl) | (simp only [← hji43]; first | rfl | (simp [errW_none, errW_some] <;> rfl)) | (simp [*, errW_none, errW_some] <;> rfl), by repeat (first | (with_reducible first | exact HB.out | apply below_alloc | apply pw_below_drewN | apply below_drew1 | refine below_set ?_ GE364.out) | exact HB.out)⟩
                                  · rw [if_neg c46] at H
                                    have c46b0 : (((rd_T66 t366 x8_2).f0.f2) == ((rd_T66 t366 (ji43)).f1.f2)) = false := beq_eq_false_iff_ne.mpr c46
                                    have c46b1 : (((rd_T66 t366 x8_2).f0.f2) != ((rd_T66 t366 (ji43)).f1.f2)) = true := bne_iff_ne.mpr c46
                                    obtain rfl := Option.some.inj H
                                    have p380 : 0 ≤ (x8_2 : Int) := of_decide_eq_true (by first | (with_reducible assumption) | assumption)
                                    have q380 : x8_2 < (t366.length : Int) := of_decide_eq_true (by first | (with_reducible assumption) | assumption)
                                    obtain ⟨ad380, e380, hx380_0, hx380_1, hx380_2, hx380_3, hx380_4, hx380_5⟩ := at_T66 (Kd.R_reads' HO_3.out).2.2 x8_2 p380 q380
                                    cases e380
                                    replace p380 := eq_true p380
                                    replace q380 := eq_true q380
                                    have p381 : 0 ≤ ((ji43) : Int) := of_decide_eq_true (by first | (with_reducible assumption) | assumption)
                                    have q381 : (ji43) < (t366.length : Int) := of_decide_eq_true (by first | (with_reducible assumption) | assumption)
                                    obtain ⟨ad381, e381, hx381_0, hx381_1, hx381_2, hx381_3, hx381_4, hx381_5⟩ := at_T66 (Kd.R_reads' HO_3.out).2.2 (ji43) p381 q381
                                    obtain rfl : ad380 = ad381 := (by injection e381)
                                    replace p381 := eq_true p381
                                    replace q381 := eq_true q381
                                    go_wp2
                                    repeat (go_quiet (fail); try go_wp2)
                                    go_ret
                                    exact ⟨by first | rfl | (simp [errW_none, errW_some] <;> rfl) | (simp only [← hji43]; first | rfl | (simp [errW_none, errW_some] <;> rfl)) | (simp [*, errW_none, errW_some] <;> rfl), by repeat (first | (with_reducible first | exact HB.out | apply below_alloc | apply pw_below_drewN | apply below_drew1 | refine below_set ?_ GE364.out) | exact HB.out)⟩
                                · rw [if_neg c45] at H
                                  exact absurd H (by simp)
                              · rw [if_neg c44] at H
                                exact absurd H (by simp)
                            · rw [if_neg c42] at H
                              exact absurd H (by simp)
                          · rw [if_neg c41] at H
                            exact absurd H (by simp)
                        · rw [if_neg c40] at H
                          have c40b0 : decide (0 < x8_2) = false := decide_eq_false c40
                          clear c40
                          have H' := Aside0.mk H
                          clear H
                          go_wp2
                          repeat (go_quiet (fail); try go_wp2)
                          go_roundg kj31
                          case measure => have := HJ6.out; have := HK2.out; have := HJ31.out; omega
                          case rel => exact ⟨(wrap64 (x8_2 + 1)), (by first | rfl | (simp; done) | (simp [*]; done)), H', ⟨by have := HJ6.out; have := HK2.out; have := HJ31.out; omega⟩, ⟨by (with_reducible repeat (first | apply Kd.R_alloc | apply Kd.R_drewN | apply Kd.R_drew)); exact HO_3.out⟩, ⟨by (with_reducible repeat (first | refine blk_drewN ?_ _ | refine blk_drew ?_ | refine blk_alloc ?_ _)); exact BK364.out⟩, ⟨by repeat (first | (with_reducible first | exact HB.out | apply below_alloc | apply pw_below_drewN | apply below_drew1 | refine below_set ?_ GE364.out) | exact HB.out)⟩⟩
                · rw [if_neg c31] at H
                  have c31b0 : decide (x8_2 < (t366.length : Int)) = false := decide_eq_false c31
                  clear c31
                  obtain rfl := Option.some.inj H
                  obtain ⟨Ao52, co52, eo52⟩ := Kd.R_slice HO_3.out
                  subst eo52
                  go_wp2
                  repeat (go_quiet (fail); try go_wp2)
                  go_ret
                  exact ⟨by first | rfl | (simp [errW_none, errW_some] <;> rfl) | (simp [*, errW_none, errW_some] <;> rfl), by repeat (first | (with_reducible first | exact HB.out | apply below_alloc | apply pw_below_drewN | apply below_drew1 | refine below_set ?_ GE364.out) | exact HB.out)⟩
    · rw [if_neg c5] at H
      have c5b0 : (t369 == 0) = false := beq_eq_false_iff_ne.mpr c5
      have c5b1 : (t369 != 0) = true := bne_iff_ne.mpr c5
      obtain rfl := Option.some.inj H
      go_enter Try.func8, Try.ntmps8
      go_wp2_with (first | ((with_reducible refine gate_dst (N := 1) rfl ?_); refine box_event ?hg (N := 1) ?hd (cs := #[.int .i64 a0_0, .int .i64 a0_1, .int .i64 a0_2, .int .i64 a0_3, .int .i64 a0_4, .int .i64 a0_5]) (t := 27) ?hr ?_; (case hd => rfl); (case hg => rfl); (case hr => first | (go_simp; done) | (go_simp; rfl)); intro gb364 hg w53 hbox hb; have n0_ := Aside0.mk (below_step (by repeat (first | (with_reducible first | exact HB.out | apply below_alloc | apply pw_below_drewN | apply below_drew1) | exact HB.out)) hb); have n1_ := Aside0.mk (hbox); have n2_ := Aside0.mk ((by rw [hg]; exact (below_size (by repeat (first | (with_reducible first | exact HB.out | apply below_alloc | apply pw_below_drewN | apply below_drew1) | exact HB.out))) : w.heap.size ≤ gb364)); have n3_ := Aside0.mk ((by rw [hg]; exact (below_size (by repeat (first | (with_reducible first | exact HB.out | apply below_alloc | apply pw_below_drewN | apply below_drew1) | exact HB.out))) : w.heap.size ≤ gb364)); clear HB; have HB := n0_; have BK364 := n1_; have GW364 := n2_; have GE364 := n3_; clear n0_ n1_ n2_ n3_; clear hb hbox hg) | (go_at_call 11; (with_reducible refine (gangsawlaw42_awake.calls k  true _ A2.out).mono ?_); rintro e w54 ⟨rfl, hb⟩; have n0_ := Aside0.mk (blk_below (g := gb364) (o := .cells #[.int .i64 a0_0, .int .i64 a0_1, .int .i64 a0_2, .int .i64 a0_3, .int .i64 a0_4, .int .i64 a0_5] 27 (0, 0)) (by (with_reducible repeat (first | refine blk_drewN ?_ _ | refine blk_drew ?_ | refine blk_alloc ?_ _)); exact BK364.out) hb); have n1_ := Aside0.mk (below_step (by repeat (first | (with_reducible first | exact HB.out | apply below_alloc | apply pw_below_drewN | apply below_drew1 | refine below_set ?_ GE364.out) | exact HB.out)) hb); clear BK364; clear HB; have BK364 := n0_; have HB := n1_; clear n0_ n1_; (try clear hb); (try clear hb2); (try clear hk); (try clear hi); have hcz55_0 : w54.cell? ⟨gb364, 0, none⟩ = some (.int .i64 a0_0) := (blk_cell BK364.out 0).trans rfl; have hcz55_1 : w54.cell? ⟨gb364, 1, none⟩ = some (.int .i64 a0_1) := (blk_cell BK364.out 1).trans rfl; have hcz55_2 : w54.cell? ⟨gb364, 2, none⟩ = some (.int .i64 a0_2) := (blk_cell BK364.out 2).trans rfl; have hcz55_3 : w54.cell? ⟨gb364, 3, none⟩ = some (.int .i64 a0_3) := (blk_cell BK364.out 3).trans rfl; have hcz55_4 : w54.cell? ⟨gb364, 4, none⟩ = some (.int .i64 a0_4) := (blk_cell BK364.out 4).trans rfl; have hcz55_5 : w54.cell? ⟨gb364, 5, none⟩ = some (.int .i64 a0_5) := (blk_cell BK364.out 5).trans rfl; have hfz55_0 := blk_frozen BK364.out 0; have hfz55_1 := blk_frozen BK364.out 1; have hfz55_2 := blk_frozen BK364.out 2; have hfz55_3 := blk_frozen BK364.out 3; have hfz55_4 := blk_frozen BK364.out 4; have hfz55_5 := blk_frozen BK364.out 5) | (go_at_call 22; (with_reducible refine (stair_Stones.calls k a0_0 a0_1 a0_2 a0_3 a0_4 a0_5 t366 t369 _ A4.out).mono ?_); rintro e w56 ⟨v367, rfl, ho0, hb⟩; have n0_ := Aside0.mk (Kd.R_lower ho0 (below_size (by repeat (first | (with_reducible first | exact HB.out | apply below_alloc | apply pw_below_drewN | apply below_drew1 | refine below_set ?_ GE364.out) | exact HB.out)))); have n1_ := Aside0.mk (blk_below (g := gb364) (o := .cells #[.int .i64 a0_0, .int .i64 a0_1, .int .i64 a0_2, .int .i64 a0_3, .int .i64 a0_4, .int .i64 a0_5] 27 (0, 0)) (by (with_reducible repeat (first | refine blk_drewN ?_ _ | refine blk_drew ?_ | refine blk_alloc ?_ _)); exact BK364.out) hb); have n2_ := Aside0.mk (below_step (by repeat (first | (with_reducible first | exact HB.out | apply below_alloc | apply pw_below_drewN | apply below_drew1 | refine below_set ?_ GE364.out) | exact HB.out)) hb); clear BK364; clear HB; have HO368 := n0_; have BK364 := n1_; have HB := n2_; clear n0_ n1_ n2_; (try clear hb); (try clear hb2); (try clear hk); (try clear hi); (try clear ho0); obtain ⟨Ao57, co57, eo57⟩ := Kd.R_slice HO368.out; subst eo57))
      repeat (go_quiet (first | ((with_reducible refine gate_dst (N := 1) rfl ?_); refine box_event ?hg (N := 1) ?hd (cs := #[.int .i64 a0_0, .int .i64 a0_1, .int .i64 a0_2, .int .i64 a0_3, .int .i64 a0_4, .int .i64 a0_5]) (t := 27) ?hr ?_; (case hd => rfl); (case hg => rfl); (case hr => first | (go_simp; done) | (go_simp; rfl)); intro gb364 hg w53 hbox hb; have n0_ := Aside0.mk (below_step (by repeat (first | (with_reducible first | exact HB.out | apply below_alloc | apply pw_below_drewN | apply below_drew1) | exact HB.out)) hb); have n1_ := Aside0.mk (hbox); have n2_ := Aside0.mk ((by rw [hg]; exact (below_size (by repeat (first | (with_reducible first | exact HB.out | apply below_alloc | apply pw_below_drewN | apply below_drew1) | exact HB.out))) : w.heap.size ≤ gb364)); have n3_ := Aside0.mk ((by rw [hg]; exact (below_size (by repeat (first | (with_reducible first | exact HB.out | apply below_alloc | apply pw_below_drewN | apply below_drew1) | exact HB.out))) : w.heap.size ≤ gb364)); clear HB; have HB := n0_; have BK364 := n1_; have GW364 := n2_; have GE364 := n3_; clear n0_ n1_ n2_ n3_; clear hb hbox hg) | (go_at_call 11; (with_reducible refine (gangsawlaw42_awake.calls k  true _ A2.out).mono ?_); rintro e w54 ⟨rfl, hb⟩; have n0_ := Aside0.mk (blk_below (g := gb364) (o := .cells #[.int .i64 a0_0, .int .i64 a0_1, .int .i64 a0_2, .int .i64 a0_3, .int .i64 a0_4, .int .i64 a0_5] 27 (0, 0)) (by (with_reducible repeat (first | refine blk_drewN ?_ _ | refine blk_drew ?_ | refine blk_alloc ?_ _)); exact BK364.out) hb); have n1_ := Aside0.mk (below_step (by repeat (first | (with_reducible first | exact HB.out | apply below_alloc | apply pw_below_drewN | apply below_drew1 | refine below_set ?_ GE364.out) | exact HB.out)) hb); clear BK364; clear HB; have BK364 := n0_; have HB := n1_; clear n0_ n1_; (try clear hb); (try clear hb2); (try clear hk); (try clear hi); have hcz55_0 : w54.cell? ⟨gb364, 0, none⟩ = some (.int .i64 a0_0) := (blk_cell BK364.out 0).trans rfl; have hcz55_1 : w54.cell? ⟨gb364, 1, none⟩ = some (.int .i64 a0_1) := (blk_cell BK364.out 1).trans rfl; have hcz55_2 : w54.cell? ⟨gb364, 2, none⟩ = some (.int .i64 a0_2) := (blk_cell BK364.out 2).trans rfl; have hcz55_3 : w54.cell? ⟨gb364, 3, none⟩ = some (.int .i64 a0_3) := (blk_cell BK364.out 3).trans rfl; have hcz55_4 : w54.cell? ⟨gb364, 4, none⟩ = some (.int .i64 a0_4) := (blk_cell BK364.out 4).trans rfl; have hcz55_5 : w54.cell? ⟨gb364, 5, none⟩ = some (.int .i64 a0_5) := (blk_cell BK364.out 5).trans rfl; have hfz55_0 := blk_frozen BK364.out 0; have hfz55_1 := blk_frozen BK364.out 1; have hfz55_2 := blk_frozen BK364.out 2; have hfz55_3 := blk_frozen BK364.out 3; have hfz55_4 := blk_frozen BK364.out 4; have hfz55_5 := blk_frozen BK364.out 5) | (go_at_call 22; (with_reducible refine (stair_Stones.calls k a0_0 a0_1 a0_2 a0_3 a0_4 a0_5 t366 t369 _ A4.out).mono ?_); rintro e w56 ⟨v367, rfl, ho0, hb⟩; have n0_ := Aside0.mk (Kd.R_lower ho0 (below_size (by repeat (first | (with_reducible first | exact HB.out | apply below_alloc | apply pw_below_drewN | apply below_drew1 | refine below_set ?_ GE364.out) | exact HB.out)))); have n1_ := Aside0.mk (blk_below (g := gb364) (o := .cells #[.int .i64 a0_0, .int .i64 a0_1, .int .i64 a0_2, .int .i64 a0_3, .int .i64 a0_4, .int .i64 a0_5] 27 (0, 0)) (by (with_reducible repeat (first | refine blk_drewN ?_ _ | refine blk_drew ?_ | refine blk_alloc ?_ _)); exact BK364.out) hb); have n2_ := Aside0.mk (below_step (by repeat (first | (with_reducible first | exact HB.out | apply below_alloc | apply pw_below_drewN | apply below_drew1 | refine below_set ?_ GE364.out) | exact HB.out)) hb); clear BK364; clear HB; have HO368 := n0_; have BK364 := n1_; have HB := n2_; clear n0_ n1_ n2_; (try clear hb); (try clear hb2); (try clear hk); (try clear hi); (try clear ho0); obtain ⟨Ao57, co57, eo57⟩ := Kd.R_slice HO368.out; subst eo57)); try go_wp2_with (first | ((with_reducible refine gate_dst (N := 1) rfl ?_); refine box_event ?hg (N := 1) ?hd (cs := #[.int .i64 a0_0, .int .i64 a0_1, .int .i64 a0_2, .int .i64 a0_3, .int .i64 a0_4, .int .i64 a0_5]) (t := 27) ?hr ?_; (case hd => rfl); (case hg => rfl); (case hr => first | (go_simp; done) | (go_simp; rfl)); intro gb364 hg w53 hbox hb; have n0_ := Aside0.mk (below_step (by repeat (first | (with_reducible first | exact HB.out | apply below_alloc | apply pw_below_drewN | apply below_drew1) | exact HB.out)) hb); have n1_ := Aside0.mk (hbox); have n2_ := Aside0.mk ((by rw [hg]; exact (below_size (by repeat (first | (with_reducible first | exact HB.out | apply below_alloc | apply pw_below_drewN | apply below_drew1) | exact HB.out))) : w.heap.size ≤ gb364)); have n3_ := Aside0.mk ((by rw [hg]; exact (below_size (by repeat (first | (with_reducible first | exact HB.out | apply below_alloc | apply pw_below_drewN | apply below_drew1) | exact HB.out))) : w.heap.size ≤ gb364)); clear HB; have HB := n0_; have BK364 := n1_; have GW364 := n2_; have GE364 := n3_; clear n0_ n1_ n2_ n3_; clear hb hbox hg) | (go_at_call 11; (with_reducible refine (gangsawlaw42_awake.calls k  true _ A2.out).mono ?_); rintro e w54 ⟨rfl, hb⟩; have n0_ := Aside0.mk (blk_below (g := gb364) (o := .cells #[.int .i64 a0_0, .int .i64 a0_1, .int .i64 a0_2, .int .i64 a0_3, .int .i64 a0_4, .int .i64 a0_5] 27 (0, 0)) (by (with_reducible repeat (first | refine blk_drewN ?_ _ | refine blk_drew ?_ | refine blk_alloc ?_ _)); exact BK364.out) hb); have n1_ := Aside0.mk (below_step (by repeat (first | (with_reducible first | exact HB.out | apply below_alloc | apply pw_below_drewN | apply below_drew1 | refine below_set ?_ GE364.out) | exact HB.out)) hb); clear BK364; clear HB; have BK364 := n0_; have HB := n1_; clear n0_ n1_; (try clear hb); (try clear hb2); (try clear hk); (try clear hi); have hcz55_0 : w54.cell? ⟨gb364, 0, none⟩ = some (.int .i64 a0_0) := (blk_cell BK364.out 0).trans rfl; have hcz55_1 : w54.cell? ⟨gb364, 1, none⟩ = some (.int .i64 a0_1) := (blk_cell BK364.out 1).trans rfl; have hcz55_2 : w54.cell? ⟨gb364, 2, none⟩ = some (.int .i64 a0_2) := (blk_cell BK364.out 2).trans rfl; have hcz55_3 : w54.cell? ⟨gb364, 3, none⟩ = some (.int .i64 a0_3) := (blk_cell BK364.out 3).trans rfl; have hcz55_4 : w54.cell? ⟨gb364, 4, none⟩ = some (.int .i64 a0_4) := (blk_cell BK364.out 4).trans rfl; have hcz55_5 : w54.cell? ⟨gb364, 5, none⟩ = some (.int .i64 a0_5) := (blk_cell BK364.out 5).trans rfl; have hfz55_0 := blk_frozen BK364.out 0; have hfz55_1 := blk_frozen BK364.out 1; have hfz55_2 := blk_frozen BK364.out 2; have hfz55_3 := blk_frozen BK364.out 3; have hfz55_4 := blk_frozen BK364.out 4; have hfz55_5 := blk_frozen BK364.out 5) | (go_at_call 22; (with_reducible refine (stair_Stones.calls k a0_0 a0_1 a0_2 a0_3 a0_4 a0_5 t366 t369 _ A4.out).mono ?_); rintro e w56 ⟨v367, rfl, ho0, hb⟩; have n0_ := Aside0.mk (Kd.R_lower ho0 (below_size (by repeat (first | (with_reducible first | exact HB.out | apply below_alloc | apply pw_below_drewN | apply below_drew1 | refine below_set ?_ GE364.out) | exact HB.out)))); have n1_ := Aside0.mk (blk_below (g := gb364) (o := .cells #[.int .i64 a0_0, .int .i64 a0_1, .int .i64 a0_2, .int .i64 a0_3, .int .i64 a0_4, .int .i64 a0_5] 27 (0, 0)) (by (with_reducible repeat (first | refine blk_drewN ?_ _ | refine blk_drew ?_ | refine blk_alloc ?_ _)); exact BK364.out) hb); have n2_ := Aside0.mk (below_step (by repeat (first | (with_reducible first | exact HB.out | apply below_alloc | apply pw_below_drewN | apply below_drew1 | refine below_set ?_ GE364.out) | exact HB.out)) hb); clear BK364; clear HB; have HO368 := n0_; have BK364 := n1_; have HB := n2_; clear n0_ n1_ n2_; (try clear hb); (try clear hb2); (try clear hk); (try clear hi); (try clear ho0); obtain ⟨Ao57, co57, eo57⟩ := Kd.R_slice HO368.out; subst eo57)))
      go_ret
      exact ⟨by first | rfl | (simp [errW_none, errW_some] <;> rfl) | (simp [*, errW_none, errW_some] <;> rfl), by repeat (first | (with_reducible first | exact HB.out | apply below_alloc | apply pw_below_drewN | apply below_drew1 | refine below_set ?_ GE364.out) | exact HB.out)⟩
  · replace c3 := Bool.eq_false_iff.mpr c3
    subst c3
    have H1 : (some false) = some r := by rw [if_neg (show ¬ (false = true) by decide)] at H; exact H
    clear H
    have H := H1
    clear H1
    obtain rfl := Option.some.inj H
    go_enter Try.func8, Try.ntmps8
    go_wp2_with (first | ((with_reducible refine gate_dst (N := 1) rfl ?_); refine box_event ?hg (N := 1) ?hd (cs := #[.int .i64 a0_0, .int .i64 a0_1, .int .i64 a0_2, .int .i64 a0_3, .int .i64 a0_4, .int .i64 a0_5]) (t := 27) ?hr ?_; (case hd => rfl); (case hg => rfl); (case hr => first | (go_simp; done) | (go_simp; rfl)); intro gb364 hg w58 hbox hb; have n0_ := Aside0.mk (below_step (by repeat (first | (with_reducible first | exact HB.out | apply below_alloc | apply pw_below_drewN | apply below_drew1) | exact HB.out)) hb); have n1_ := Aside0.mk (hbox); have n2_ := Aside0.mk ((by rw [hg]; exact (below_size (by repeat (first | (with_reducible first | exact HB.out | apply below_alloc | apply pw_below_drewN | apply below_drew1) | exact HB.out))) : w.heap.size ≤ gb364)); have n3_ := Aside0.mk ((by rw [hg]; exact (below_size (by repeat (first | (with_reducible first | exact HB.out | apply below_alloc | apply pw_below_drewN | apply below_drew1) | exact HB.out))) : w.heap.size ≤ gb364)); clear HB; have HB := n0_; have BK364 := n1_; have GW364 := n2_; have GE364 := n3_; clear n0_ n1_ n2_ n3_; clear hb hbox hg) | (go_at_call 11; (with_reducible refine (gangsawlaw42_awake.calls k  false _ A2.out).mono ?_); rintro e w59 ⟨rfl, hb⟩; have n0_ := Aside0.mk (blk_below (g := gb364) (o := .cells #[.int .i64 a0_0, .int .i64 a0_1, .int .i64 a0_2, .int .i64 a0_3, .int .i64 a0_4, .int .i64 a0_5] 27 (0, 0)) (by (with_reducible repeat (first | refine blk_drewN ?_ _ | refine blk_drew ?_ | refine blk_alloc ?_ _)); exact BK364.out) hb); have n1_ := Aside0.mk (below_step (by repeat (first | (with_reducible first | exact HB.out | apply below_alloc | apply pw_below_drewN | apply below_drew1 | refine below_set ?_ GE364.out) | exact HB.out)) hb); clear BK364; clear HB; have BK364 := n0_; have HB := n1_; clear n0_ n1_; (try clear hb); (try clear hb2); (try clear hk); (try clear hi)))
    repeat (go_quiet (first | ((with_reducible refine gate_dst (N := 1) rfl ?_); refine box_event ?hg (N := 1) ?hd (cs := #[.int .i64 a0_0, .int .i64 a0_1, .int .i64 a0_2, .int .i64 a0_3, .int .i64 a0_4, .int .i64 a0_5]) (t := 27) ?hr ?_; (case hd => rfl); (case hg => rfl); (case hr => first | (go_simp; done) | (go_simp; rfl)); intro gb364 hg w58 hbox hb; have n0_ := Aside0.mk (below_step (by repeat (first | (with_reducible first | exact HB.out | apply below_alloc | apply pw_below_drewN | apply below_drew1) | exact HB.out)) hb); have n1_ := Aside0.mk (hbox); have n2_ := Aside0.mk ((by rw [hg]; exact (below_size (by repeat (first | (with_reducible first | exact HB.out | apply below_alloc | apply pw_below_drewN | apply below_drew1) | exact HB.out))) : w.heap.size ≤ gb364)); have n3_ := Aside0.mk ((by rw [hg]; exact (below_size (by repeat (first | (with_reducible first | exact HB.out | apply below_alloc | apply pw_below_drewN | apply below_drew1) | exact HB.out))) : w.heap.size ≤ gb364)); clear HB; have HB := n0_; have BK364 := n1_; have GW364 := n2_; have GE364 := n3_; clear n0_ n1_ n2_ n3_; clear hb hbox hg) | (go_at_call 11; (with_reducible refine (gangsawlaw42_awake.calls k  false _ A2.out).mono ?_); rintro e w59 ⟨rfl, hb⟩; have n0_ := Aside0.mk (blk_below (g := gb364) (o := .cells #[.int .i64 a0_0, .int .i64 a0_1, .int .i64 a0_2, .int .i64 a0_3, .int .i64 a0_4, .int .i64 a0_5] 27 (0, 0)) (by (with_reducible repeat (first | refine blk_drewN ?_ _ | refine blk_drew ?_ | refine blk_alloc ?_ _)); exact BK364.out) hb); have n1_ := Aside0.mk (below_step (by repeat (first | (with_reducible first | exact HB.out | apply below_alloc | apply pw_below_drewN | apply below_drew1 | refine below_set ?_ GE364.out) | exact HB.out)) hb); clear BK364; clear HB; have BK364 := n0_; have HB := n1_; clear n0_ n1_; (try clear hb); (try clear hb2); (try clear hk); (try clear hi))); try go_wp2_with (first | ((with_reducible refine gate_dst (N := 1) rfl ?_); refine box_event ?hg (N := 1) ?hd (cs := #[.int .i64 a0_0, .int .i64 a0_1, .int .i64 a0_2, .int .i64 a0_3, .int .i64 a0_4, .int .i64 a0_5]) (t := 27) ?hr ?_; (case hd => rfl); (case hg => rfl); (case hr => first | (go_simp; done) | (go_simp; rfl)); intro gb364 hg w58 hbox hb; have n0_ := Aside0.mk (below_step (by repeat (first | (with_reducible first | exact HB.out | apply below_alloc | apply pw_below_drewN | apply below_drew1) | exact HB.out)) hb); have n1_ := Aside0.mk (hbox); have n2_ := Aside0.mk ((by rw [hg]; exact (below_size (by repeat (first | (with_reducible first | exact HB.out | apply below_alloc | apply pw_below_drewN | apply below_drew1) | exact HB.out))) : w.heap.size ≤ gb364)); have n3_ := Aside0.mk ((by rw [hg]; exact (below_size (by repeat (first | (with_reducible first | exact HB.out | apply below_alloc | apply pw_below_drewN | apply below_drew1) | exact HB.out))) : w.heap.size ≤ gb364)); clear HB; have HB := n0_; have BK364 := n1_; have GW364 := n2_; have GE364 := n3_; clear n0_ n1_ n2_ n3_; clear hb hbox hg) | (go_at_call 11; (with_reducible refine (gangsawlaw42_awake.calls k  false _ A2.out).mono ?_); rintro e w59 ⟨rfl, hb⟩; have n0_ := Aside0.mk (blk_below (g := gb364) (o := .cells #[.int .i64 a0_0, .int .i64 a0_1, .int .i64 a0_2, .int .i64 a0_3, .int .i64 a0_4, .int .i64 a0_5] 27 (0, 0)) (by (with_reducible repeat (first | refine blk_drewN ?_ _ | refine blk_drew ?_ | refine blk_alloc ?_ _)); exact BK364.out) hb); have n1_ := Aside0.mk (below_step (by repeat (first | (with_reducible first | exact HB.out | apply below_alloc | apply pw_below_drewN | apply below_drew1 | refine below_set ?_ GE364.out) | exact HB.out)) hb); clear BK364; clear HB; have BK364 := n0_; have HB := n1_; clear n0_ n1_; (try clear hb); (try clear hb2); (try clear hk); (try clear hi))))
    go_ret
    exact ⟨by first | rfl | (simp [errW_none, errW_some] <;> rfl) | (simp [*, errW_none, errW_some] <;> rfl), by repeat (first | (with_reducible first | exact HB.out | apply below_alloc | apply pw_below_drewN | apply below_drew1 | refine below_set ?_ GE364.out) | exact HB.out)⟩

/-- THE ONE PURE STATEMENT of gangsawlaw42_StairLies. -/
def gangsawlaw42_StairLies.Pure : Prop := ∀ (a0_0 : Int) (a0_1 : Int) (a0_2 : Int) (a0_3 : Int) (a0_4 : Int) (a0_5 : Int), g27 ((⟨a0_0, a0_1, a0_2, a0_3, a0_4, a0_5⟩ : S27)) → ∃ k, gangsawlaw42_StairLies.f k a0_0 a0_1 a0_2 a0_3 a0_4 a0_5 = some true
theorem gangsawlaw42_StairLies.walk (P : gangsawlaw42_StairLies.Pure) (a0_0 : Int) (a0_1 : Int) (a0_2 : Int) (a0_3 : Int) (a0_4 : Int) (a0_5 : Int) (w : World) (w0 : g27 ((⟨a0_0, a0_1, a0_2, a0_3, a0_4, a0_5⟩ : S27))) :
    Calls Try.prog 8 #[.agg #[.int .i64 a0_0, .int .i64 a0_1, .int .i64 a0_2, .int .i64 a0_3, .int .i64 a0_4, .int .i64 a0_5]] w fun e w' => e = .returned (.bool true) ∧ Below w.heap.size w w' := by
  obtain ⟨k, h⟩ := P a0_0 a0_1 a0_2 a0_3 a0_4 a0_5 w0
  refine (gangsawlaw42_StairLies.calls k a0_0 a0_1 a0_2 a0_3 a0_4 a0_5 true w h).mono ?_
  rintro e w' ⟨rfl, hd⟩
  exact ⟨rfl, hd⟩

end Go.Proofs.Ytaainbbkengjfaa.XA
