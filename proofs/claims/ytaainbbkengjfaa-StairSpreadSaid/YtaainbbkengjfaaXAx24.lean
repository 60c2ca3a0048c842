-- written by xprint.py, this project's own program (wip/), over the words of print.sh
import Derived.Test.YtaainbbkengjfaaXAx0
import Derived.Test.YtaainbbkengjfaaXAx6
import Derived.Test.YtaainbbkengjfaaXAx9
import Derived.Test.YtaainbbkengjfaaXAx11
import Derived.Test.YtaainbbkengjfaaXAx12
namespace Go.Proofs.Ytaainbbkengjfaa.XA
open Go.RowKit Go.Proofs.Ytaainbbkengjfaa.Opens Go.Proofs.YtaainbbkengjfaaW.PrintWords Go.Proofs.YtaainbbkengjfaaW.PrintLast Go.Proofs.YtaainbbkengjfaaW.PrintMore
attribute [local go_sem] max2_int min2_int max_two min_two max_three min_three max_four min_four   -- for this text's walks alone
set_option linter.unusedVariables false
set_option linter.unusedSimpArgs false

/-! ### gangsawlaw42_StairSpread: function 10 -/
mutual
def gangsawlaw42_StairSpread.j0 : Nat → Int → List Int → Int → Bool → Int → Int → Int → Int → Int → Int → Int → Int → Option (Bool)
  | 0, _, _, _, _, _, _, _, _, _, _, _, _ => none
  | k + 1, x1, x2, x9, x37, x402000, x402001, x402002, x402003, x402004, x402005, x407000, x407001 => if x37 = true then (some true) else (if x407000 = (wrap64 (x9 - (wrap64 (x402000 * x1)))) then (if x407001 = (wrap64 (x9 + (wrap64 (x402000 * x1)))) then (gangsawlaw42_StairSpread.j1 k x1 x2 x9 ((x2.length : Int) != x402000) x402000 x402001 x402002 x402003 x402004 x402005 x407000 x407001) else (gangsawlaw42_StairSpread.j1 k x1 x2 x9 true x402000 x402001 x402002 x402003 x402004 x402005 x407000 x407001)) else (gangsawlaw42_StairSpread.j1 k x1 x2 x9 true x402000 x402001 x402002 x402003 x402004 x402005 x407000 x407001))
def gangsawlaw42_StairSpread.j1 : Nat → Int → List Int → Int → Bool → Int → Int → Int → Int → Int → Int → Int → Int → Option (Bool)
  | 0, _, _, _, _, _, _, _, _, _, _, _, _ => none
  | k + 1, x1, x2, x9, x64, x402000, x402001, x402002, x402003, x402004, x402005, x407000, x407001 => if x64 = true then (if x407000 = (wrap64 (x9 - (wrap64 (x402000 * x1)))) then (some (x407001 == (wrap64 (x9 + (wrap64 (x402000 * x1)))))) else (some false)) else (gangsawlaw42_StairSpread.l0 k x1 x2 x9 0 x407000 x407001)
def gangsawlaw42_StairSpread.l0 : Nat → Int → List Int → Int → Int → Int → Int → Option (Bool)
  | 0, _, _, _, _, _, _ => none
  | k + 1, x1, x2, x9, x12, x407000, x407001 => if x12 < (x2.length : Int) then (if 0 ≤ x12 then (if (rd x2 x12) < (wrap64 (-x1)) then (some true) else (if (rd x2 x12) > x1 then (some true) else (gangsawlaw42_StairSpread.l0 k x1 x2 (wrap64 (x9 + (rd x2 x12))) (wrap64 (x12 + 1)) x407000 x407001))) else (none)) else (if x407000 ≤ x9 then (some (decide (x9 ≤ x407001))) else (some false))
end
def gangsawlaw42_StairSpread.f (k : Nat) (a0_0 : Int) (a0_1 : Int) (a0_2 : Int) (a0_3 : Int) (a0_4 : Int) (a0_5 : Int) (a1 : Int) (l2 : List Int) : Option (Bool) := (gangsawlaw42_awake.f k).bind fun t402 => (if t402 = true then ((stair_Spread.f a0_0 a0_1 a0_2 a0_3 a0_4 a0_5 a1).bind fun bt403 => ((stair_Height.f a0_0 a0_1 a0_2 a0_3 a0_4 a0_5).bind fun bt407 => (if bt403.2.2 = 0 then (if bt407.2.2 = 0 then (gangsawlaw42_StairSpread.j0 k a1 l2 bt407.1 (decide ((l2.length : Int) > 64)) a0_0 a0_1 a0_2 a0_3 a0_4 a0_5 bt403.1 bt403.2.1) else (gangsawlaw42_StairSpread.j0 k a1 l2 bt407.1 true a0_0 a0_1 a0_2 a0_3 a0_4 a0_5 bt403.1 bt403.2.1)) else (gangsawlaw42_StairSpread.j0 k a1 l2 bt407.1 true a0_0 a0_1 a0_2 a0_3 a0_4 a0_5 bt403.1 bt403.2.1)))) else (some false))
theorem gangsawlaw42_StairSpread.mono_l : ∀ k, (∀ y0 y1 y2 y3 y4 y5 y6 y7 y8 y9 y10 y11, LeO (gangsawlaw42_StairSpread.j0 k y0 y1 y2 y3 y4 y5 y6 y7 y8 y9 y10 y11) (gangsawlaw42_StairSpread.j0 (k + 1) y0 y1 y2 y3 y4 y5 y6 y7 y8 y9 y10 y11)) ∧ (∀ y0 y1 y2 y3 y4 y5 y6 y7 y8 y9 y10 y11, LeO (gangsawlaw42_StairSpread.j1 k y0 y1 y2 y3 y4 y5 y6 y7 y8 y9 y10 y11) (gangsawlaw42_StairSpread.j1 (k + 1) y0 y1 y2 y3 y4 y5 y6 y7 y8 y9 y10 y11)) ∧ (∀ y0 y1 y2 y3 y4 y5, LeO (gangsawlaw42_StairSpread.l0 k y0 y1 y2 y3 y4 y5) (gangsawlaw42_StairSpread.l0 (k + 1) y0 y1 y2 y3 y4 y5))
  | 0 => ⟨fun _ _ _ _ _ _ _ _ _ _ _ _ r h => by simp [gangsawlaw42_StairSpread.j0] at h, fun _ _ _ _ _ _ _ _ _ _ _ _ r h => by simp [gangsawlaw42_StairSpread.j1] at h, fun _ _ _ _ _ _ r h => by simp [gangsawlaw42_StairSpread.l0] at h⟩
  | k + 1 => by
    obtain ⟨ih0, ih1, ih2⟩ := gangsawlaw42_StairSpread.mono_l k
    refine ⟨?_, ?_, ?_⟩
    · intro y0 y1 y2 y3 y4 y5 y6 y7 y8 y9 y10 y11
      unfold gangsawlaw42_StairSpread.j0
      repeat' first
      | (with_reducible exact ih0 _ _ _ _ _ _ _ _ _ _ _ _)
      | (with_reducible exact ih1 _ _ _ _ _ _ _ _ _ _ _ _)
      | (with_reducible exact ih2 _ _ _ _ _ _)
      | (with_reducible exact gangsawlaw42_awake.mono _)
      | (with_reducible exact LeO.refl _)
      | (with_reducible exact LeO.none _)
      | (with_reducible refine LeO.ite ?_ ?_)
      | (with_reducible refine LeO.bind ?_ (fun _ => ?_))
      | exact ih0 _ _ _ _ _ _ _ _ _ _ _ _
      | exact ih1 _ _ _ _ _ _ _ _ _ _ _ _
      | exact ih2 _ _ _ _ _ _
      | exact gangsawlaw42_awake.mono _
      | exact LeO.none _
      | refine LeO.ite ?_ ?_
      | refine LeO.bind ?_ (fun _ => ?_)
    · intro y0 y1 y2 y3 y4 y5 y6 y7 y8 y9 y10 y11
      unfold gangsawlaw42_StairSpread.j1
      repeat' first
      | (with_reducible exact ih0 _ _ _ _ _ _ _ _ _ _ _ _)
      | (with_reducible exact ih1 _ _ _ _ _ _ _ _ _ _ _ _)
      | (with_reducible exact ih2 _ _ _ _ _ _)
      | (with_reducible exact gangsawlaw42_awake.mono _)
      | (with_reducible exact LeO.refl _)
      | (with_reducible exact LeO.none _)
      | (with_reducible refine LeO.ite ?_ ?_)
      | (with_reducible refine LeO.bind ?_ (fun _ => ?_))
      | exact ih0 _ _ _ _ _ _ _ _ _ _ _ _
      | exact ih1 _ _ _ _ _ _ _ _ _ _ _ _
      | exact ih2 _ _ _ _ _ _
      | exact gangsawlaw42_awake.mono _
      | exact LeO.none _
      | refine LeO.ite ?_ ?_
      | refine LeO.bind ?_ (fun _ => ?_)
    · intro y0 y1 y2 y3 y4 y5
      unfold gangsawlaw42_StairSpread.l0
      repeat' first
      | (with_reducible exact ih0 _ _ _ _ _ _ _ _ _ _ _ _)
      | (with_reducible exact ih1 _ _ _ _ _ _ _ _ _ _ _ _)
      | (with_reducible exact ih2 _ _ _ _ _ _)
      | (with_reducible exact gangsawlaw42_awake.mono _)
      | (with_reducible exact LeO.refl _)
      | (with_reducible exact LeO.none _)
      | (with_reducible refine LeO.ite ?_ ?_)
      | (with_reducible refine LeO.bind ?_ (fun _ => ?_))
      | exact ih0 _ _ _ _ _ _ _ _ _ _ _ _
      | exact ih1 _ _ _ _ _ _ _ _ _ _ _ _
      | exact ih2 _ _ _ _ _ _
      | exact gangsawlaw42_awake.mono _
      | exact LeO.none _
      | refine LeO.ite ?_ ?_
      | refine LeO.bind ?_ (fun _ => ?_)
theorem gangsawlaw42_StairSpread.mono : ∀ a0 a1 a2 a3 a4 a5 a6 a7 k, LeO (gangsawlaw42_StairSpread.f k a0 a1 a2 a3 a4 a5 a6 a7) (gangsawlaw42_StairSpread.f (k + 1) a0 a1 a2 a3 a4 a5 a6 a7) := by
  intro a0 a1 a2 a3 a4 a5 a6 a7 k
  obtain ⟨ih0, ih1, ih2⟩ := gangsawlaw42_StairSpread.mono_l k
  unfold gangsawlaw42_StairSpread.f
  repeat' first
      | (with_reducible exact ih0 _ _ _ _ _ _ _ _ _ _ _ _)
      | (with_reducible exact ih1 _ _ _ _ _ _ _ _ _ _ _ _)
      | (with_reducible exact ih2 _ _ _ _ _ _)
      | (with_reducible exact gangsawlaw42_awake.mono _)
      | (with_reducible exact LeO.refl _)
      | (with_reducible exact LeO.none _)
      | (with_reducible refine LeO.ite ?_ ?_)
      | (with_reducible refine LeO.bind ?_ (fun _ => ?_))
      | exact ih0 _ _ _ _ _ _ _ _ _ _ _ _
      | exact ih1 _ _ _ _ _ _ _ _ _ _ _ _
      | exact ih2 _ _ _ _ _ _
      | exact gangsawlaw42_awake.mono _
      | exact LeO.none _
      | refine LeO.ite ?_ ?_
      | refine LeO.bind ?_ (fun _ => ?_)
set_option maxHeartbeats 8000000 in
set_option maxRecDepth 100000 in
theorem gangsawlaw42_StairSpread.calls (k : Nat) (a0_0 : Int) (a0_1 : Int) (a0_2 : Int) (a0_3 : Int) (a0_4 : Int) (a0_5 : Int) (a1 : Int) (A2 : Option Addr) (c2 : Nat) (l2 : List Int) (r : Bool) (w : World) (hr2 : Kd.C (Kd.int .i64) w A2 l2.length l2) (hc2 : l2.length ≤ c2) (h : gangsawlaw42_StairSpread.f k a0_0 a0_1 a0_2 a0_3 a0_4 a0_5 a1 l2 = some r) :
    Calls Try.prog 10 #[.agg #[.int .i64 a0_0, .int .i64 a0_1, .int .i64 a0_2, .int .i64 a0_3, .int .i64 a0_4, .int .i64 a0_5], .int .i64 a1, .slice A2 l2.length c2] w fun e w' => e = .returned (.bool r) ∧ Below w.heap.size w w' := by
  have hu27 := Try.underlying27
  have hu23 := Try.underlying23
  have HR2 := Aside0.mk hr2
  have HC2 := Aside0.mk hc2
  clear hr2 hc2
  have HB := Aside0.mk (Below.refl w.heap.size w)
  have H : ((gangsawlaw42_awake.f k).bind fun t402 => (if t402 = true then ((stair_Spread.f a0_0 a0_1 a0_2 a0_3 a0_4 a0_5 a1).bind fun bt403 => ((stair_Height.f a0_0 a0_1 a0_2 a0_3 a0_4 a0_5).bind fun bt407 => (if bt403.2.2 = 0 then (if bt407.2.2 = 0 then (gangsawlaw42_StairSpread.j0 k a1 l2 bt407.1 (decide ((l2.length : Int) > 64)) a0_0 a0_1 a0_2 a0_3 a0_4 a0_5 bt403.1 bt403.2.1) else (gangsawlaw42_StairSpread.j0 k a1 l2 bt407.1 true a0_0 a0_1 a0_2 a0_3 a0_4 a0_5 bt403.1 bt403.2.1)) else (gangsawlaw42_StairSpread.j0 k a1 l2 bt407.1 true a0_0 a0_1 a0_2 a0_3 a0_4 a0_5 bt403.1 bt403.2.1)))) else (some false))) = some r := h
  clear h
  replace H := Option.bind_eq_some_iff.mp H
  obtain ⟨t402, A40, H⟩ := H
  replace H : (if t402 = true then ((stair_Spread.f a0_0 a0_1 a0_2 a0_3 a0_4 a0_5 a1).bind fun bt403 => ((stair_Height.f a0_0 a0_1 a0_2 a0_3 a0_4 a0_5).bind fun bt407 => (if bt403.2.2 = 0 then (if bt407.2.2 = 0 then (gangsawlaw42_StairSpread.j0 k a1 l2 bt407.1 (decide ((l2.length : Int) > 64)) a0_0 a0_1 a0_2 a0_3 a0_4 a0_5 bt403.1 bt403.2.1) else (gangsawlaw42_StairSpread.j0 k a1 l2 bt407.1 true a0_0 a0_1 a0_2 a0_3 a0_4 a0_5 bt403.1 bt403.2.1)) else (gangsawlaw42_StairSpread.j0 k a1 l2 bt407.1 true a0_0 a0_1 a0_2 a0_3 a0_4 a0_5 bt403.1 bt403.2.1)))) else (some false)) = some r := H
  have A4 := Aside0.mk A40
  clear A40
  by_cases c5 : t402 = true
  · subst c5
    have H1 : ((stair_Spread.f a0_0 a0_1 a0_2 a0_3 a0_4 a0_5 a1).bind fun bt403 => ((stair_Height.f a0_0 a0_1 a0_2 a0_3 a0_4 a0_5).bind fun bt407 => (if bt403.2.2 = 0 then (if bt407.2.2 = 0 then (gangsawlaw42_StairSpread.j0 k a1 l2 bt407.1 (decide ((l2.length : Int) > 64)) a0_0 a0_1 a0_2 a0_3 a0_4 a0_5 bt403.1 bt403.2.1) else (gangsawlaw42_StairSpread.j0 k a1 l2 bt407.1 true a0_0 a0_1 a0_2 a0_3 a0_4 a0_5 bt403.1 bt403.2.1)) else (gangsawlaw42_StairSpread.j0 k a1 l2 bt407.1 true a0_0 a0_1 a0_2 a0_3 a0_4 a0_5 bt403.1 bt403.2.1)))) = some r := by rw [if_pos rfl] at H; exact H
    clear H
    have H := H1
    clear H1
    replace H := Option.bind_eq_some_iff.mp H
    obtain ⟨⟨t403, t404, t405⟩, A60, H⟩ := H
    replace H : ((stair_Height.f a0_0 a0_1 a0_2 a0_3 a0_4 a0_5).bind fun bt407 => (if t405 = 0 then (if bt407.2.2 = 0 then (gangsawlaw42_StairSpread.j0 k a1 l2 bt407.1 (decide ((l2.length : Int) > 64)) a0_0 a0_1 a0_2 a0_3 a0_4 a0_5 t403 t404) else (gangsawlaw42_StairSpread.j0 k a1 l2 bt407.1 true a0_0 a0_1 a0_2 a0_3 a0_4 a0_5 t403 t404)) else (gangsawlaw42_StairSpread.j0 k a1 l2 bt407.1 true a0_0 a0_1 a0_2 a0_3 a0_4 a0_5 t403 t404))) = some r := H
    have A6 := Aside0.mk A60
    clear A60
    replace H := Option.bind_eq_some_iff.mp H
    obtain ⟨⟨t407, t408, t409⟩, A70, H⟩ := H
    replace H : (if t405 = 0 then (if t409 = 0 then (gangsawlaw42_StairSpread.j0 k a1 l2 t407 (decide ((l2.length : Int) > 64)) a0_0 a0_1 a0_2 a0_3 a0_4 a0_5 t403 t404) else (gangsawlaw42_StairSpread.j0 k a1 l2 t407 true a0_0 a0_1 a0_2 a0_3 a0_4 a0_5 t403 t404)) else (gangsawlaw42_StairSpread.j0 k a1 l2 t407 true a0_0 a0_1 a0_2 a0_3 a0_4 a0_5 t403 t404)) = some r := H
    have A7 := Aside0.mk A70
    clear A70
    have HC8 := Aside0.mk H
    clear H
    go_enter Try.func10, Try.ntmps10
    go_upto_region 5 with (first | ((with_reducible refine gate_dst (N := 3) rfl ?_); refine box_event ?hg (N := 3) ?hd (cs := #[.int .i64 a0_0, .int .i64 a0_1, .int .i64 a0_2, .int .i64 a0_3, .int .i64 a0_4, .int .i64 a0_5]) (t := 27) ?hr ?_; (case hd => rfl); (case hg => rfl); (case hr => first | (go_simp; done) | (go_simp; rfl)); intro gb401 hg w9 hbox hb; have n0_ := Aside0.mk (below_step (by repeat (first | (with_reducible first | exact HB.out | apply below_alloc | apply pw_below_drewN | apply below_drew1) | exact HB.out)) hb); have n1_ := Aside0.mk (hbox); have n2_ := Aside0.mk ((by rw [hg]; exact (below_size (by repeat (first | (with_reducible first | exact HB.out | apply below_alloc | apply pw_below_drewN | apply below_drew1) | exact HB.out))) : w.heap.size ≤ gb401)); have n3_ := Aside0.mk ((by rw [hg]; exact (below_size (by repeat (first | (with_reducible first | exact HB.out | apply below_alloc | apply pw_below_drewN | apply below_drew1) | exact HB.out))) : w.heap.size ≤ gb401)); clear HB; have HB := n0_; have BK401 := n1_; have GW401 := n2_; have GE401 := n3_; clear n0_ n1_ n2_ n3_; clear hb hbox hg) | ((with_reducible refine gate_callee (f := 11) rfl ?_); refine goesL_ (some 13) rfl rfl Try.func11 (by kernel_rfl) rfl #[] rfl (by (try simp only [List.map_toArray, List.map_cons, List.map_nil]); first | done | rfl | (simp only [List.length_drop, List.length_take]; rfl)) ?_; (with_reducible refine (gangsawlaw42_awake.calls k  true _ A4.out).mono ?_); rintro e w10 ⟨rfl, hb⟩; refine ⟨_, rfl, ?_⟩; have n0_ := Aside0.mk (blk_below (g := gb401) (o := .cells #[.int .i64 a0_0, .int .i64 a0_1, .int .i64 a0_2, .int .i64 a0_3, .int .i64 a0_4, .int .i64 a0_5] 27 (0, 0)) (by (with_reducible repeat (first | refine blk_drewN ?_ _ | refine blk_drew ?_ | refine blk_alloc ?_ _)); exact BK401.out) hb); have n1_ := Aside0.mk (below_step (by repeat (first | (with_reducible first | exact HB.out | apply below_alloc | apply pw_below_drewN | apply below_drew1 | refine below_set ?_ GE401.out) | exact HB.out)) hb); clear BK401; clear HB; have BK401 := n0_; have HB := n1_; clear n0_ n1_; (try clear hb); (try clear hb2); (try clear hk); (try clear hi); have hcz11_0 : w10.cell? ⟨gb401, 0, none⟩ = some (.int .i64 a0_0) := (blk_cell BK401.out 0).trans rfl; have hcz11_1 : w10.cell? ⟨gb401, 1, none⟩ = some (.int .i64 a0_1) := (blk_cell BK401.out 1).trans rfl; have hcz11_2 : w10.cell? ⟨gb401, 2, none⟩ = some (.int .i64 a0_2) := (blk_cell BK401.out 2).trans rfl; have hcz11_3 : w10.cell? ⟨gb401, 3, none⟩ = some (.int .i64 a0_3) := (blk_cell BK401.out 3).trans rfl; have hcz11_4 : w10.cell? ⟨gb401, 4, none⟩ = some (.int .i64 a0_4) := (blk_cell BK401.out 4).trans rfl; have hcz11_5 : w10.cell? ⟨gb401, 5, none⟩ = some (.int .i64 a0_5) := (blk_cell BK401.out 5).trans rfl; have hfz11_0 := blk_frozen BK401.out 0; have hfz11_1 := blk_frozen BK401.out 1; have hfz11_2 := blk_frozen BK401.out 2; have hfz11_3 := blk_frozen BK401.out 3; have hfz11_4 := blk_frozen BK401.out 4; have hfz11_5 := blk_frozen BK401.out 5) | ((with_reducible refine gate_callee (f := 23) rfl ?_); refine goesL_ (some 18) rfl rfl Try.func23 (by kernel_rfl) rfl #[.agg #[.int .i64 a0_0, .int .i64 a0_1, .int .i64 a0_2, .int .i64 a0_3, .int .i64 a0_4, .int .i64 a0_5], .int .i64 a1] rfl (by (try simp only [List.map_toArray, List.map_cons, List.map_nil]); first | done | rfl | (simp only [List.length_drop, List.length_take]; rfl)) ?_; (with_reducible refine (stair_Spread.calls a0_0 a0_1 a0_2 a0_3 a0_4 a0_5 a1 t403 t404 t405 _ A6.out).mono ?_); rintro e w12 ⟨rfl, hb⟩; refine ⟨_, rfl, ?_⟩; have n0_ := Aside0.mk (blk_below (g := gb401) (o := .cells #[.int .i64 a0_0, .int .i64 a0_1, .int .i64 a0_2, .int .i64 a0_3, .int .i64 a0_4, .int .i64 a0_5] 27 (0, 0)) (by (with_reducible repeat (first | refine blk_drewN ?_ _ | refine blk_drew ?_ | refine blk_alloc ?_ _)); exact BK401.out) hb); have n1_ := Aside0.mk (below_step (by repeat (first | (with_reducible first | exact HB.out | apply below_alloc | apply pw_below_drewN | apply below_drew1 | refine below_set ?_ GE401.out) | exact HB.out)) hb); clear BK401; clear HB; have BK401 := n0_; have HB := n1_; clear n0_ n1_; (try clear hb); (try clear hb2); (try clear hk); (try clear hi)) | ((with_reducible refine gate_dst (N := 7) rfl ?_); refine box_event ?hg (N := 7) ?hd (cs := #[.int .i64 0, .int .i64 0]) (t := 23) ?hr ?_; (case hd => rfl); (case hg => rfl); (case hr => first | (go_simp; done) | (go_simp; rfl)); intro gb406 hg w13 hbox hb; have n0_ := Aside0.mk (blk_below (g := gb401) (o := .cells #[.int .i64 a0_0, .int .i64 a0_1, .int .i64 a0_2, .int .i64 a0_3, .int .i64 a0_4, .int .i64 a0_5] 27 (0, 0)) (by (with_reducible repeat (first | refine blk_drewN ?_ _ | refine blk_drew ?_ | refine blk_alloc ?_ _)); exact BK401.out) hb); have n1_ := Aside0.mk (below_step (by repeat (first | (with_reducible first | exact HB.out | apply below_alloc | apply pw_below_drewN | apply below_drew1 | refine below_set ?_ GE401.out) | exact HB.out)) hb); have n2_ := Aside0.mk (hbox); have n3_ := Aside0.mk ((by rw [hg]; exact (below_size (by repeat (first | (with_reducible first | exact HB.out | apply below_alloc | apply pw_below_drewN | apply below_drew1 | refine below_set ?_ GE401.out) | exact HB.out))) : w.heap.size ≤ gb406)); have n4_ := Aside0.mk ((by rw [hg]; exact (below_size (by repeat (first | (with_reducible first | exact HB.out | apply below_alloc | apply pw_below_drewN | apply below_drew1 | refine below_set ?_ GE401.out) | exact HB.out))) : w.heap.size ≤ gb406)); have n5_ := Aside0.mk ((by rw [hg]; exact Nat.ne_of_lt (blk_lt (g := gb401) (o := .cells #[.int .i64 a0_0, .int .i64 a0_1, .int .i64 a0_2, .int .i64 a0_3, .int .i64 a0_4, .int .i64 a0_5] 27 (0, 0)) (by (with_reducible repeat (first | refine blk_drewN ?_ _ | refine blk_drew ?_ | refine blk_alloc ?_ _)); exact BK401.out)) : gb401 ≠ gb406)); have n6_ := Aside0.mk ((by rw [hg]; exact Nat.ne_of_gt (blk_lt (g := gb401) (o := .cells #[.int .i64 a0_0, .int .i64 a0_1, .int .i64 a0_2, .int .i64 a0_3, .int .i64 a0_4, .int .i64 a0_5] 27 (0, 0)) (by (with_reducible repeat (first | refine blk_drewN ?_ _ | refine blk_drew ?_ | refine blk_alloc ?_ _)); exact BK401.out)) : gb406 ≠ gb401)); clear BK401; clear HB; have BK401 := n0_; have HB := n1_; have BK406 := n2_; have GW406 := n3_; have GE406 := n4_; have NB401_406 := n5_; have NB406_401 := n6_; clear n0_ n1_ n2_ n3_ n4_ n5_ n6_; clear hb hbox hg; have hnb14 := NB406_401.out; have hnc14 := NB401_406.out; have hcz15_0 : w13.cell? ⟨gb406, 0, none⟩ = some (.int .i64 0) := (blk_cell BK406.out 0).trans rfl; have hcz15_1 : w13.cell? ⟨gb406, 1, none⟩ = some (.int .i64 0) := (blk_cell BK406.out 1).trans rfl; have hfz15_0 := blk_frozen BK406.out 0; have hfz15_1 := blk_frozen BK406.out 1; have hcz16_0 : w13.cell? ⟨gb401, 0, none⟩ = some (.int .i64 a0_0) := (blk_cell BK401.out 0).trans rfl; have hcz16_1 : w13.cell? ⟨gb401, 1, none⟩ = some (.int .i64 a0_1) := (blk_cell BK401.out 1).trans rfl; have hcz16_2 : w13.cell? ⟨gb401, 2, none⟩ = some (.int .i64 a0_2) := (blk_cell BK401.out 2).trans rfl; have hcz16_3 : w13.cell? ⟨gb401, 3, none⟩ = some (.int .i64 a0_3) := (blk_cell BK401.out 3).trans rfl; have hcz16_4 : w13.cell? ⟨gb401, 4, none⟩ = some (.int .i64 a0_4) := (blk_cell BK401.out 4).trans rfl; have hcz16_5 : w13.cell? ⟨gb401, 5, none⟩ = some (.int .i64 a0_5) := (blk_cell BK401.out 5).trans rfl; have hfz16_0 := blk_frozen BK401.out 0; have hfz16_1 := blk_frozen BK401.out 1; have hfz16_2 := blk_frozen BK401.out 2; have hfz16_3 := blk_frozen BK401.out 3; have hfz16_4 := blk_frozen BK401.out 4; have hfz16_5 := blk_frozen BK401.out 5) | ((with_reducible refine gate_callee (f := 16) rfl ?_); refine goesL_ (some 23) rfl rfl Try.func16 (by kernel_rfl) rfl #[.agg #[.int .i64 a0_0, .int .i64 a0_1, .int .i64 a0_2, .int .i64 a0_3, .int .i64 a0_4, .int .i64 a0_5]] rfl (by (try simp only [List.map_toArray, List.map_cons, List.map_nil]); first | done | rfl | (simp only [List.length_drop, List.length_take]; rfl)) ?_; (with_reducible refine (stair_Height.calls a0_0 a0_1 a0_2 a0_3 a0_4 a0_5 t407 t408 t409 _ A7.out).mono ?_); rintro e w17 ⟨rfl, hb⟩; refine ⟨_, rfl, ?_⟩; have n0_ := Aside0.mk (blk_below (g := gb401) (o := .cells #[.int .i64 a0_0, .int .i64 a0_1, .int .i64 a0_2, .int .i64 a0_3, .int .i64 a0_4, .int .i64 a0_5] 27 (0, 0)) (by (with_reducible repeat (first | refine blk_drewN ?_ _ | refine blk_drew ?_ | refine blk_alloc ?_ _)); refine blk_far ?_ NB401_406.out _; (with_reducible repeat (first | refine blk_drewN ?_ _ | refine blk_drew ?_ | refine blk_alloc ?_ _)); refine blk_far ?_ NB401_406.out _; (with_reducible repeat (first | refine blk_drewN ?_ _ | refine blk_drew ?_ | refine blk_alloc ?_ _)); exact BK401.out) hb); have n1_ := Aside0.mk (blk_below (g := gb406) (o := .cells #[.int .i64 t403, .int .i64 t404] 23 (0, 0)) (by (with_reducible repeat (first | refine blk_drewN ?_ _ | refine blk_drew ?_ | refine blk_alloc ?_ _)); refine blk_put (cs := #[.int .i64 t403, .int .i64 0]) ?_ 1 _ rfl; (with_reducible repeat (first | refine blk_drewN ?_ _ | refine blk_drew ?_ | refine blk_alloc ?_ _)); refine blk_put (cs := #[.int .i64 0, .int .i64 0]) ?_ 0 _ rfl; (with_reducible repeat (first | refine blk_drewN ?_ _ | refine blk_drew ?_ | refine blk_alloc ?_ _)); exact BK406.out) hb); have n2_ := Aside0.mk (below_step (by repeat (first | (with_reducible first | exact HB.out | apply below_alloc | apply pw_below_drewN | apply below_drew1 | refine below_set ?_ GE401.out | refine below_set ?_ GE406.out) | exact HB.out)) hb); clear BK401; clear BK406; clear HB; have BK401 := n0_; have BK406 := n1_; have HB := n2_; clear n0_ n1_ n2_; (try clear hb); (try clear hb2); (try clear hk); (try clear hi)))
    (try simp only [Act.put, List.setIfInBounds_toArray, List.set_cons_zero, List.set_cons_succ])
    go_cut [37] (fun v37 wc => ∃ (kq : Nat) (x37_7 : Bool), v37 = .bool x37_7 ∧ Aside0 (gangsawlaw42_StairSpread.j0 kq a1 l2 t407 x37_7 a0_0 a0_1 a0_2 a0_3 a0_4 a0_5 t403 t404 = some r) ∧ Aside0 (kq ≤ k) ∧ Aside0 (wc.heap[gb401]? = some (.cells #[.int .i64 a0_0, .int .i64 a0_1, .int .i64 a0_2, .int .i64 a0_3, .int .i64 a0_4, .int .i64 a0_5] 27 (0, 0))) ∧ Aside0 (wc.heap[gb406]? = some (.cells #[.int .i64 t403, .int .i64 t404] 23 (0, 0))) ∧ Aside0 (Below w.heap.size w wc))
    case first =>
      have H := HC8.out
      clear HC8
      by_cases c18 : t405 = 0
      · rw [if_pos c18] at H
        have c18b0 : (t405 == 0) = true := beq_iff_eq.mpr c18
        have c18b1 : (t405 != 0) = false := bne_eq_false_iff_eq.mpr c18
        clear c18
        (first | rw [c18b0] | (simp only [i64_w, i32_w]; rw [c18b0]) | skip)
        by_cases c19 : t409 = 0
        · rw [if_pos c19] at H
          have c19b0 : (t409 == 0) = true := beq_iff_eq.mpr c19
          have c19b1 : (t409 != 0) = false := bne_eq_false_iff_eq.mpr c19
          clear c19
          have H' := Aside0.mk H
          clear H
          go_wp2
          go_meet
          case rel => exact ⟨_, (decide ((l2.length : Int) > 64)), (by first | rfl | (simp; done) | (simp [*]; done)), H', ⟨by first | omega | exact Nat.le_refl _⟩, ⟨by (with_reducible repeat (first | refine blk_drewN ?_ _ | refine blk_drew ?_ | refine blk_alloc ?_ _)); exact BK401.out⟩, ⟨by (with_reducible repeat (first | refine blk_drewN ?_ _ | refine blk_drew ?_ | refine blk_alloc ?_ _)); exact BK406.out⟩, ⟨by repeat (first | (with_reducible first | exact HB.out | apply below_alloc | apply pw_below_drewN | apply below_drew1 | refine below_set ?_ GE401.out | refine below_set ?_ GE406.out) | exact HB.out)⟩⟩
        · rw [if_neg c19] at H
          have c19b0 : (t409 == 0) = false := beq_eq_false_iff_ne.mpr c19
          have c19b1 : (t409 != 0) = true := bne_iff_ne.mpr c19
          have H' := Aside0.mk H
          clear H
          go_wp2
          go_meet
          case rel => exact ⟨_, (true), (by first | rfl | (simp; done) | (simp [*]; done)), H', ⟨by first | omega | exact Nat.le_refl _⟩, ⟨by (with_reducible repeat (first | refine blk_drewN ?_ _ | refine blk_drew ?_ | refine blk_alloc ?_ _)); exact BK401.out⟩, ⟨by (with_reducible repeat (first | refine blk_drewN ?_ _ | refine blk_drew ?_ | refine blk_alloc ?_ _)); exact BK406.out⟩, ⟨by repeat (first | (with_reducible first | exact HB.out | apply below_alloc | apply pw_below_drewN | apply below_drew1 | refine below_set ?_ GE401.out | refine below_set ?_ GE406.out) | exact HB.out)⟩⟩
      · rw [if_neg c18] at H
        have c18b0 : (t405 == 0) = false := beq_eq_false_iff_ne.mpr c18
        have c18b1 : (t405 != 0) = true := bne_iff_ne.mpr c18
        (first | rw [c18b0] | (simp only [i64_w, i32_w]; rw [c18b0]) | skip)
        have H' := Aside0.mk H
        clear H
        go_wp2
        go_meet
        case rel => exact ⟨_, (true), (by first | rfl | (simp; done) | (simp [*]; done)), H', ⟨by first | omega | exact Nat.le_refl _⟩, ⟨by (with_reducible repeat (first | refine blk_drewN ?_ _ | refine blk_drew ?_ | refine blk_alloc ?_ _)); exact BK401.out⟩, ⟨by (with_reducible repeat (first | refine blk_drewN ?_ _ | refine blk_drew ?_ | refine blk_alloc ?_ _)); exact BK406.out⟩, ⟨by repeat (first | (with_reducible first | exact HB.out | apply below_alloc | apply pw_below_drewN | apply below_drew1 | refine below_set ?_ GE401.out | refine below_set ?_ GE406.out) | exact HB.out)⟩⟩
    case rest =>
      clear HC8
      try clear c1
      try clear c2
      try clear p2
      try clear c5
      try clear c10
      try clear c11
      try clear c14
      try clear c16
      try clear c18
      try clear c18b0
      try clear c18b1
      try clear c19
      try clear c19b0
      try clear c19b1
      try clear hcz11_0
      try clear hcz11_1
      try clear hcz11_2
      try clear hcz11_3
      try clear hcz11_4
      try clear hcz11_5
      try clear hcz15_0
      try clear hcz15_1
      try clear hcz16_0
      try clear hcz16_1
      try clear hcz16_2
      try clear hcz16_3
      try clear hcz16_4
      try clear hcz16_5
      try clear hfz11_0
      try clear hfz11_1
      try clear hfz11_2
      try clear hfz11_3
      try clear hfz11_4
      try clear hfz11_5
      try clear hfz15_0
      try clear hfz15_1
      try clear hfz16_0
      try clear hfz16_1
      try clear hfz16_2
      try clear hfz16_3
      try clear hfz16_4
      try clear hfz16_5
      obtain ⟨kq, x37_7, rfl, HA, HJ7, BK401, BK406, HB⟩ := hcut
      cases kq with
      | zero => exact absurd HA.out (by simp [gangsawlaw42_StairSpread.j0])
      | succ kj7 =>
        have H := HA.out
        clear HA
        simp only [gangsawlaw42_StairSpread.j0] at H
        by_cases c20 : x37_7 = true
        · subst c20
          have H1 : (some true) = some r := by rw [if_pos rfl] at H; exact H
          clear H
          have H := H1
          clear H1
          obtain rfl := Option.some.inj H
          go_wp2
          go_ret
          exact ⟨by first | rfl | (simp [errW_none, errW_some] <;> rfl) | (simp [*, errW_none, errW_some] <;> rfl), by repeat (first | (with_reducible first | exact HB.out | apply below_alloc | apply pw_below_drewN | apply below_drew1 | refine below_set ?_ GE401.out | refine below_set ?_ GE406.out) | exact HB.out)⟩
        · replace c20 := Bool.eq_false_iff.mpr c20
          subst c20
          have H1 : (if t403 = (wrap64 (t407 - (wrap64 (a0_0 * a1)))) then (if t404 = (wrap64 (t407 + (wrap64 (a0_0 * a1)))) then (gangsawlaw42_StairSpread.j1 kj7 a1 l2 t407 ((l2.length : Int) != a0_0) a0_0 a0_1 a0_2 a0_3 a0_4 a0_5 t403 t404) else (gangsawlaw42_StairSpread.j1 kj7 a1 l2 t407 true a0_0 a0_1 a0_2 a0_3 a0_4 a0_5 t403 t404)) else (gangsawlaw42_StairSpread.j1 kj7 a1 l2 t407 true a0_0 a0_1 a0_2 a0_3 a0_4 a0_5 t403 t404)) = some r := by rw [if_neg (show ¬ (false = true) by decide)] at H; exact H
          clear H
          have H := H1
          clear H1
          have HC21 := Aside0.mk H
          clear H
          go_upto_region 7 with (fail)
          go_cut [64] (fun v64 wc => ∃ (kq : Nat) (x64_20 : Bool), v64 = .bool x64_20 ∧ Aside0 (gangsawlaw42_StairSpread.j1 kq a1 l2 t407 x64_20 a0_0 a0_1 a0_2 a0_3 a0_4 a0_5 t403 t404 = some r) ∧ Aside0 (kq ≤ kj7) ∧ Aside0 (wc.heap[gb401]? = some (.cells #[.int .i64 a0_0, .int .i64 a0_1, .int .i64 a0_2, .int .i64 a0_3, .int .i64 a0_4, .int .i64 a0_5] 27 (0, 0))) ∧ Aside0 (wc.heap[gb406]? = some (.cells #[.int .i64 t403, .int .i64 t404] 23 (0, 0))) ∧ Aside0 (Below w.heap.size w wc))
          case first =>
            have H := HC21.out
            clear HC21
            by_cases c22 : t403 = (wrap64 (t407 - (wrap64 (a0_0 * a1))))
            · rw [if_pos c22] at H
              have c22b0 : (t403 == (wrap64 (t407 - (wrap64 (a0_0 * a1))))) = true := beq_iff_eq.mpr c22
              have c22b1 : (t403 != (wrap64 (t407 - (wrap64 (a0_0 * a1))))) = false := bne_eq_false_iff_eq.mpr c22
              clear c22
              (first | rw [c22b0] | (simp only [i64_w, i32_w]; rw [c22b0]) | skip)
              by_cases c23 : t404 = (wrap64 (t407 + (wrap64 (a0_0 * a1))))
              · rw [if_pos c23] at H
                have c23b0 : (t404 == (wrap64 (t407 + (wrap64 (a0_0 * a1))))) = true := beq_iff_eq.mpr c23
                have c23b1 : (t404 != (wrap64 (t407 + (wrap64 (a0_0 * a1))))) = false := bne_eq_false_iff_eq.mpr c23
                clear c23
                have H' := Aside0.mk H
                clear H
                have hnb24 := NB406_401.out
                have hnc24 := NB401_406.out
                have hcz25_0 : wc.cell? ⟨gb406, 0, none⟩ = some (.int .i64 t403) := (blk_cell BK406.out 0).trans rfl
                have hcz25_1 : wc.cell? ⟨gb406, 1, none⟩ = some (.int .i64 t404) := (blk_cell BK406.out 1).trans rfl
                have hfz25_0 := blk_frozen BK406.out 0
                have hfz25_1 := blk_frozen BK406.out 1
                have hcz26_0 : wc.cell? ⟨gb401, 0, none⟩ = some (.int .i64 a0_0) := (blk_cell BK401.out 0).trans rfl
                have hcz26_1 : wc.cell? ⟨gb401, 1, none⟩ = some (.int .i64 a0_1) := (blk_cell BK401.out 1).trans rfl
                have hcz26_2 : wc.cell? ⟨gb401, 2, none⟩ = some (.int .i64 a0_2) := (blk_cell BK401.out 2).trans rfl
                have hcz26_3 : wc.cell? ⟨gb401, 3, none⟩ = some (.int .i64 a0_3) := (blk_cell BK401.out 3).trans rfl
                have hcz26_4 : wc.cell? ⟨gb401, 4, none⟩ = some (.int .i64 a0_4) := (blk_cell BK401.out 4).trans rfl
                have hcz26_5 : wc.cell? ⟨gb401, 5, none⟩ = some (.int .i64 a0_5) := (blk_cell BK401.out 5).trans rfl
                have hfz26_0 := blk_frozen BK401.out 0
                have hfz26_1 := blk_frozen BK401.out 1
                have hfz26_2 := blk_frozen BK401.out 2
                have hfz26_3 := blk_frozen BK401.out 3
                have hfz26_4 := blk_frozen BK401.out 4
                have hfz26_5 := blk_frozen BK401.out 5
                go_wp2
                go_meet
                case rel => exact ⟨_, (((l2.length : Int) != a0_0)), (by first | rfl | (simp; done) | (simp [*]; done)), H', ⟨by have := HJ7.out; first | omega | exact Nat.le_refl _⟩, ⟨by (with_reducible repeat (first | refine blk_drewN ?_ _ | refine blk_drew ?_ | refine blk_alloc ?_ _)); exact BK401.out⟩, ⟨by (with_reducible repeat (first | refine blk_drewN ?_ _ | refine blk_drew ?_ | refine blk_alloc ?_ _)); exact BK406.out⟩, ⟨by repeat (first | (with_reducible first | exact HB.out | apply below_alloc | apply pw_below_drewN | apply below_drew1 | refine below_set ?_ GE401.out | refine below_set ?_ GE406.out) | exact HB.out)⟩⟩
              · rw [if_neg c23] at H
                have c23b0 : (t404 == (wrap64 (t407 + (wrap64 (a0_0 * a1))))) = false := beq_eq_false_iff_ne.mpr c23
                have c23b1 : (t404 != (wrap64 (t407 + (wrap64 (a0_0 * a1))))) = true := bne_iff_ne.mpr c23
                have H' := Aside0.mk H
                clear H
                have hnb27 := NB406_401.out
                have hnc27 := NB401_406.out
                have hcz28_0 : wc.cell? ⟨gb406, 0, none⟩ = some (.int .i64 t403) := (blk_cell BK406.out 0).trans rfl
                have hcz28_1 : wc.cell? ⟨gb406, 1, none⟩ = some (.int .i64 t404) := (blk_cell BK406.out 1).trans rfl
                have hfz28_0 := blk_frozen BK406.out 0
                have hfz28_1 := blk_frozen BK406.out 1
                have hcz29_0 : wc.cell? ⟨gb401, 0, none⟩ = some (.int .i64 a0_0) := (blk_cell BK401.out 0).trans rfl
                have hcz29_1 : wc.cell? ⟨gb401, 1, none⟩ = some (.int .i64 a0_1) := (blk_cell BK401.out 1).trans rfl
                have hcz29_2 : wc.cell? ⟨gb401, 2, none⟩ = some (.int .i64 a0_2) := (blk_cell BK401.out 2).trans rfl
                have hcz29_3 : wc.cell? ⟨gb401, 3, none⟩ = some (.int .i64 a0_3) := (blk_cell BK401.out 3).trans rfl
                have hcz29_4 : wc.cell? ⟨gb401, 4, none⟩ = some (.int .i64 a0_4) := (blk_cell BK401.out 4).trans rfl
                have hcz29_5 : wc.cell? ⟨gb401, 5, none⟩ = some (.int .i64 a0_5) := (blk_cell BK401.out 5).trans rfl
                have hfz29_0 := blk_frozen BK401.out 0
                have hfz29_1 := blk_frozen BK401.out 1
                have hfz29_2 := blk_frozen BK401.out 2
                have hfz29_3 := blk_frozen BK401.out 3
                have hfz29_4 := blk_frozen BK401.out 4
                have hfz29_5 := blk_frozen BK401.out 5
                go_wp2
                go_meet
                case rel => exact ⟨_, (true), (by first | rfl | (simp; done) | (simp [*]; done)), H', ⟨by have := HJ7.out; first | omega | exact Nat.le_refl _⟩, ⟨by (with_reducible repeat (first | refine blk_drewN ?_ _ | refine blk_drew ?_ | refine blk_alloc ?_ _)); exact BK401.out⟩, ⟨by (with_reducible repeat (first | refine blk_drewN ?_ _ | refine blk_drew ?_ | refine blk_alloc ?_ _)); exact BK406.out⟩, ⟨by repeat (first | (with_reducible first | exact HB.out | apply below_alloc | apply pw_below_drewN | apply below_drew1 | refine below_set ?_ GE401.out | refine below_set ?_ GE406.out) | exact HB.out)⟩⟩
            · rw [if_neg c22] at H
              have c22b0 : (t403 == (wrap64 (t407 - (wrap64 (a0_0 * a1))))) = false := beq_eq_false_iff_ne.mpr c22
              have c22b1 : (t403 != (wrap64 (t407 - (wrap64 (a0_0 * a1))))) = true := bne_iff_ne.mpr c22
              (first | rw [c22b0] | (simp only [i64_w, i32_w]; rw [c22b0]) | skip)
              have H' := Aside0.mk H
              clear H
              have hnb30 := NB406_401.out
              have hnc30 := NB401_406.out
              have hcz31_0 : wc.cell? ⟨gb406, 0, none⟩ = some (.int .i64 t403) := (blk_cell BK406.out 0).trans rfl
              have hcz31_1 : wc.cell? ⟨gb406, 1, none⟩ = some (.int .i64 t404) := (blk_cell BK406.out 1).trans rfl
              have hfz31_0 := blk_frozen BK406.out 0
              have hfz31_1 := blk_frozen BK406.out 1
              have hcz32_0 : wc.cell? ⟨gb401, 0, none⟩ = some (.int .i64 a0_0) := (blk_cell BK401.out 0).trans rfl
              have hcz32_1 : wc.cell? ⟨gb401, 1, none⟩ = some (.int .i64 a0_1) := (blk_cell BK401.out 1).trans rfl
              have hcz32_2 : wc.cell? ⟨gb401, 2, none⟩ = some (.int .i64 a0_2) := (blk_cell BK401.out 2).trans rfl
              have hcz32_3 : wc.cell? ⟨gb401, 3, none⟩ = some (.int .i64 a0_3) := (blk_cell BK401.out 3).trans rfl
              have hcz32_4 : wc.cell? ⟨gb401, 4, none⟩ = some (.int .i64 a0_4) := (blk_cell BK401.out 4).trans rfl
              have hcz32_5 : wc.cell? ⟨gb401, 5, none⟩ = some (.int .i64 a0_5) := (blk_cell BK401.out 5).trans rfl
              have hfz32_0 := blk_frozen BK401.out 0
              have hfz32_1 := blk_frozen BK401.out 1
              have hfz32_2 := blk_frozen BK401.out 2
              have hfz32_3 := blk_frozen BK401.out 3
              have hfz32_4 := blk_frozen BK401.out 4
              have hfz32_5 := blk_frozen BK401.out 5
              go_wp2
              go_meet
              case rel => exact ⟨_, (true), (by first | rfl | (simp; done) | (simp [*]; done)), H', ⟨by have := HJ7.out; first | omega | exact Nat.le_refl _⟩, ⟨by (with_reducible repeat (first | refine blk_drewN ?_ _ | refine blk_drew ?_ | refine blk_alloc ?_ _)); exact BK401.out⟩, ⟨by (with_reducible repeat (first | refine blk_drewN ?_ _ | refine blk_drew ?_ | refine blk_alloc ?_ _)); exact BK406.out⟩, ⟨by repeat (first | (with_reducible first | exact HB.out | apply below_alloc | apply pw_below_drewN | apply below_drew1 | refine below_set ?_ GE401.out | refine below_set ?_ GE406.out) | exact HB.out)⟩⟩
          case rest =>
            clear HC21
            try clear c1
            try clear c2
            try clear p2
            try clear c3
            try clear c5
            try clear p6
            try clear c10
            try clear c11
            try clear c14
            try clear c16
            try clear c18
            try clear c18b0
            try clear c18b1
            try clear c19
            try clear c19b0
            try clear c19b1
            try clear c20
            try clear c22
            try clear c22b0
            try clear c22b1
            try clear c23
            try clear c23b0
            try clear c23b1
            try clear c24
            try clear c27
            try clear c30
            try clear hcz11_0
            try clear hcz11_1
            try clear hcz11_2
            try clear hcz11_3
            try clear hcz11_4
            try clear hcz11_5
            try clear hcz15_0
            try clear hcz15_1
            try clear hcz16_0
            try clear hcz16_1
            try clear hcz16_2
            try clear hcz16_3
            try clear hcz16_4
            try clear hcz16_5
            try clear hcz25_0
            try clear hcz25_1
            try clear hcz26_0
            try clear hcz26_1
            try clear hcz26_2
            try clear hcz26_3
            try clear hcz26_4
            try clear hcz26_5
            try clear hcz28_0
            try clear hcz28_1
            try clear hcz29_0
            try clear hcz29_1
            try clear hcz29_2
            try clear hcz29_3
            try clear hcz29_4
            try clear hcz29_5
            try clear hcz31_0
            try clear hcz31_1
            try clear hcz32_0
            try clear hcz32_1
            try clear hcz32_2
            try clear hcz32_3
            try clear hcz32_4
            try clear hcz32_5
            try clear hfz11_0
            try clear hfz11_1
            try clear hfz11_2
            try clear hfz11_3
            try clear hfz11_4
            try clear hfz11_5
            try clear hfz15_0
            try clear hfz15_1
            try clear hfz16_0
            try clear hfz16_1
            try clear hfz16_2
            try clear hfz16_3
            try clear hfz16_4
            try clear hfz16_5
            try clear hfz25_0
            try clear hfz25_1
            try clear hfz26_0
            try clear hfz26_1
            try clear hfz26_2
            try clear hfz26_3
            try clear hfz26_4
            try clear hfz26_5
            try clear hfz28_0
            try clear hfz28_1
            try clear hfz29_0
            try clear hfz29_1
            try clear hfz29_2
            try clear hfz29_3
            try clear hfz29_4
            try clear hfz29_5
            try clear hfz31_0
            try clear hfz31_1
            try clear hfz32_0
            try clear hfz32_1
            try clear hfz32_2
            try clear hfz32_3
            try clear hfz32_4
            try clear hfz32_5
            try clear p2
            obtain ⟨kq, x64_20, rfl, HA, HJ20, BK401, BK406, HB⟩ := hcut
            cases kq with
            | zero => exact absurd HA.out (by simp [gangsawlaw42_StairSpread.j1])
            | succ kj20 =>
              have H := HA.out
              clear HA
              simp only [gangsawlaw42_StairSpread.j1] at H
              by_cases c33 : x64_20 = true
              · subst c33
                have H1 : (if t403 = (wrap64 (t407 - (wrap64 (a0_0 * a1)))) then (some (t404 == (wrap64 (t407 + (wrap64 (a0_0 * a1)))))) else (some false)) = some r := by rw [if_pos rfl] at H; exact H
                clear H
                have H := H1
                clear H1
                by_cases c34 : t403 = (wrap64 (t407 - (wrap64 (a0_0 * a1))))
                · rw [if_pos c34] at H
                  have c34b0 : (t403 == (wrap64 (t407 - (wrap64 (a0_0 * a1))))) = true := beq_iff_eq.mpr c34
                  have c34b1 : (t403 != (wrap64 (t407 - (wrap64 (a0_0 * a1))))) = false := bne_eq_false_iff_eq.mpr c34
                  clear c34
                  obtain rfl := Option.some.inj H
                  have hnb35 := NB406_401.out
                  have hnc35 := NB401_406.out
                  have hcz36_0 : wc.cell? ⟨gb406, 0, none⟩ = some (.int .i64 t403) := (blk_cell BK406.out 0).trans rfl
                  have hcz36_1 : wc.cell? ⟨gb406, 1, none⟩ = some (.int .i64 t404) := (blk_cell BK406.out 1).trans rfl
                  have hfz36_0 := blk_frozen BK406.out 0
                  have hfz36_1 := blk_frozen BK406.out 1
                  have hcz37_0 : wc.cell? ⟨gb401, 0, none⟩ = some (.int .i64 a0_0) := (blk_cell BK401.out 0).trans rfl
                  have hcz37_1 : wc.cell? ⟨gb401, 1, none⟩ = some (.int .i64 a0_1) := (blk_cell BK401.out 1).trans rfl
                  have hcz37_2 : wc.cell? ⟨gb401, 2, none⟩ = some (.int .i64 a0_2) := (blk_cell BK401.out 2).trans rfl
                  have hcz37_3 : wc.cell? ⟨gb401, 3, none⟩ = some (.int .i64 a0_3) := (blk_cell BK401.out 3).trans rfl
                  have hcz37_4 : wc.cell? ⟨gb401, 4, none⟩ = some (.int .i64 a0_4) := (blk_cell BK401.out 4).trans rfl
                  have hcz37_5 : wc.cell? ⟨gb401, 5, none⟩ = some (.int .i64 a0_5) := (blk_cell BK401.out 5).trans rfl
                  have hfz37_0 := blk_frozen BK401.out 0
                  have hfz37_1 := blk_frozen BK401.out 1
                  have hfz37_2 := blk_frozen BK401.out 2
                  have hfz37_3 := blk_frozen BK401.out 3
                  have hfz37_4 := blk_frozen BK401.out 4
                  have hfz37_5 := blk_frozen BK401.out 5
                  go_wp2
                  go_ret
                  exact ⟨by first | rfl | (simp [errW_none, errW_some] <;> rfl) | (simp [*, errW_none, errW_some] <;> rfl), by repeat (first | (with_reducible first | exact HB.out | apply below_alloc | apply pw_below_drewN | apply below_drew1 | refine below_set ?_ GE401.out | refine below_set ?_ GE406.out) | exact HB.out)⟩
                · rw [if_neg c34] at H
                  have c34b0 : (t403 == (wrap64 (t407 - (wrap64 (a0_0 * a1))))) = false := beq_eq_false_iff_ne.mpr c34
                  have c34b1 : (t403 != (wrap64 (t407 - (wrap64 (a0_0 * a1))))) = true := bne_iff_ne.mpr c34
                  obtain rfl := Option.some.inj H
                  have hnb38 := NB406_401.out
                  have hnc38 := NB401_406.out
                  have hcz39_0 : wc.cell? ⟨gb406, 0, none⟩ = some (.int .i64 t403) := (blk_cell BK406.out 0).trans rfl
                  have hcz39_1 : wc.cell? ⟨gb406, 1, none⟩ = some (.int .i64 t404) := (blk_cell BK406.out 1).trans rfl
                  have hfz39_0 := blk_frozen BK406.out 0
                  have hfz39_1 := blk_frozen BK406.out 1
                  have hcz40_0 : wc.cell? ⟨gb401, 0, none⟩ = some (.int .i64 a0_0) := (blk_cell BK401.out 0).trans rfl
                  have hcz40_1 : wc.cell? ⟨gb401, 1, none⟩ = some (.int .i64 a0_1) := (blk_cell BK401.out 1).trans rfl
                  have hcz40_2 : wc.cell? ⟨gb401, 2, none⟩ = some (.int .i64 a0_2) := (blk_cell BK401.out 2).trans rfl
                  have hcz40_3 : wc.cell? ⟨gb401, 3, none⟩ = some (.int .i64 a0_3) := (blk_cell BK401.out 3).trans rfl
                  have hcz40_4 : wc.cell? ⟨gb401, 4, none⟩ = some (.int .i64 a0_4) := (blk_cell BK401.out 4).trans rfl
                  have hcz40_5 : wc.cell? ⟨gb401, 5, none⟩ = some (.int .i64 a0_5) := (blk_cell BK401.out 5).trans rfl
                  have hfz40_0 := blk_frozen BK401.out 0
                  have hfz40_1 := blk_frozen BK401.out 1
                  have hfz40_2 := blk_frozen BK401.out 2
                  have hfz40_3 := blk_frozen BK401.out 3
                  have hfz40_4 := blk_frozen BK401.out 4
                  have hfz40_5 := blk_frozen BK401.out 5
                  go_wp2
                  go_ret
                  exact ⟨by first | rfl | (simp [errW_none, errW_some] <;> rfl) | (simp [*, errW_none, errW_some] <;> rfl), by repeat (first | (with_reducible first | exact HB.out | apply below_alloc | apply pw_below_drewN | apply below_drew1 | refine below_set ?_ GE401.out | refine below_set ?_ GE406.out) | exact HB.out)⟩
              · replace c33 := Bool.eq_false_iff.mpr c33
                subst c33
                have H1 : (gangsawlaw42_StairSpread.l0 kj20 a1 l2 t407 0 t403 t404) = some r := by rw [if_neg (show ¬ (false = true) by decide)] at H; exact H
                clear H
                have H := H1
                clear H1
                have H' := Aside0.mk H
                clear H
                go_wp2
                go_loopg [9, 12] kj20 (fun kq v9 v12 w' => ∃ (x9_3 : Int) (x12_3 : Int), v9 = .int .i64 x9_3 ∧ v12 = .int .i64 x12_3 ∧ Aside0 (gangsawlaw42_StairSpread.l0 kq a1 l2 x9_3 x12_3 t403 t404 = some r) ∧ Aside0 (kq ≤ kj20) ∧ Aside0 (w'.heap[gb401]? = some (.cells #[.int .i64 a0_0, .int .i64 a0_1, .int .i64 a0_2, .int .i64 a0_3, .int .i64 a0_4, .int .i64 a0_5] 27 (0, 0))) ∧ Aside0 (w'.heap[gb406]? = some (.cells #[.int .i64 t403, .int .i64 t404] 23 (0, 0))) ∧ Aside0 (Below w.heap.size w w'))
                case atStart => exact ⟨(t407), (0), (by first | rfl | (simp; done) | (simp [*]; done)), (by first | rfl | (simp; done) | (simp [*]; done)), H', ⟨Nat.le_refl _⟩, ⟨by (with_reducible repeat (first | refine blk_drewN ?_ _ | refine blk_drew ?_ | refine blk_alloc ?_ _)); exact BK401.out⟩, ⟨by (with_reducible repeat (first | refine blk_drewN ?_ _ | refine blk_drew ?_ | refine blk_alloc ?_ _)); exact BK406.out⟩, ⟨by repeat (first | (with_reducible first | exact HB.out | apply below_alloc | apply pw_below_drewN | apply below_drew1 | refine below_set ?_ GE401.out | refine below_set ?_ GE406.out) | exact HB.out)⟩⟩
                case round =>
                  clear H'
                  try clear c1
                  try clear c2
                  try clear p2
                  try clear c3
                  try clear c5
                  try clear p6
                  try clear c10
                  try clear c11
                  try clear c14
                  try clear c16
                  try clear c18
                  try clear c18b0
                  try clear c18b1
                  try clear c19
                  try clear c19b0
                  try clear c19b1
                  try clear c20
                  try clear c22
                  try clear c22b0
                  try clear c22b1
                  try clear c23
                  try clear c23b0
                  try clear c23b1
                  try clear c24
                  try clear c27
                  try clear c30
                  try clear c33
                  try clear c34
                  try clear c34b0
                  try clear c34b1
                  try clear c35
                  try clear c38
                  try clear hcz11_0
                  try clear hcz11_1
                  try clear hcz11_2
                  try clear hcz11_3
                  try clear hcz11_4
                  try clear hcz11_5
                  try clear hcz15_0
                  try clear hcz15_1
                  try clear hcz16_0
                  try clear hcz16_1
                  try clear hcz16_2
                  try clear hcz16_3
                  try clear hcz16_4
                  try clear hcz16_5
                  try clear hcz25_0
                  try clear hcz25_1
                  try clear hcz26_0
                  try clear hcz26_1
                  try clear hcz26_2
                  try clear hcz26_3
                  try clear hcz26_4
                  try clear hcz26_5
                  try clear hcz28_0
                  try clear hcz28_1
                  try clear hcz29_0
                  try clear hcz29_1
                  try clear hcz29_2
                  try clear hcz29_3
                  try clear hcz29_4
                  try clear hcz29_5
                  try clear hcz31_0
                  try clear hcz31_1
                  try clear hcz32_0
                  try clear hcz32_1
                  try clear hcz32_2
                  try clear hcz32_3
                  try clear hcz32_4
                  try clear hcz32_5
                  try clear hcz36_0
                  try clear hcz36_1
                  try clear hcz37_0
                  try clear hcz37_1
                  try clear hcz37_2
                  try clear hcz37_3
                  try clear hcz37_4
                  try clear hcz37_5
                  try clear hcz39_0
                  try clear hcz39_1
                  try clear hcz40_0
                  try clear hcz40_1
                  try clear hcz40_2
                  try clear hcz40_3
                  try clear hcz40_4
                  try clear hcz40_5
                  try clear hfz11_0
                  try clear hfz11_1
                  try clear hfz11_2
                  try clear hfz11_3
                  try clear hfz11_4
                  try clear hfz11_5
                  try clear hfz15_0
                  try clear hfz15_1
                  try clear hfz16_0
                  try clear hfz16_1
                  try clear hfz16_2
                  try clear hfz16_3
                  try clear hfz16_4
                  try clear hfz16_5
                  try clear hfz25_0
                  try clear hfz25_1
                  try clear hfz26_0
                  try clear hfz26_1
                  try clear hfz26_2
                  try clear hfz26_3
                  try clear hfz26_4
                  try clear hfz26_5
                  try clear hfz28_0
                  try clear hfz28_1
                  try clear hfz29_0
                  try clear hfz29_1
                  try clear hfz29_2
                  try clear hfz29_3
                  try clear hfz29_4
                  try clear hfz29_5
                  try clear hfz31_0
                  try clear hfz31_1
                  try clear hfz32_0
                  try clear hfz32_1
                  try clear hfz32_2
                  try clear hfz32_3
                  try clear hfz32_4
                  try clear hfz32_5
                  try clear hfz36_0
                  try clear hfz36_1
                  try clear hfz37_0
                  try clear hfz37_1
                  try clear hfz37_2
                  try clear hfz37_3
                  try clear hfz37_4
                  try clear hfz37_5
                  try clear hfz39_0
                  try clear hfz39_1
                  try clear hfz40_0
                  try clear hfz40_1
                  try clear hfz40_2
                  try clear hfz40_3
                  try clear hfz40_4
                  try clear hfz40_5
                  try clear p2
                  try clear p6
                  obtain ⟨x9_3, x12_3, rfl, rfl, HA, HK3, BK401, BK406, HB⟩ := hrel
                  cases gk with
                  | zero => exact absurd HA.out (by simp [gangsawlaw42_StairSpread.l0])
                  | succ k3 =>
                    have H := HA.out
                    clear HA
                    simp only [gangsawlaw42_StairSpread.l0] at H
                    by_cases c41 : x12_3 < (l2.length : Int)
                    · rw [if_pos c41] at H
                      have c41b0 : decide (x12_3 < (l2.length : Int)) = true := decide_eq_true c41
                      clear c41
                      by_cases c42 : 0 ≤ x12_3
                      · rw [if_pos c42] at H
                        have c42b0 : decide (0 ≤ x12_3) = true := decide_eq_true c42
                        clear c42
                        by_cases c43 : (rd l2 x12_3) < (wrap64 (-a1))
                        · rw [if_pos c43] at H
                          have c43b0 : decide ((rd l2 x12_3) < (wrap64 (-a1))) = true := decide_eq_true c43
                          clear c43
                          obtain rfl := Option.some.inj H
                          have p410 : 0 ≤ (x12_3 : Int) := of_decide_eq_true (by first | (with_reducible assumption) | assumption)
                          have q410 : x12_3 < (l2.length : Int) := of_decide_eq_true (by first | (with_reducible assumption) | assumption)
                          obtain ⟨ad410, e410, hx410_0⟩ := Kd.at_int HR2.out x12_3 p410 q410
                          cases e410
                          replace hx410_0 := (HB.out.cell (World.block_lt_of_cell? w _ hx410_0)).trans hx410_0
                          replace p410 := eq_true p410
                          replace q410 := eq_true q410
                          go_wp2
                          go_ret
                          exact ⟨by first | rfl | (simp [errW_none, errW_some] <;> rfl) | (simp [*, errW_none, errW_some] <;> rfl), by repeat (first | (with_reducible first | exact HB.out | apply below_alloc | apply pw_below_drewN | apply below_drew1 | refine below_set ?_ GE401.out | refine below_set ?_ GE406.out) | exact HB.out)⟩
                        · rw [if_neg c43] at H
                          have c43b0 : decide ((rd l2 x12_3) < (wrap64 (-a1))) = false := decide_eq_false c43
                          clear c43
                          by_cases c44 : (rd l2 x12_3) > a1
                          · rw [if_pos c44] at H
                            have c44b0 : decide (a1 < (rd l2 x12_3)) = true := decide_eq_true c44
                            clear c44
                            obtain rfl := Option.some.inj H
                            have p410 : 0 ≤ (x12_3 : Int) := of_decide_eq_true (by first | (with_reducible assumption) | assumption)
                            have q410 : x12_3 < (l2.length : Int) := of_decide_eq_true (by first | (with_reducible assumption) | assumption)
                            obtain ⟨ad410, e410, hx410_0⟩ := Kd.at_int HR2.out x12_3 p410 q410
                            cases e410
                            replace hx410_0 := (HB.out.cell (World.block_lt_of_cell? w _ hx410_0)).trans hx410_0
                            replace p410 := eq_true p410
                            replace q410 := eq_true q410
                            have p411 : 0 ≤ (x12_3 : Int) := of_decide_eq_true (by first | (with_reducible assumption) | assumption)
                            have q411 : x12_3 < (l2.length : Int) := of_decide_eq_true (by first | (with_reducible assumption) | assumption)
                            obtain ⟨ad411, e411, hx411_0⟩ := Kd.at_int HR2.out x12_3 p411 q411
                            obtain rfl : ad410 = ad411 := (by injection e411)
                            replace hx411_0 := (HB.out.cell (World.block_lt_of_cell? w _ hx411_0)).trans hx411_0
                            replace p411 := eq_true p411
                            replace q411 := eq_true q411
                            go_wp2
                            go_ret
                            exact ⟨by first | rfl | (simp [errW_none, errW_some] <;> rfl) | (simp [*, errW_none, errW_some] <;> rfl), by repeat (first | (with_reducible first | exact HB.out | apply below_alloc | apply pw_below_drewN | apply below_drew1 | refine below_set ?_ GE401.out | refine below_set ?_ GE406.out) | exact HB.out)⟩
                          · rw [if_neg c44] at H
                            have c44b0 : decide (a1 < (rd l2 x12_3)) = false := decide_eq_false c44
                            clear c44
                            have H' := Aside0.mk H
                            clear H
                            have p410 : 0 ≤ (x12_3 : Int) := of_decide_eq_true (by first | (with_reducible assumption) | assumption)
                            have q410 : x12_3 < (l2.length : Int) := of_decide_eq_true (by first | (with_reducible assumption) | assumption)
                            obtain ⟨ad410, e410, hx410_0⟩ := Kd.at_int HR2.out x12_3 p410 q410
                            cases e410
                            replace hx410_0 := (HB.out.cell (World.block_lt_of_cell? w _ hx410_0)).trans hx410_0
                            replace p410 := eq_true p410
                            replace q410 := eq_true q410
                            have p411 : 0 ≤ (x12_3 : Int) := of_decide_eq_true (by first | (with_reducible assumption) | assumption)
                            have q411 : x12_3 < (l2.length : Int) := of_decide_eq_true (by first | (with_reducible assumption) | assumption)
                            obtain ⟨ad411, e411, hx411_0⟩ := Kd.at_int HR2.out x12_3 p411 q411
                            obtain rfl : ad410 = ad411 := (by injection e411)
                            replace hx411_0 := (HB.out.cell (World.block_lt_of_cell? w _ hx411_0)).trans hx411_0
                            replace p411 := eq_true p411
                            replace q411 := eq_true q411
                            have p412 : 0 ≤ (x12_3 : Int) := of_decide_eq_true (by first | (with_reducible assumption) | assumption)
                            have q412 : x12_3 < (l2.length : Int) := of_decide_eq_true (by first | (with_reducible assumption) | assumption)
                            obtain ⟨ad412, e412, hx412_0⟩ := Kd.at_int HR2.out x12_3 p412 q412
                            obtain rfl : ad410 = ad412 := (by injection e412)
                            replace hx412_0 := (HB.out.cell (World.block_lt_of_cell? w _ hx412_0)).trans hx412_0
                            replace p412 := eq_true p412
                            replace q412 := eq_true q412
                            go_wp2
                            go_roundg k3
                            case measure => have := HJ7.out; have := HJ20.out; have := HK3.out; omega
                            case rel => exact ⟨(wrap64 (x9_3 + (rd l2 x12_3))), (wrap64 (x12_3 + 1)), (by first | rfl | (simp; done) | (simp [*]; done)), (by first | rfl | (simp; done) | (simp [*]; done)), H', ⟨by have := HJ7.out; have := HJ20.out; have := HK3.out; omega⟩, ⟨by (with_reducible repeat (first | refine blk_drewN ?_ _ | refine blk_drew ?_ | refine blk_alloc ?_ _)); exact BK401.out⟩, ⟨by (with_reducible repeat (first | refine blk_drewN ?_ _ | refine blk_drew ?_ | refine blk_alloc ?_ _)); exact BK406.out⟩, ⟨by repeat (first | (with_reducible first | exact HB.out | apply below_alloc | apply pw_below_drewN | apply below_drew1 | refine below_set ?_ GE401.out | refine below_set ?_ GE406.out) | exact HB.out)⟩⟩
                      · rw [if_neg c42] at H
                        exact absurd H (by simp)
                    · rw [if_neg c41] at H
                      have c41b0 : decide (x12_3 < (l2.length : Int)) = false := decide_eq_false c41
                      clear c41
                      by_cases c45 : t403 ≤ x9_3
                      · rw [if_pos c45] at H
                        have c45b0 : decide (t403 ≤ x9_3) = true := decide_eq_true c45
                        clear c45
                        obtain rfl := Option.some.inj H
                        have hnb46 := NB406_401.out
                        have hnc46 := NB401_406.out
                        have hcz47_0 : wr.cell? ⟨gb406, 0, none⟩ = some (.int .i64 t403) := (blk_cell BK406.out 0).trans rfl
                        have hcz47_1 : wr.cell? ⟨gb406, 1, none⟩ = some (.int .i64 t404) := (blk_cell BK406.out 1).trans rfl
                        have hfz47_0 := blk_frozen BK406.out 0
                        have hfz47_1 := blk_frozen BK406.out 1
                        go_wp2
                        go_ret
                        exact ⟨by first | rfl | (simp [errW_none, errW_some] <;> rfl) | (simp [*, errW_none, errW_some] <;> rfl), by repeat (first | (with_reducible first | exact HB.out | apply below_alloc | apply pw_below_drewN | apply below_drew1 | refine below_set ?_ GE401.out | refine below_set ?_ GE406.out) | exact HB.out)⟩
                      · rw [if_neg c45] at H
                        have c45b0 : decide (t403 ≤ x9_3) = false := decide_eq_false c45
                        clear c45
                        obtain rfl := Option.some.inj H
                        have hnb48 := NB406_401.out
                        have hnc48 := NB401_406.out
                        have hcz49_0 : wr.cell? ⟨gb406, 0, none⟩ = some (.int .i64 t403) := (blk_cell BK406.out 0).trans rfl
                        have hcz49_1 : wr.cell? ⟨gb406, 1, none⟩ = some (.int .i64 t404) := (blk_cell BK406.out 1).trans rfl
                        have hfz49_0 := blk_frozen BK406.out 0
                        have hfz49_1 := blk_frozen BK406.out 1
                        go_wp2
                        go_ret
                        exact ⟨by first | rfl | (simp [errW_none, errW_some] <;> rfl) | (simp [*, errW_none, errW_some] <;> rfl), by repeat (first | (with_reducible first | exact HB.out | apply below_alloc | apply pw_below_drewN | apply below_drew1 | refine below_set ?_ GE401.out | refine below_set ?_ GE406.out) | exact HB.out)⟩
  · replace c5 := Bool.eq_false_iff.mpr c5
    subst c5
    have H1 : (some false) = some r := by rw [if_neg (show ¬ (false = true) by decide)] at H; exact H
    clear H
    have H := H1
    clear H1
    obtain rfl := Option.some.inj H
    go_enter Try.func10, Try.ntmps10
    go_wp2_with (first | ((with_reducible refine gate_dst (N := 3) rfl ?_); refine box_event ?hg (N := 3) ?hd (cs := #[.int .i64 a0_0, .int .i64 a0_1, .int .i64 a0_2, .int .i64 a0_3, .int .i64 a0_4, .int .i64 a0_5]) (t := 27) ?hr ?_; (case hd => rfl); (case hg => rfl); (case hr => first | (go_simp; done) | (go_simp; rfl)); intro gb401 hg w50 hbox hb; have n0_ := Aside0.mk (below_step (by repeat (first | (with_reducible first | exact HB.out | apply below_alloc | apply pw_below_drewN | apply below_drew1) | exact HB.out)) hb); have n1_ := Aside0.mk (hbox); have n2_ := Aside0.mk ((by rw [hg]; exact (below_size (by repeat (first | (with_reducible first | exact HB.out | apply below_alloc | apply pw_below_drewN | apply below_drew1) | exact HB.out))) : w.heap.size ≤ gb401)); have n3_ := Aside0.mk ((by rw [hg]; exact (below_size (by repeat (first | (with_reducible first | exact HB.out | apply below_alloc | apply pw_below_drewN | apply below_drew1) | exact HB.out))) : w.heap.size ≤ gb401)); clear HB; have HB := n0_; have BK401 := n1_; have GW401 := n2_; have GE401 := n3_; clear n0_ n1_ n2_ n3_; clear hb hbox hg) | ((with_reducible refine gate_callee (f := 11) rfl ?_); refine goesL_ (some 13) rfl rfl Try.func11 (by kernel_rfl) rfl #[] rfl (by (try simp only [List.map_toArray, List.map_cons, List.map_nil]); first | done | rfl | (simp only [List.length_drop, List.length_take]; rfl)) ?_; (with_reducible refine (gangsawlaw42_awake.calls k  false _ A4.out).mono ?_); rintro e w51 ⟨rfl, hb⟩; refine ⟨_, rfl, ?_⟩; have n0_ := Aside0.mk (blk_below (g := gb401) (o := .cells #[.int .i64 a0_0, .int .i64 a0_1, .int .i64 a0_2, .int .i64 a0_3, .int .i64 a0_4, .int .i64 a0_5] 27 (0, 0)) (by (with_reducible repeat (first | refine blk_drewN ?_ _ | refine blk_drew ?_ | refine blk_alloc ?_ _)); exact BK401.out) hb); have n1_ := Aside0.mk (below_step (by repeat (first | (with_reducible first | exact HB.out | apply below_alloc | apply pw_below_drewN | apply below_drew1 | refine below_set ?_ GE401.out) | exact HB.out)) hb); clear BK401; clear HB; have BK401 := n0_; have HB := n1_; clear n0_ n1_; (try clear hb); (try clear hb2); (try clear hk); (try clear hi)))
    go_ret
    exact ⟨by first | rfl | (simp [errW_none, errW_some] <;> rfl) | (simp [*, errW_none, errW_some] <;> rfl), by repeat (first | (with_reducible first | exact HB.out | apply below_alloc | apply pw_below_drewN | apply below_drew1 | refine below_set ?_ GE401.out) | exact HB.out)⟩

/-- THE ONE PURE STATEMENT of gangsawlaw42_StairSpread. -/
def gangsawlaw42_StairSpread.Pure : Prop := ∀ (a0_0 : Int) (a0_1 : Int) (a0_2 : Int) (a0_3 : Int) (a0_4 : Int) (a0_5 : Int) (a1 : Int) (l2 : List Int), g27 ((⟨a0_0, a0_1, a0_2, a0_3, a0_4, a0_5⟩ : S27)) → (gInt .i64) a1 → (gSl (gInt .i64)) l2 → ∃ k, gangsawlaw42_StairSpread.f k a0_0 a0_1 a0_2 a0_3 a0_4 a0_5 a1 l2 = some true
theorem gangsawlaw42_StairSpread.walk (P : gangsawlaw42_StairSpread.Pure) (a0_0 : Int) (a0_1 : Int) (a0_2 : Int) (a0_3 : Int) (a0_4 : Int) (a0_5 : Int) (a1 : Int) (A2 : Option Addr) (c2 : Nat) (l2 : List Int) (w : World) (w0 : g27 ((⟨a0_0, a0_1, a0_2, a0_3, a0_4, a0_5⟩ : S27))) (w1 : (gInt .i64) a1) (w2 : (gSl (gInt .i64)) l2) (hr2 : Kd.C (Kd.int .i64) w A2 l2.length l2) (hc2 : l2.length ≤ c2) :
    Calls Try.prog 10 #[.agg #[.int .i64 a0_0, .int .i64 a0_1, .int .i64 a0_2, .int .i64 a0_3, .int .i64 a0_4, .int .i64 a0_5], .int .i64 a1, .slice A2 l2.length c2] w fun e w' => e = .returned (.bool true) ∧ Below w.heap.size w w' := by
  obtain ⟨k, h⟩ := P a0_0 a0_1 a0_2 a0_3 a0_4 a0_5 a1 l2 w0 w1 w2
  refine (gangsawlaw42_StairSpread.calls k a0_0 a0_1 a0_2 a0_3 a0_4 a0_5 a1 _ _ l2 true w hr2 hc2 h).mono ?_
  rintro e w' ⟨rfl, hd⟩
  exact ⟨rfl, hd⟩

end Go.Proofs.Ytaainbbkengjfaa.XA
