import Derived.Test.YtgacodhpniehiaaXAx2
import Derived.Test.YtgacodhpniehiaaXAx17
namespace Go.Proofs.Ytgacodhpniehiaa.XA
open Flat Go.RowKit Opens YtgacodhpniehiaaW.PrintWords YtgacodhpniehiaaW.PrintLast YtgacodhpniehiaaW.PrintMore
attribute [local go_sem] max2_int min2_int max_two min_two max_three min_three max_four min_four cell_some cell_same
set_option linter.unusedVariables false
set_option linter.unusedSimpArgs false

mutual
def lw_BoxpackBounds.j0 : Nat → List Int → List (S61) → Bool → Int → Int → Int → Int → List (S56) → Option (Bool)
 | 0, _, _, _, _, _, _, _, _ => none
 | k + 1, x1, x2, x15, x409000, x409001, x409002, x409003, x409004 => if x15 = true then (some false) else (lw_BoxpackBounds.j1 k x1 x2 x409000 x409001 x409002 x409003 x409004)
def lw_BoxpackBounds.j1 : Nat → List Int → List (S61) → Int → Int → Int → Int → List (S56) → Option (Bool)
 | 0, _, _, _, _, _, _, _ => none
 | k + 1, x1, x2, x409000, x409001, x409002, x409003, x409004 => (rf_Small.f k x409000 x409001 x409002 x409003 x409004 8).bind fun t410 => (if t410 = true then (if (x1.length : Int) > 600 then (lw_BoxpackBounds.j2 k x1 x2 true x409000 x409001 x409002 x409003 x409004) else (lw_BoxpackBounds.j2 k x1 x2 (decide ((x2.length : Int) > 60)) x409000 x409001 x409002 x409003 x409004)) else (lw_BoxpackBounds.j2 k x1 x2 true x409000 x409001 x409002 x409003 x409004))
def lw_BoxpackBounds.j2 : Nat → List Int → List (S61) → Bool → Int → Int → Int → Int → List (S56) → Option (Bool)
 | 0, _, _, _, _, _, _, _, _ => none
 | k + 1, x1, x2, x28, x409000, x409001, x409002, x409003, x409004 => if x28 = true then (some true) else (lw_BoxpackBounds.j3 k x1 x2 x409000 x409001 x409002 x409003 x409004)
def lw_BoxpackBounds.j3 : Nat → List Int → List (S61) → Int → Int → Int → Int → List (S56) → Option (Bool)
 | 0, _, _, _, _, _, _, _ => none
 | k + 1, x1, x2, x409000, x409001, x409002, x409003, x409004 => (boxpack_Bound.f k x409000 x409001 x409002 x409003 x409004 x1).bind fun bt412 => (lw_BoxpackBounds.j4 k x1 x2 bt412.1 bt412.2 x409000 x409001 x409002 x409003 x409004)
def lw_BoxpackBounds.j4 : Nat → List Int → List (S61) → Int → Int → Int → Int → Int → Int → List (S56) → Option (Bool)
 | 0, _, _, _, _, _, _, _, _, _ => none
 | k + 1, x1, x2, x8, x9, x412000, x412001, x412002, x412003, x412004 => (boxpack_Value.f k x412000 x412001 x412002 x412003 x412004 x2).bind fun bt414 => (lw_BoxpackBounds.j5 k x1 x2 x8 x9 bt414.1 bt414.2 x412000 x412001 x412002 x412003 x412004)
def lw_BoxpackBounds.j5 : Nat → List Int → List (S61) → Int → Int → Int → Int → Int → Int → Int → Int → List (S56) → Option (Bool)
 | 0, _, _, _, _, _, _, _, _, _, _, _ => none
 | k + 1, x1, x2, x8, x9, x10, x11, x412000, x412001, x412002, x412003, x412004 => (boxpack_CheckTable.f k x412000 x412001 x412002 x412003 x412004 x1).bind fun bt416 => (lw_BoxpackBounds.j6 k x1 x2 x8 x9 x10 x11 bt416.1 bt416.2 x412000 x412001 x412002 x412003 x412004)
def lw_BoxpackBounds.j6 : Nat → List Int → List (S61) → Int → Int → Int → Int → Int → Int → Int → Int → Int → Int → List (S56) → Option (Bool)
 | 0, _, _, _, _, _, _, _, _, _, _, _, _, _ => none
 | k + 1, x1, x2, x8, x9, x10, x11, x12, x13, x412000, x412001, x412002, x412003, x412004 => if x9 = x13 then (if x9 = 0 then (lw_BoxpackBounds.j7 k x1 x2 x8 x9 x10 x11 (x12 != (x1.length : Int)) x412000 x412001 x412002 x412003 x412004) else (lw_BoxpackBounds.j7 k x1 x2 x8 x9 x10 x11 false x412000 x412001 x412002 x412003 x412004)) else (lw_BoxpackBounds.j7 k x1 x2 x8 x9 x10 x11 true x412000 x412001 x412002 x412003 x412004)
def lw_BoxpackBounds.j7 : Nat → List Int → List (S61) → Int → Int → Int → Int → Bool → Int → Int → Int → Int → List (S56) → Option (Bool)
 | 0, _, _, _, _, _, _, _, _, _, _, _, _ => none
 | k + 1, x1, x2, x8, x9, x10, x11, x60, x412000, x412001, x412002, x412003, x412004 => if x60 = true then (some false) else (lw_BoxpackBounds.j8 k x1 x2 x8 x9 x10 x11 x412000 x412001 x412002 x412003 x412004)
def lw_BoxpackBounds.j8 : Nat → List Int → List (S61) → Int → Int → Int → Int → Int → Int → Int → Int → List (S56) → Option (Bool)
 | 0, _, _, _, _, _, _, _, _, _, _, _ => none
 | k + 1, x1, x2, x8, x9, x10, x11, x412000, x412001, x412002, x412003, x412004 => if x9 = 0 then (if x11 = 0 then (if x10 ≤ x8 then ((boxpack_Proves.f k x412000 x412001 x412002 x412003 x412004 x1 x2).bind fun t418 => (lw_BoxpackBounds.j9 k (t418 == (x10 == x8)))) else (lw_BoxpackBounds.j9 k false)) else (lw_BoxpackBounds.j9 k true)) else (lw_BoxpackBounds.j9 k true)
def lw_BoxpackBounds.j9 : Nat → Bool → Option (Bool)
 | 0, _ => none
 | k + 1, x6 => some x6
end
def lw_BoxpackBounds.f (k : Nat) (a0_0 : Int) (a0_1 : Int) (a0_2 : Int) (a0_3 : Int) (l0_4 : List (S56)) (l1 : List Int) (l2 : List (S61)) : Option (Bool) := (lw_awake.f k).bind fun t409 => (lw_BoxpackBounds.j0 k l1 l2 (!t409) a0_0 a0_1 a0_2 a0_3 l0_4)
theorem lw_BoxpackBounds.mono_l : ∀ k, (∀ y0 y1 y2 y3 y4 y5 y6 y7, LeO (lw_BoxpackBounds.j0 k y0 y1 y2 y3 y4 y5 y6 y7) (lw_BoxpackBounds.j0 (k + 1) y0 y1 y2 y3 y4 y5 y6 y7)) ∧ (∀ y0 y1 y2 y3 y4 y5 y6, LeO (lw_BoxpackBounds.j1 k y0 y1 y2 y3 y4 y5 y6) (lw_BoxpackBounds.j1 (k + 1) y0 y1 y2 y3 y4 y5 y6)) ∧ (∀ y0 y1 y2 y3 y4 y5 y6 y7, LeO (lw_BoxpackBounds.j2 k y0 y1 y2 y3 y4 y5 y6 y7) (lw_BoxpackBounds.j2 (k + 1) y0 y1 y2 y3 y4 y5 y6 y7)) ∧ (∀ y0 y1 y2 y3 y4 y5 y6, LeO (lw_BoxpackBounds.j3 k y0 y1 y2 y3 y4 y5 y6) (lw_BoxpackBounds.j3 (k + 1) y0 y1 y2 y3 y4 y5 y6)) ∧ (∀ y0 y1 y2 y3 y4 y5 y6 y7 y8, LeO (lw_BoxpackBounds.j4 k y0 y1 y2 y3 y4 y5 y6 y7 y8) (lw_BoxpackBounds.j4 (k + 1) y0 y1 y2 y3 y4 y5 y6 y7 y8)) ∧ (∀ y0 y1 y2 y3 y4 y5 y6 y7 y8 y9 y10, LeO (lw_BoxpackBounds.j5 k y0 y1 y2 y3 y4 y5 y6 y7 y8 y9 y10) (lw_BoxpackBounds.j5 (k + 1) y0 y1 y2 y3 y4 y5 y6 y7 y8 y9 y10)) ∧ (∀ y0 y1 y2 y3 y4 y5 y6 y7 y8 y9 y10 y11 y12, LeO (lw_BoxpackBounds.j6 k y0 y1 y2 y3 y4 y5 y6 y7 y8 y9 y10 y11 y12) (lw_BoxpackBounds.j6 (k + 1) y0 y1 y2 y3 y4 y5 y6 y7 y8 y9 y10 y11 y12)) ∧ (∀ y0 y1 y2 y3 y4 y5 y6 y7 y8 y9 y10 y11, LeO (lw_BoxpackBounds.j7 k y0 y1 y2 y3 y4 y5 y6 y7 y8 y9 y10 y11) (lw_BoxpackBounds.j7 (k + 1) y0 y1 y2 y3 y4 y5 y6 y7 y8 y9 y10 y11)) ∧ (∀ y0 y1 y2 y3 y4 y5 y6 y7 y8 y9 y10, LeO (lw_BoxpackBounds.j8 k y0 y1 y2 y3 y4 y5 y6 y7 y8 y9 y10) (lw_BoxpackBounds.j8 (k + 1) y0 y1 y2 y3 y4 y5 y6 y7 y8 y9 y10)) ∧ (∀ y0, LeO (lw_BoxpackBounds.j9 k y0) (lw_BoxpackBounds.j9 (k + 1) y0))
 | 0 => ⟨fun _ _ _ _ _ _ _ _ r h => by simp [lw_BoxpackBounds.j0] at h, fun _ _ _ _ _ _ _ r h => by simp [lw_BoxpackBounds.j1] at h, fun _ _ _ _ _ _ _ _ r h => by simp [lw_BoxpackBounds.j2] at h, fun _ _ _ _ _ _ _ r h => by simp [lw_BoxpackBounds.j3] at h, fun _ _ _ _ _ _ _ _ _ r h => by simp [lw_BoxpackBounds.j4] at h, fun _ _ _ _ _ _ _ _ _ _ _ r h => by simp [lw_BoxpackBounds.j5] at h, fun _ _ _ _ _ _ _ _ _ _ _ _ _ r h => by simp [lw_BoxpackBounds.j6] at h, fun _ _ _ _ _ _ _ _ _ _ _ _ r h => by simp [lw_BoxpackBounds.j7] at h, fun _ _ _ _ _ _ _ _ _ _ _ r h => by simp [lw_BoxpackBounds.j8] at h, fun _ r h => by simp [lw_BoxpackBounds.j9] at h⟩
 | k + 1 => by
  obtain ⟨ih0, ih1, ih2, ih3, ih4, ih5, ih6, ih7, ih8, ih9⟩ := lw_BoxpackBounds.mono_l k; refine ⟨?_, ?_, ?_, ?_, ?_, ?_, ?_, ?_, ?_, ?_⟩; (all_goals (intros; (first | unfold lw_BoxpackBounds.j0 | unfold lw_BoxpackBounds.j1 | unfold lw_BoxpackBounds.j2 | unfold lw_BoxpackBounds.j3 | unfold lw_BoxpackBounds.j4 | unfold lw_BoxpackBounds.j5 | unfold lw_BoxpackBounds.j6 | unfold lw_BoxpackBounds.j7 | unfold lw_BoxpackBounds.j8 | unfold lw_BoxpackBounds.j9)))
  all_goals (repeat' first
   | (with_reducible exact ih1 _ _ _ _ _ _ _)
   | (with_reducible exact ih2 _ _ _ _ _ _ _ _)
   | (with_reducible exact ih3 _ _ _ _ _ _ _)
   | (with_reducible exact ih4 _ _ _ _ _ _ _ _ _)
   | (with_reducible exact ih5 _ _ _ _ _ _ _ _ _ _ _)
   | (with_reducible exact ih6 _ _ _ _ _ _ _ _ _ _ _ _ _)
   | (with_reducible exact ih7 _ _ _ _ _ _ _ _ _ _ _ _)
   | (with_reducible exact ih8 _ _ _ _ _ _ _ _ _ _ _)
   | (with_reducible exact ih9 _)
   | (with_reducible exact boxpack_Bound.mono _ _ _ _ _ _ _)
   | (with_reducible exact boxpack_CheckTable.mono _ _ _ _ _ _ _)
   | (with_reducible exact boxpack_Proves.mono _ _ _ _ _ _ _ _)
   | (with_reducible exact boxpack_Value.mono _ _ _ _ _ _ _)
   | (with_reducible exact rf_Small.mono _ _ _ _ _ _ _)
   | (with_reducible exact LeO.refl _)
   | (with_reducible refine LeO.ite ?_ ?_)
   | (with_reducible refine LeO.bind ?_ (fun _ => ?_))
   )
theorem lw_BoxpackBounds.mono : ∀ a0 a1 a2 a3 a4 a5 a6 k, LeO (lw_BoxpackBounds.f k a0 a1 a2 a3 a4 a5 a6) (lw_BoxpackBounds.f (k + 1) a0 a1 a2 a3 a4 a5 a6) := by
 intro a0 a1 a2 a3 a4 a5 a6 k
 obtain ⟨ih0, ih1, ih2, ih3, ih4, ih5, ih6, ih7, ih8, ih9⟩ := lw_BoxpackBounds.mono_l k
 unfold lw_BoxpackBounds.f
 repeat' first
   | (with_reducible exact ih0 _ _ _ _ _ _ _ _)
   | (with_reducible exact lw_awake.mono _)
   | (with_reducible refine LeO.bind ?_ (fun _ => ?_))
   
set_option maxHeartbeats 8000000 in
set_option maxRecDepth 100000 in
theorem lw_BoxpackBounds.calls (k : Nat) (a0_0 : Int) (a0_1 : Int) (a0_2 : Int) (a0_3 : Int) (A0_4 : Option Addr) (c0_4 : Nat) (l0_4 : List (S56)) (A1 : Option Addr) (c1 : Nat) (l1 : List Int) (A2 : Option Addr) (c2 : Nat) (l2 : List (S61)) (r : Bool) (w : World) (hr0_4 : Kd.C k56 w A0_4 l0_4.length l0_4) (hc0_4 : l0_4.length ≤ c0_4) (hr1 : Kd.C (Kd.int .i64) w A1 l1.length l1) (hc1 : l1.length ≤ c1) (hr2 : Kd.C k61 w A2 l2.length l2) (hc2 : l2.length ≤ c2) (h : lw_BoxpackBounds.f k a0_0 a0_1 a0_2 a0_3 l0_4 l1 l2 = some r) :
  Calls Try.prog 7 #[.agg #[.int .i64 a0_0, .int .i64 a0_1, .int .i64 a0_2, .int .i64 a0_3, .slice A0_4 l0_4.length c0_4], .slice A1 l1.length c1, .slice A2 l2.length c2] w fun e w' => e = .returned (.bool r) ∧ Below w.heap.size w w' := by
 have hu26 := Try.underlying26
 have hu33 := Try.underlying33
 have HR0_4 := ak hr0_4
 have HC0_4 := ak hc0_4
 clear hr0_4 hc0_4
 have HR1 := ak hr1
 have HC1 := ak hc1
 clear hr1 hc1
 have HR2 := ak hr2
 have HC2 := ak hc2
 clear hr2 hc2
 have HB := ak (Below.refl w.heap.size w)
 have H : ((lw_awake.f k).bind fun t409 => (lw_BoxpackBounds.j0 k l1 l2 (!t409) a0_0 a0_1 a0_2 a0_3 l0_4)) = some r := h
 clear h
 have HC4 := ak H
 clear H
 go_enter Try.func7, Try.ntmps7
 go_upto_region 1 with (first | ((with_reducible refine gate_dst (N := 3) rfl ?_); refine box_event ?hg (N := 3) ?hd (cs := #[.int .i64 a0_0, .int .i64 a0_1, .int .i64 a0_2, .int .i64 a0_3, .slice A0_4 l0_4.length c0_4]) (t := 26) ?hr ?_; (case hd => rfl); (case hg => rfl); (case hr => (go_simp; done)); intro gb408 hg w5 hbox hb; have BK408 := ak (hbox); have GW408 := gw_ HB hg; have GE408 := gw_ HB hg; replace HB := hs_ HB hb; clear hb hbox hg))
 refine cutU_ [none, none, none, none, none, none, none, none, none, none, none, none, none, none, some 14, some 15, some 16, some 17, some 18, some 19, some 20, some 21, some 22, some 23, some 24, some 25, some 26, some 27, some 28, some 29, some 30, some 31, some 32, some 33, some 34, some 35, some 36, some 37, some 38, some 39, some 40, some 41, some 42, some 43, some 44, some 45, some 46, some 47, some 48, some 49, some 50, some 51, some 52, some 53, some 54, some 55, some 56, some 57, some 58, some 59, some 60, some 61, some 62, some 63, some 64, some 65, some 66, some 67, some 68, some 69, some 70, some 71, some 72, some 73, some 74, some 75, some 76, some 77, some 78, some 79, some 80, some 81] (fun u_ wc_ => (fun v15 wc => ∃ (kq : Nat) (x15_3 : Bool), v15 = .bool x15_3 ∧ Aside0 (lw_BoxpackBounds.j0 kq l1 l2 x15_3 a0_0 a0_1 a0_2 a0_3 l0_4 = some r) ∧ Aside0 (kq ≤ k) ∧ Aside0 (wc.heap[gb408]? = some (.cells #[.int .i64 a0_0, .int .i64 a0_1, .int .i64 a0_2, .int .i64 a0_3, (.slice A0_4 l0_4.length c0_4)] 26 (0, 0))) ∧ Aside0 (Below w.heap.size w wc)) (u_ 15) wc_) ?rest0 ?first0
 case' rest0 => (intro u_ wc hcut; dsimp only [fg_, List.toList_toArray] at hcut ⊢; generalize u_ 15 = u15 at hcut ⊢)
 case' first0 => (intro _ _ _ _)
 case first0 =>
  have H := HC4.1; clear HC4; obtain ⟨t409, A60, H⟩ := obs_ H; replace H : (lw_BoxpackBounds.j0 k l1 l2 (!t409) a0_0 a0_1 a0_2 a0_3 l0_4) = some r := H; have A6 := ak A60; clear A60; have H' := ak H; clear H; (go_wp2_with (first | ((with_reducible refine gate_callee (f := 10) rfl ?_); refine goesL_ (some 14) rfl rfl Try.func10 (by kernel_rfl) rfl #[] rfl am_ ?_; (with_reducible refine (lw_awake.calls k  t409 _ A6.1).mono ?_); rintro e w7 ⟨rfl, hb⟩; refine ⟨_, rfl, ?_⟩; replace BK408 := bb_ BK408 hb; replace HB := hs_ HB hb; (try clear hb)))); refine Met.intro ?_; (go_step); refine meetU_ ?rel
  case rel => exact ⟨_, (!t409), (by rfl), H', ⟨by omega⟩, ⟨bk_ BK408⟩, ⟨hb_ HB⟩⟩
 clear HC4; obtain ⟨kq, x15_3, rfl, HA, HJ3, BK408, HB⟩ := hcut
 cases kq with
 | zero => exact absurd HA.1 (by simp [lw_BoxpackBounds.j0])
 | succ kj3 =>
  have H := HA.1; clear HA; simp only [lw_BoxpackBounds.j0] at H; have HC8 := ak H; clear H; (go_upto_if 15 with (fail)); (refine cutU_ [none, none, none, none, none, none, some 6, none, none, none, none, none, none, none, some 14, some 15, some 16, some 17, some 18, some 19, some 20, some 21, some 22, some 23, some 24, some 25, some 26, some 27, some 28, some 29, some 30, some 31, some 32, some 33, some 34, some 35, some 36, some 37, some 38, some 39, some 40, some 41, some 42, some 43, some 44, some 45, some 46, some 47, some 48, some 49, some 50, some 51, some 52, some 53, some 54, some 55, some 56, some 57, some 58, some 59, some 60, some 61, some 62, some 63, some 64, some 65, some 66, some 67, some 68, some 69, some 70, some 71, some 72, some 73, some 74, some 75, some 76, some 77, some 78, some 79, some 80, some 81] (fun u_ wc_ => (fun wc => ∃ (kq : Nat), Aside0 (lw_BoxpackBounds.j1 kq l1 l2 a0_0 a0_1 a0_2 a0_3 l0_4 = some r) ∧ Aside0 (kq ≤ kj3) ∧ Aside0 (wc.heap[gb408]? = some (.cells #[.int .i64 a0_0, .int .i64 a0_1, .int .i64 a0_2, .int .i64 a0_3, (.slice A0_4 l0_4.length c0_4)] 26 (0, 0))) ∧ Aside0 (Below w.heap.size w wc))  wc_) ?rest1 ?first1); (case' rest1 => (intro u_ wc hcut; dsimp only [fg_, List.toList_toArray] at hcut ⊢)); (case' first1 => (intro _ _ _ _))
  case first1 =>
   have H := HC8.1; clear HC8; (by_cases c9 : x15_3 = true)
   ·subst c9; (replace H : (some false) = some r := by rw [if_pos rfl] at H; exact H); obtain rfl := Option.some.inj H; (go_wp2); (go_ret); (exact ⟨by rfl, hb_ HB⟩)
   replace c9 := Bool.eq_false_iff.mpr c9
   subst c9; (replace H : (lw_BoxpackBounds.j1 kj3 l1 l2 a0_0 a0_1 a0_2 a0_3 l0_4) = some r := by rw [if_neg (show ¬ (false = true) by decide)] at H; exact H); have H' := ak H; clear H; (go_wp2); refine Met.intro ?_; (go_step); refine meetU_ ?rel
   case rel => exact ⟨_, H', ⟨by have := HJ3.1; omega⟩, ⟨bk_ BK408⟩, ⟨hb_ HB⟩⟩
  clear HC8; obtain ⟨kq, HA, HJ7, BK408, HB⟩ := hcut
  cases kq with
  | zero => exact absurd HA.1 (by simp [lw_BoxpackBounds.j1])
  | succ kj7 =>
   have H := HA.1; clear HA; simp only [lw_BoxpackBounds.j1] at H; have HC10 := ak H; clear H; (go_upto_region 3 with (fail)); (refine cutU_ [none, none, none, none, none, none, none, none, none, none, none, none, none, none, some 14, some 15, some 16, some 17, some 18, some 19, some 20, some 21, some 22, some 23, some 24, some 25, some 26, some 27, some 28, some 29, some 30, some 31, some 32, some 33, some 34, some 35, some 36, some 37, some 38, some 39, some 40, some 41, some 42, some 43, some 44, some 45, some 46, some 47, some 48, some 49, some 50, some 51, some 52, some 53, some 54, some 55, some 56, some 57, some 58, some 59, some 60, some 61, some 62, some 63, some 64, some 65, some 66, some 67, some 68, some 69, some 70, some 71, some 72, some 73, some 74, some 75, some 76, some 77, some 78, some 79, some 80, some 81] (fun u_ wc_ => (fun v28 wc => ∃ (kq : Nat) (x28_9 : Bool), v28 = .bool x28_9 ∧ Aside0 (lw_BoxpackBounds.j2 kq l1 l2 x28_9 a0_0 a0_1 a0_2 a0_3 l0_4 = some r) ∧ Aside0 (kq ≤ kj7) ∧ Aside0 (wc.heap[gb408]? = some (.cells #[.int .i64 a0_0, .int .i64 a0_1, .int .i64 a0_2, .int .i64 a0_3, (.slice A0_4 l0_4.length c0_4)] 26 (0, 0))) ∧ Aside0 (Below w.heap.size w wc)) (u_ 28) wc_) ?rest2 ?first2); (case' rest2 => (intro u_ wc hcut; dsimp only [fg_, List.toList_toArray] at hcut ⊢; generalize u_ 28 = u28 at hcut ⊢)); (case' first2 => (intro _ _ _ _))
   case first2 =>
    have H := HC10.1; clear HC10; obtain ⟨t410, A110, H⟩ := obs_ H; (replace H : (if t410 = true then (if (l1.length : Int) > 600 then (lw_BoxpackBounds.j2 kj7 l1 l2 true a0_0 a0_1 a0_2 a0_3 l0_4) else (lw_BoxpackBounds.j2 kj7 l1 l2 (decide ((l2.length : Int) > 60)) a0_0 a0_1 a0_2 a0_3 l0_4)) else (lw_BoxpackBounds.j2 kj7 l1 l2 true a0_0 a0_1 a0_2 a0_3 l0_4)) = some r := H); have A11 := ak A110; clear A110; (by_cases c12 : t410 = true)
    ·subst c12
     (replace H : (if (l1.length : Int) > 600 then (lw_BoxpackBounds.j2 kj7 l1 l2 true a0_0 a0_1 a0_2 a0_3 l0_4) else (lw_BoxpackBounds.j2 kj7 l1 l2 (decide ((l2.length : Int) > 60)) a0_0 a0_1 a0_2 a0_3 l0_4)) = some r := by rw [if_pos rfl] at H; exact H); (by_cases c13 : (l1.length : Int) > 600)
     ·rw [if_pos c13] at H
      have c13b0 := decide_eq_true c13; (have c13b1 : decide (600 < l1.length) = true := decide_eq_true (by omega)); clear c13; have H' := ak H; clear H; obtain ⟨hcz14_0, hcz14_1, hcz14_2, hcz14_3, hcz14_4, hfz14_0, hfz14_1, hfz14_2, hfz14_3, hfz14_4⟩ := cz5_ BK408; (go_wp2_with (first | ((with_reducible refine gate_callee (f := 11) rfl ?_); refine goesL_ (some 17) rfl rfl Try.func11 (by kernel_rfl) rfl #[.agg #[.int .i64 a0_0, .int .i64 a0_1, .int .i64 a0_2, .int .i64 a0_3, .slice A0_4 l0_4.length c0_4], .int .i64 8] rfl am_ ?_; (with_reducible refine (rf_Small.calls kj7 a0_0 a0_1 a0_2 a0_3 _ _ l0_4 8 true _ ?side1 ?side2 A11.1).mono ?_); (case side1 => exact (Kd.C_below HR0_4.1 HB.1)); (case side2 => exact HC0_4.1); rintro e w15 ⟨rfl, hb⟩; refine ⟨_, rfl, ?_⟩; replace BK408 := bb_ BK408 hb; replace HB := hs_ HB hb; (try clear hb)))); refine Met.intro ?_; (go_step); refine meetU_ ?rel
      case rel => exact ⟨_, (true), (by rfl), H', ⟨by have := HJ3.1; have := HJ7.1; omega⟩, ⟨bk_ BK408⟩, ⟨hb_ HB⟩⟩
     rw [if_neg c13] at H
     have c13b0 := decide_eq_false c13; (have c13b1 : decide (600 < l1.length) = false := decide_eq_false (by omega)); clear c13; have H' := ak H; clear H; obtain ⟨hcz16_0, hcz16_1, hcz16_2, hcz16_3, hcz16_4, hfz16_0, hfz16_1, hfz16_2, hfz16_3, hfz16_4⟩ := cz5_ BK408; (go_wp2_with (first | ((with_reducible refine gate_callee (f := 11) rfl ?_); refine goesL_ (some 17) rfl rfl Try.func11 (by kernel_rfl) rfl #[.agg #[.int .i64 a0_0, .int .i64 a0_1, .int .i64 a0_2, .int .i64 a0_3, .slice A0_4 l0_4.length c0_4], .int .i64 8] rfl am_ ?_; (with_reducible refine (rf_Small.calls kj7 a0_0 a0_1 a0_2 a0_3 _ _ l0_4 8 true _ ?side1 ?side2 A11.1).mono ?_); (case side1 => exact (Kd.C_below HR0_4.1 HB.1)); (case side2 => exact HC0_4.1); rintro e w17 ⟨rfl, hb⟩; refine ⟨_, rfl, ?_⟩; replace BK408 := bb_ BK408 hb; replace HB := hs_ HB hb; (try clear hb)))); refine Met.intro ?_; (go_step); refine meetU_ ?rel
     case rel => exact ⟨_, (decide ((l2.length : Int) > 60)), (by rfl), H', ⟨by have := HJ3.1; have := HJ7.1; omega⟩, ⟨bk_ BK408⟩, ⟨hb_ HB⟩⟩
    replace c12 := Bool.eq_false_iff.mpr c12
    subst c12; (replace H : (lw_BoxpackBounds.j2 kj7 l1 l2 true a0_0 a0_1 a0_2 a0_3 l0_4) = some r := by rw [if_neg (show ¬ (false = true) by decide)] at H; exact H); have H' := ak H; clear H; obtain ⟨hcz18_0, hcz18_1, hcz18_2, hcz18_3, hcz18_4, hfz18_0, hfz18_1, hfz18_2, hfz18_3, hfz18_4⟩ := cz5_ BK408; (go_wp2_with (first | ((with_reducible refine gate_callee (f := 11) rfl ?_); refine goesL_ (some 17) rfl rfl Try.func11 (by kernel_rfl) rfl #[.agg #[.int .i64 a0_0, .int .i64 a0_1, .int .i64 a0_2, .int .i64 a0_3, .slice A0_4 l0_4.length c0_4], .int .i64 8] rfl am_ ?_; (with_reducible refine (rf_Small.calls kj7 a0_0 a0_1 a0_2 a0_3 _ _ l0_4 8 false _ ?side1 ?side2 A11.1).mono ?_); (case side1 => exact (Kd.C_below HR0_4.1 HB.1)); (case side2 => exact HC0_4.1); rintro e w19 ⟨rfl, hb⟩; refine ⟨_, rfl, ?_⟩; replace BK408 := bb_ BK408 hb; replace HB := hs_ HB hb; (try clear hb)))); refine Met.intro ?_; (go_step); refine meetU_ ?rel
    case rel => exact ⟨_, (true), (by rfl), H', ⟨by have := HJ3.1; have := HJ7.1; omega⟩, ⟨bk_ BK408⟩, ⟨hb_ HB⟩⟩
   clear HC10; obtain ⟨kq, x28_9, rfl, HA, HJ9, BK408, HB⟩ := hcut
   cases kq with
   | zero => exact absurd HA.1 (by simp [lw_BoxpackBounds.j2])
   | succ kj9 =>
    have H := HA.1; clear HA; simp only [lw_BoxpackBounds.j2] at H; have HC20 := ak H; clear H; (go_upto_if 28 with (fail)); (refine cutU_ [none, none, none, none, none, none, some 6, none, none, none, none, none, none, none, some 14, some 15, some 16, some 17, some 18, some 19, some 20, some 21, some 22, some 23, some 24, some 25, some 26, some 27, some 28, some 29, some 30, some 31, some 32, some 33, some 34, some 35, some 36, some 37, some 38, some 39, some 40, some 41, some 42, some 43, some 44, some 45, some 46, some 47, some 48, some 49, some 50, some 51, some 52, some 53, some 54, some 55, some 56, some 57, some 58, some 59, some 60, some 61, some 62, some 63, some 64, some 65, some 66, some 67, some 68, some 69, some 70, some 71, some 72, some 73, some 74, some 75, some 76, some 77, some 78, some 79, some 80, some 81] (fun u_ wc_ => (fun wc => ∃ (kq : Nat), Aside0 (lw_BoxpackBounds.j3 kq l1 l2 a0_0 a0_1 a0_2 a0_3 l0_4 = some r) ∧ Aside0 (kq ≤ kj9) ∧ Aside0 (wc.heap[gb408]? = some (.cells #[.int .i64 a0_0, .int .i64 a0_1, .int .i64 a0_2, .int .i64 a0_3, (.slice A0_4 l0_4.length c0_4)] 26 (0, 0))) ∧ Aside0 (Below w.heap.size w wc))  wc_) ?rest3 ?first3); (case' rest3 => (intro u_ wc hcut; dsimp only [fg_, List.toList_toArray] at hcut ⊢)); (case' first3 => (intro _ _ _ _))
    case first3 =>
     have H := HC20.1; clear HC20; (by_cases c21 : x28_9 = true)
     ·subst c21; (replace H : (some true) = some r := by rw [if_pos rfl] at H; exact H); obtain rfl := Option.some.inj H; (go_wp2); (go_ret); (exact ⟨by rfl, hb_ HB⟩)
     replace c21 := Bool.eq_false_iff.mpr c21
     subst c21; (replace H : (lw_BoxpackBounds.j3 kj9 l1 l2 a0_0 a0_1 a0_2 a0_3 l0_4) = some r := by rw [if_neg (show ¬ (false = true) by decide)] at H; exact H); have H' := ak H; clear H; (go_wp2); refine Met.intro ?_; (go_step); refine meetU_ ?rel
     case rel => exact ⟨_, H', ⟨by have := HJ3.1; have := HJ7.1; have := HJ9.1; omega⟩, ⟨bk_ BK408⟩, ⟨hb_ HB⟩⟩
    clear HC20; obtain ⟨kq, HA, HJ19, BK408, HB⟩ := hcut
    cases kq with
    | zero => exact absurd HA.1 (by simp [lw_BoxpackBounds.j3])
    | succ kj19 =>
     have H := HA.1; clear HA; simp only [lw_BoxpackBounds.j3] at H; have HC22 := ak H; clear H; obtain ⟨hcz23_0, hcz23_1, hcz23_2, hcz23_3, hcz23_4, hfz23_0, hfz23_1, hfz23_2, hfz23_3, hfz23_4⟩ := cz5_ BK408; (go_upto_region 6 with (first | ((with_reducible refine gate_dst (N := 7) rfl ?_); refine box_event ?hg (N := 7) ?hd (cs := #[.int .i64 0, .int .i64 0, .int .i64 0, .int .i64 0, .slice none 0 0]) (t := 33) ?hr ?_; (case hd => rfl); (case hg => rfl); (case hr => (go_simp; done)); intro gb411 hg w24 hbox hb; have BK411 := ak (hbox); have GW411 := gw_ HB hg; have GE411 := gw_ HB hg; replace HB := hs_ HB hb; have NB408_411 := nl_ BK408 hg; have NB411_408 := nr_ BK408 hg; replace BK408 := bb_ BK408 hb; clear hb hbox hg; have hnb25 := NB411_408.1; have hnc25 := NB408_411.1; obtain ⟨hcz26_0, hcz26_1, hcz26_2, hcz26_3, hcz26_4, hfz26_0, hfz26_1, hfz26_2, hfz26_3, hfz26_4⟩ := cz5_ BK411))); (refine cutU_ [none, none, none, none, none, none, none, none, some 8, some 9, none, none, none, none, some 14, some 15, some 16, some 17, some 18, some 19, some 20, some 21, some 22, some 23, some 24, some 25, some 26, some 27, some 28, some 29, some 30, some 31, some 32, some 33, some 34, some 35, some 36, some 37, some 38, some 39, some 40, some 41, some 42, some 43, some 44, some 45, some 46, some 47, some 48, some 49, some 50, some 51, some 52, some 53, some 54, some 55, some 56, some 57, some 58, some 59, some 60, some 61, some 62, some 63, some 64, some 65, some 66, some 67, some 68, some 69, some 70, some 71, some 72, some 73, some 74, some 75, some 76, some 77, some 78, some 79, some 80, some 81] (fun u_ wc_ => (fun v8 v9 wc => ∃ (kq : Nat) (x8_21 : Int) (x9_21 : Int), v8 = .int .i64 x8_21 ∧ v9 = .int .i64 x9_21 ∧ Aside0 (lw_BoxpackBounds.j4 kq l1 l2 x8_21 x9_21 a0_0 a0_1 a0_2 a0_3 l0_4 = some r) ∧ Aside0 (kq ≤ kj19) ∧ Aside0 (wc.heap[gb408]? = some (.cells #[.int .i64 a0_0, .int .i64 a0_1, .int .i64 a0_2, .int .i64 a0_3, (.slice A0_4 l0_4.length c0_4)] 26 (0, 0))) ∧ Aside0 (wc.heap[gb411]? = some (.cells #[.int .i64 a0_0, .int .i64 a0_1, .int .i64 a0_2, .int .i64 a0_3, (.slice A0_4 l0_4.length c0_4)] 33 (0, 0))) ∧ Aside0 (Below w.heap.size w wc)) (u_ 8) (u_ 9) wc_) ?rest4 ?first4); (case' rest4 => (intro u_ wc hcut; dsimp only [fg_, List.toList_toArray] at hcut ⊢; generalize u_ 8 = u8 at hcut ⊢; generalize u_ 9 = u9 at hcut ⊢)); (case' first4 => (intro _ _ _ _))
     case first4 =>
      have H := HC22.1; clear HC22; obtain ⟨⟨t412, t413⟩, A270, H⟩ := obs_ H; replace H : (lw_BoxpackBounds.j4 kj19 l1 l2 t412 t413 a0_0 a0_1 a0_2 a0_3 l0_4) = some r := H; have A27 := ak A270; clear A270; have H' := ak H; clear H; have hnb28 := NB411_408.1; have hnc28 := NB408_411.1; obtain ⟨hcz29_0, hcz29_1, hcz29_2, hcz29_3, hcz29_4, hfz29_0, hfz29_1, hfz29_2, hfz29_3, hfz29_4⟩ := cz5_ BK411; (go_wp2_with (first | ((with_reducible refine gate_callee (f := 22) rfl ?_); refine goesL_ (some 33) rfl rfl Try.func22 (by kernel_rfl) rfl #[.agg #[.int .i64 a0_0, .int .i64 a0_1, .int .i64 a0_2, .int .i64 a0_3, .slice A0_4 l0_4.length c0_4], .slice A1 l1.length c1] rfl am_ ?_; (with_reducible refine (boxpack_Bound.calls kj19 a0_0 a0_1 a0_2 a0_3 _ _ l0_4 _ _ l1 t412 t413 _ ?side1 ?side2 ?side3 ?side4 A27.1).mono ?_); (case side1 => exact Kd.C_below HR0_4.1 (hb_ HB)); (case side2 => exact HC0_4.1); (case side3 => exact Kd.C_below HR1.1 (hb_ HB)); (case side4 => exact HC1.1); rintro e w30 ⟨rfl, hb⟩; refine ⟨_, rfl, ?_⟩; replace BK408 := ak (blk_below (g := gb408) (o := .cells #[.int .i64 a0_0, .int .i64 a0_1, .int .i64 a0_2, .int .i64 a0_3, .slice A0_4 l0_4.length c0_4] 26 (0, 0)) (by refine blk_far ?_ NB408_411.1 _; refine blk_far ?_ NB408_411.1 _; refine blk_far ?_ NB408_411.1 _; refine blk_far ?_ NB408_411.1 _; refine blk_far ?_ NB408_411.1 _; exact BK408.1) hb); replace BK411 := ak (blk_below (g := gb411) (o := .cells #[.int .i64 a0_0, .int .i64 a0_1, .int .i64 a0_2, .int .i64 a0_3, .slice A0_4 l0_4.length c0_4] 33 (0, 0)) (by refine blk_put (cs := #[.int .i64 a0_0, .int .i64 a0_1, .int .i64 a0_2, .int .i64 a0_3, .slice none 0 0]) ?_ 4 _ rfl; refine blk_put (cs := #[.int .i64 a0_0, .int .i64 a0_1, .int .i64 a0_2, .int .i64 0, .slice none 0 0]) ?_ 3 _ rfl; refine blk_put (cs := #[.int .i64 a0_0, .int .i64 a0_1, .int .i64 0, .int .i64 0, .slice none 0 0]) ?_ 2 _ rfl; refine blk_put (cs := #[.int .i64 a0_0, .int .i64 0, .int .i64 0, .int .i64 0, .slice none 0 0]) ?_ 1 _ rfl; refine blk_put (cs := #[.int .i64 0, .int .i64 0, .int .i64 0, .int .i64 0, .slice none 0 0]) ?_ 0 _ rfl; exact BK411.1) hb); replace HB := hs_ HB hb; (try clear hb))))
      refine Met.intro ?_; (go_step); refine meetU_ ?rel
      case rel => exact ⟨_, (t412), (t413), (by rfl), (by rfl), H', ⟨by have := HJ3.1; have := HJ7.1; have := HJ9.1; have := HJ19.1; omega⟩, ⟨bk_ BK408⟩, ⟨bk_ BK411⟩, ⟨hb_ HB⟩⟩
     clear HC22; (try clear hcz23_0); (try clear hcz23_1); (try clear hcz23_2); (try clear hcz23_3); (try clear hcz23_4); (try clear hcz26_0); (try clear hcz26_1); (try clear hcz26_2); (try clear hcz26_3); (try clear hcz26_4); (try clear hfz23_0); (try clear hfz23_1); (try clear hfz23_2); (try clear hfz23_3); (try clear hfz23_4); (try clear hfz26_0); (try clear hfz26_1); (try clear hfz26_2); (try clear hfz26_3); (try clear hfz26_4); obtain ⟨kq, x8_21, x9_21, rfl, rfl, HA, HJ21, BK408, BK411, HB⟩ := hcut
     cases kq with
     | zero => exact absurd HA.1 (by simp [lw_BoxpackBounds.j4])
     | succ kj21 =>
      have H := HA.1; clear HA; simp only [lw_BoxpackBounds.j4] at H; have HC31 := ak H; clear H; (go_upto_region 7 with (fail)); (refine cutU_ [none, none, none, none, none, none, none, none, none, none, some 10, some 11, none, none, some 14, some 15, some 16, some 17, some 18, some 19, some 20, some 21, some 22, some 23, some 24, some 25, some 26, some 27, some 28, some 29, some 30, some 31, some 32, some 33, some 34, some 35, some 36, some 37, some 38, some 39, some 40, some 41, some 42, some 43, some 44, some 45, some 46, some 47, some 48, some 49, some 50, some 51, some 52, some 53, some 54, some 55, some 56, some 57, some 58, some 59, some 60, some 61, some 62, some 63, some 64, some 65, some 66, some 67, some 68, some 69, some 70, some 71, some 72, some 73, some 74, some 75, some 76, some 77, some 78, some 79, some 80, some 81] (fun u_ wc_ => (fun v10 v11 wc => ∃ (kq : Nat) (x10_30 : Int) (x11_30 : Int), v10 = .int .i64 x10_30 ∧ v11 = .int .i64 x11_30 ∧ Aside0 (lw_BoxpackBounds.j5 kq l1 l2 x8_21 x9_21 x10_30 x11_30 a0_0 a0_1 a0_2 a0_3 l0_4 = some r) ∧ Aside0 (kq ≤ kj21) ∧ Aside0 (wc.heap[gb408]? = some (.cells #[.int .i64 a0_0, .int .i64 a0_1, .int .i64 a0_2, .int .i64 a0_3, (.slice A0_4 l0_4.length c0_4)] 26 (0, 0))) ∧ Aside0 (wc.heap[gb411]? = some (.cells #[.int .i64 a0_0, .int .i64 a0_1, .int .i64 a0_2, .int .i64 a0_3, (.slice A0_4 l0_4.length c0_4)] 33 (0, 0))) ∧ Aside0 (Below w.heap.size w wc)) (u_ 10) (u_ 11) wc_) ?rest5 ?first5); (case' rest5 => (intro u_ wc hcut; dsimp only [fg_, List.toList_toArray] at hcut ⊢; generalize u_ 10 = u10 at hcut ⊢; generalize u_ 11 = u11 at hcut ⊢)); (case' first5 => (intro _ _ _ _))
      case first5 =>
       have H := HC31.1; clear HC31; obtain ⟨⟨t414, t415⟩, A320, H⟩ := obs_ H; replace H : (lw_BoxpackBounds.j5 kj21 l1 l2 x8_21 x9_21 t414 t415 a0_0 a0_1 a0_2 a0_3 l0_4) = some r := H; have A32 := ak A320; clear A320; have H' := ak H; clear H; have hnb33 := NB411_408.1; have hnc33 := NB408_411.1; obtain ⟨hcz34_0, hcz34_1, hcz34_2, hcz34_3, hcz34_4, hfz34_0, hfz34_1, hfz34_2, hfz34_3, hfz34_4⟩ := cz5_ BK411; (go_wp2_with (first | ((with_reducible refine gate_callee (f := 12) rfl ?_); refine goesL_ (some 39) rfl rfl Try.func12 (by kernel_rfl) rfl #[.agg #[.int .i64 a0_0, .int .i64 a0_1, .int .i64 a0_2, .int .i64 a0_3, .slice A0_4 l0_4.length c0_4], .slice A2 l2.length c2] rfl am_ ?_; (with_reducible refine (boxpack_Value.calls kj21 a0_0 a0_1 a0_2 a0_3 _ _ l0_4 _ _ l2 t414 t415 _ ?side1 ?side2 ?side3 ?side4 A32.1).mono ?_); (case side1 => exact (Kd.C_below HR0_4.1 HB.1)); (case side2 => exact HC0_4.1); (case side3 => exact (Kd.C_below HR2.1 HB.1)); (case side4 => exact HC2.1); rintro e w35 ⟨rfl, hb⟩; refine ⟨_, rfl, ?_⟩; replace BK408 := bb_ BK408 hb; replace BK411 := bb_ BK411 hb; replace HB := hs_ HB hb; (try clear hb)))); refine Met.intro ?_; (go_step); refine meetU_ ?rel
       case rel => exact ⟨_, (t414), (t415), (by rfl), (by rfl), H', ⟨by have := HJ3.1; have := HJ7.1; have := HJ9.1; have := HJ19.1; have := HJ21.1; omega⟩, ⟨bk_ BK408⟩, ⟨bk_ BK411⟩, ⟨hb_ HB⟩⟩
      clear HC31; obtain ⟨kq, x10_30, x11_30, rfl, rfl, HA, HJ30, BK408, BK411, HB⟩ := hcut
      cases kq with
      | zero => exact absurd HA.1 (by simp [lw_BoxpackBounds.j5])
      | succ kj30 =>
       have H := HA.1; clear HA; simp only [lw_BoxpackBounds.j5] at H; have HC36 := ak H; clear H; (go_upto_region 8 with (fail)); (refine cutU_ [none, none, none, none, none, none, none, none, none, none, none, none, some 12, some 13, some 14, some 15, some 16, some 17, some 18, some 19, some 20, some 21, some 22, some 23, some 24, some 25, some 26, some 27, some 28, some 29, some 30, some 31, some 32, some 33, some 34, some 35, some 36, some 37, some 38, some 39, some 40, some 41, some 42, some 43, some 44, some 45, some 46, some 47, some 48, some 49, some 50, some 51, some 52, some 53, some 54, some 55, some 56, some 57, some 58, some 59, some 60, some 61, some 62, some 63, some 64, some 65, some 66, some 67, some 68, some 69, some 70, some 71, some 72, some 73, some 74, some 75, some 76, some 77, some 78, some 79, some 80, some 81] (fun u_ wc_ => (fun v12 v13 wc => ∃ (kq : Nat) (x12_35 : Int) (x13_35 : Int), v12 = .int .i64 x12_35 ∧ v13 = .int .i64 x13_35 ∧ Aside0 (lw_BoxpackBounds.j6 kq l1 l2 x8_21 x9_21 x10_30 x11_30 x12_35 x13_35 a0_0 a0_1 a0_2 a0_3 l0_4 = some r) ∧ Aside0 (kq ≤ kj30) ∧ Aside0 (wc.heap[gb408]? = some (.cells #[.int .i64 a0_0, .int .i64 a0_1, .int .i64 a0_2, .int .i64 a0_3, (.slice A0_4 l0_4.length c0_4)] 26 (0, 0))) ∧ Aside0 (wc.heap[gb411]? = some (.cells #[.int .i64 a0_0, .int .i64 a0_1, .int .i64 a0_2, .int .i64 a0_3, (.slice A0_4 l0_4.length c0_4)] 33 (0, 0))) ∧ Aside0 (Below w.heap.size w wc)) (u_ 12) (u_ 13) wc_) ?rest6 ?first6); (case' rest6 => (intro u_ wc hcut; dsimp only [fg_, List.toList_toArray] at hcut ⊢; generalize u_ 12 = u12 at hcut ⊢; generalize u_ 13 = u13 at hcut ⊢)); (case' first6 => (intro _ _ _ _))
       case first6 =>
        have H := HC36.1; clear HC36; obtain ⟨⟨t416, t417⟩, A370, H⟩ := obs_ H; replace H : (lw_BoxpackBounds.j6 kj30 l1 l2 x8_21 x9_21 x10_30 x11_30 t416 t417 a0_0 a0_1 a0_2 a0_3 l0_4) = some r := H; have A37 := ak A370; clear A370; have H' := ak H; clear H; have hnb38 := NB411_408.1; have hnc38 := NB408_411.1; obtain ⟨hcz39_0, hcz39_1, hcz39_2, hcz39_3, hcz39_4, hfz39_0, hfz39_1, hfz39_2, hfz39_3, hfz39_4⟩ := cz5_ BK411; (go_wp2_with (first | ((with_reducible refine gate_callee (f := 21) rfl ?_); refine goesL_ (some 45) rfl rfl Try.func21 (by kernel_rfl) rfl #[.agg #[.int .i64 a0_0, .int .i64 a0_1, .int .i64 a0_2, .int .i64 a0_3, .slice A0_4 l0_4.length c0_4], .slice A1 l1.length c1] rfl am_ ?_; (with_reducible refine (boxpack_CheckTable.calls kj30 a0_0 a0_1 a0_2 a0_3 _ _ l0_4 _ _ l1 t416 t417 _ ?side1 ?side2 ?side3 ?side4 A37.1).mono ?_); (case side1 => exact (Kd.C_below HR0_4.1 HB.1)); (case side2 => exact HC0_4.1); (case side3 => exact (Kd.C_below HR1.1 HB.1)); (case side4 => exact HC1.1); rintro e w40 ⟨rfl, hb⟩; refine ⟨_, rfl, ?_⟩; replace BK408 := bb_ BK408 hb; replace BK411 := bb_ BK411 hb; replace HB := hs_ HB hb; (try clear hb)))); refine Met.intro ?_; (go_step); refine meetU_ ?rel
        case rel => exact ⟨_, (t416), (t417), (by rfl), (by rfl), H', ⟨by have := HJ3.1; have := HJ7.1; have := HJ9.1; have := HJ19.1; have := HJ21.1; have := HJ30.1; omega⟩, ⟨bk_ BK408⟩, ⟨bk_ BK411⟩, ⟨hb_ HB⟩⟩
       clear HC36; obtain ⟨kq, x12_35, x13_35, rfl, rfl, HA, HJ35, BK408, BK411, HB⟩ := hcut
       cases kq with
       | zero => exact absurd HA.1 (by simp [lw_BoxpackBounds.j6])
       | succ kj35 =>
        have H := HA.1; clear HA; simp only [lw_BoxpackBounds.j6] at H; have HC41 := ak H; clear H; (go_upto_region 9 with (fail)); (refine cutU_ [none, none, none, none, none, none, none, none, none, none, none, none, none, none, some 14, some 15, some 16, some 17, some 18, some 19, some 20, some 21, some 22, some 23, some 24, some 25, some 26, some 27, some 28, some 29, some 30, some 31, some 32, some 33, some 34, some 35, some 36, some 37, some 38, some 39, some 40, some 41, some 42, some 43, some 44, some 45, some 46, some 47, some 48, some 49, some 50, some 51, some 52, some 53, some 54, some 55, some 56, some 57, some 58, some 59, some 60, some 61, some 62, some 63, some 64, some 65, some 66, some 67, some 68, some 69, some 70, some 71, some 72, some 73, some 74, some 75, some 76, some 77, some 78, some 79, some 80, some 81] (fun u_ wc_ => (fun v60 wc => ∃ (kq : Nat) (x60_40 : Bool), v60 = .bool x60_40 ∧ Aside0 (lw_BoxpackBounds.j7 kq l1 l2 x8_21 x9_21 x10_30 x11_30 x60_40 a0_0 a0_1 a0_2 a0_3 l0_4 = some r) ∧ Aside0 (kq ≤ kj35) ∧ Aside0 (wc.heap[gb408]? = some (.cells #[.int .i64 a0_0, .int .i64 a0_1, .int .i64 a0_2, .int .i64 a0_3, (.slice A0_4 l0_4.length c0_4)] 26 (0, 0))) ∧ Aside0 (wc.heap[gb411]? = some (.cells #[.int .i64 a0_0, .int .i64 a0_1, .int .i64 a0_2, .int .i64 a0_3, (.slice A0_4 l0_4.length c0_4)] 33 (0, 0))) ∧ Aside0 (Below w.heap.size w wc)) (u_ 60) wc_) ?rest7 ?first7); (case' rest7 => (intro u_ wc hcut; dsimp only [fg_, List.toList_toArray] at hcut ⊢; generalize u_ 60 = u60 at hcut ⊢)); (case' first7 => (intro _ _ _ _))
        case first7 =>
         have H := HC41.1; clear HC41; (by_cases c42 : x9_21 = x13_35)
         ·rw [if_pos c42] at H
          have c42b0 := beq_iff_eq.mpr c42; have c42b1 := bne_eq_false_iff_eq.mpr c42; clear c42; (by_cases c43 : x9_21 = 0)
          ·rw [if_pos c43] at H
           have c43b0 := beq_iff_eq.mpr c43; have c43b1 := bne_eq_false_iff_eq.mpr c43; clear c43; have H' := ak H; clear H; (go_wp2); refine Met.intro ?_; (go_step); refine meetU_ ?rel
           case rel => exact ⟨_, ((x12_35 != (l1.length : Int))), (by rfl), H', ⟨by have := HJ3.1; have := HJ7.1; have := HJ9.1; have := HJ19.1; have := HJ21.1; have := HJ30.1; have := HJ35.1; omega⟩, ⟨bk_ BK408⟩, ⟨bk_ BK411⟩, ⟨hb_ HB⟩⟩
          rw [if_neg c43] at H
          have c43b0 := beq_eq_false_iff_ne.mpr c43; have c43b1 := bne_iff_ne.mpr c43; have H' := ak H; clear H; (go_wp2); refine Met.intro ?_; (go_step); refine meetU_ ?rel
          case rel => exact ⟨_, (false), (by rfl), H', ⟨by have := HJ3.1; have := HJ7.1; have := HJ9.1; have := HJ19.1; have := HJ21.1; have := HJ30.1; have := HJ35.1; omega⟩, ⟨bk_ BK408⟩, ⟨bk_ BK411⟩, ⟨hb_ HB⟩⟩
         rw [if_neg c42] at H
         have c42b0 := beq_eq_false_iff_ne.mpr c42; have c42b1 := bne_iff_ne.mpr c42; have H' := ak H; clear H; (go_wp2); refine Met.intro ?_; (go_step); refine meetU_ ?rel
         case rel => exact ⟨_, (true), (by rfl), H', ⟨by have := HJ3.1; have := HJ7.1; have := HJ9.1; have := HJ19.1; have := HJ21.1; have := HJ30.1; have := HJ35.1; omega⟩, ⟨bk_ BK408⟩, ⟨bk_ BK411⟩, ⟨hb_ HB⟩⟩
        clear HC41; obtain ⟨kq, x60_40, rfl, HA, HJ40, BK408, BK411, HB⟩ := hcut
        cases kq with
        | zero => exact absurd HA.1 (by simp [lw_BoxpackBounds.j7])
        | succ kj40 =>
         have H := HA.1; clear HA; simp only [lw_BoxpackBounds.j7] at H; have HC44 := ak H; clear H; (go_upto_if 60 with (fail)); (refine cutU_ [none, none, none, none, none, none, some 6, none, none, none, none, none, none, none, some 14, some 15, some 16, some 17, some 18, some 19, some 20, some 21, some 22, some 23, some 24, some 25, some 26, some 27, some 28, some 29, some 30, some 31, some 32, some 33, some 34, some 35, some 36, some 37, some 38, some 39, some 40, some 41, some 42, some 43, some 44, some 45, some 46, some 47, some 48, some 49, some 50, some 51, some 52, some 53, some 54, some 55, some 56, some 57, some 58, some 59, some 60, some 61, some 62, some 63, some 64, some 65, some 66, some 67, some 68, some 69, some 70, some 71, some 72, some 73, some 74, some 75, some 76, some 77, some 78, some 79, some 80, some 81] (fun u_ wc_ => (fun wc => ∃ (kq : Nat), Aside0 (lw_BoxpackBounds.j8 kq l1 l2 x8_21 x9_21 x10_30 x11_30 a0_0 a0_1 a0_2 a0_3 l0_4 = some r) ∧ Aside0 (kq ≤ kj40) ∧ Aside0 (wc.heap[gb408]? = some (.cells #[.int .i64 a0_0, .int .i64 a0_1, .int .i64 a0_2, .int .i64 a0_3, (.slice A0_4 l0_4.length c0_4)] 26 (0, 0))) ∧ Aside0 (wc.heap[gb411]? = some (.cells #[.int .i64 a0_0, .int .i64 a0_1, .int .i64 a0_2, .int .i64 a0_3, (.slice A0_4 l0_4.length c0_4)] 33 (0, 0))) ∧ Aside0 (Below w.heap.size w wc))  wc_) ?rest8 ?first8); (case' rest8 => (intro u_ wc hcut; dsimp only [fg_, List.toList_toArray] at hcut ⊢)); (case' first8 => (intro _ _ _ _))
         case first8 =>
          have H := HC44.1; clear HC44; (by_cases c45 : x60_40 = true)
          ·subst c45; (replace H : (some false) = some r := by rw [if_pos rfl] at H; exact H); obtain rfl := Option.some.inj H; (go_wp2); (go_ret); (exact ⟨by rfl, hb_ HB⟩)
          replace c45 := Bool.eq_false_iff.mpr c45
          subst c45; (replace H : (lw_BoxpackBounds.j8 kj40 l1 l2 x8_21 x9_21 x10_30 x11_30 a0_0 a0_1 a0_2 a0_3 l0_4) = some r := by rw [if_neg (show ¬ (false = true) by decide)] at H; exact H); have H' := ak H; clear H; (go_wp2); refine Met.intro ?_; (go_step); refine meetU_ ?rel
          case rel => exact ⟨_, H', ⟨by have := HJ3.1; have := HJ7.1; have := HJ9.1; have := HJ19.1; have := HJ21.1; have := HJ30.1; have := HJ35.1; have := HJ40.1; omega⟩, ⟨bk_ BK408⟩, ⟨bk_ BK411⟩, ⟨hb_ HB⟩⟩
         clear HC44; obtain ⟨kq, HA, HJ43, BK408, BK411, HB⟩ := hcut
         cases kq with
         | zero => exact absurd HA.1 (by simp [lw_BoxpackBounds.j8])
         | succ kj43 =>
          have H := HA.1; clear HA; simp only [lw_BoxpackBounds.j8] at H; have HC46 := ak H; clear H; (go_upto_region 11 with (fail)); (refine cutU_ [none, none, none, none, none, none, some 6, none, none, none, none, none, none, none, some 14, some 15, some 16, some 17, some 18, some 19, some 20, some 21, some 22, some 23, some 24, some 25, some 26, some 27, some 28, some 29, some 30, some 31, some 32, some 33, some 34, some 35, some 36, some 37, some 38, some 39, some 40, some 41, some 42, some 43, some 44, some 45, some 46, some 47, some 48, some 49, some 50, some 51, some 52, some 53, some 54, some 55, some 56, some 57, some 58, some 59, some 60, some 61, some 62, some 63, some 64, some 65, some 66, some 67, some 68, some 69, some 70, some 71, some 72, some 73, some 74, some 75, some 76, some 77, some 78, some 79, some 80, some 81] (fun u_ wc_ => (fun v6 wc => ∃ (kq : Nat) (x6_45 : Bool), v6 = .bool x6_45 ∧ Aside0 (lw_BoxpackBounds.j9 kq x6_45 = some r) ∧ Aside0 (kq ≤ kj43) ∧ Aside0 (wc.heap[gb408]? = some (.cells #[.int .i64 a0_0, .int .i64 a0_1, .int .i64 a0_2, .int .i64 a0_3, (.slice A0_4 l0_4.length c0_4)] 26 (0, 0))) ∧ Aside0 (wc.heap[gb411]? = some (.cells #[.int .i64 a0_0, .int .i64 a0_1, .int .i64 a0_2, .int .i64 a0_3, (.slice A0_4 l0_4.length c0_4)] 33 (0, 0))) ∧ Aside0 (Below w.heap.size w wc)) (u_ 6) wc_) ?rest9 ?first9); (case' rest9 => (intro u_ wc hcut; dsimp only [fg_, List.toList_toArray] at hcut ⊢; generalize u_ 6 = u6 at hcut ⊢)); (case' first9 => (intro _ _ _ _))
          case first9 =>
           have H := HC46.1; clear HC46; (by_cases c47 : x9_21 = 0)
           ·rw [if_pos c47] at H
            have c47b0 := beq_iff_eq.mpr c47; have c47b1 := bne_eq_false_iff_eq.mpr c47; clear c47; (by_cases c48 : x11_30 = 0)
            ·rw [if_pos c48] at H
             have c48b0 := beq_iff_eq.mpr c48; have c48b1 := bne_eq_false_iff_eq.mpr c48; clear c48; (by_cases c49 : x10_30 ≤ x8_21)
             ·rw [if_pos c49] at H
              have c49b0 := decide_eq_true c49; clear c49; obtain ⟨t418, A500, H⟩ := obs_ H; replace H : (lw_BoxpackBounds.j9 kj43 (t418 == (x10_30 == x8_21))) = some r := H; have A50 := ak A500; clear A500; have H' := ak H; clear H; have hnb51 := NB411_408.1; have hnc51 := NB408_411.1; obtain ⟨hcz52_0, hcz52_1, hcz52_2, hcz52_3, hcz52_4, hfz52_0, hfz52_1, hfz52_2, hfz52_3, hfz52_4⟩ := cz5_ BK411; (go_wp2_with (first | (go_at_call 25; (with_reducible refine (boxpack_Proves.calls kj43 a0_0 a0_1 a0_2 a0_3 _ _ l0_4 _ _ l1 _ _ l2 t418 _ ?side1 ?side2 ?side3 ?side4 ?side5 ?side6 A50.1).mono ?_); (case side1 => exact (Kd.C_below HR0_4.1 HB.1)); (case side2 => exact HC0_4.1); (case side3 => exact (Kd.C_below HR1.1 HB.1)); (case side4 => exact HC1.1); (case side5 => exact (Kd.C_below HR2.1 HB.1)); (case side6 => exact HC2.1); rintro e w53 ⟨rfl, hb⟩; replace BK408 := bb_ BK408 hb; replace BK411 := bb_ BK411 hb; replace HB := hs_ HB hb; (try clear hb)))); refine Met.intro ?_; (go_step); refine meetU_ ?rel
              case rel => exact ⟨_, ((t418 == (x10_30 == x8_21))), (by rfl), H', ⟨by have := HJ3.1; have := HJ7.1; have := HJ9.1; have := HJ19.1; have := HJ21.1; have := HJ30.1; have := HJ35.1; have := HJ40.1; have := HJ43.1; omega⟩, ⟨bk_ BK408⟩, ⟨bk_ BK411⟩, ⟨hb_ HB⟩⟩
             rw [if_neg c49] at H
             have c49b0 := decide_eq_false c49; clear c49; have H' := ak H; clear H; (go_wp2); refine Met.intro ?_; (go_step); refine meetU_ ?rel
             case rel => exact ⟨_, (false), (by rfl), H', ⟨by have := HJ3.1; have := HJ7.1; have := HJ9.1; have := HJ19.1; have := HJ21.1; have := HJ30.1; have := HJ35.1; have := HJ40.1; have := HJ43.1; omega⟩, ⟨bk_ BK408⟩, ⟨bk_ BK411⟩, ⟨hb_ HB⟩⟩
            rw [if_neg c48] at H
            have c48b0 := beq_eq_false_iff_ne.mpr c48; have c48b1 := bne_iff_ne.mpr c48; have H' := ak H; clear H; (go_wp2); refine Met.intro ?_; (go_step); refine meetU_ ?rel
            case rel => exact ⟨_, (true), (by rfl), H', ⟨by have := HJ3.1; have := HJ7.1; have := HJ9.1; have := HJ19.1; have := HJ21.1; have := HJ30.1; have := HJ35.1; have := HJ40.1; have := HJ43.1; omega⟩, ⟨bk_ BK408⟩, ⟨bk_ BK411⟩, ⟨hb_ HB⟩⟩
           rw [if_neg c47] at H
           have c47b0 := beq_eq_false_iff_ne.mpr c47; have c47b1 := bne_iff_ne.mpr c47; have H' := ak H; clear H; (go_wp2); refine Met.intro ?_; (go_step); refine meetU_ ?rel
           case rel => exact ⟨_, (true), (by rfl), H', ⟨by have := HJ3.1; have := HJ7.1; have := HJ9.1; have := HJ19.1; have := HJ21.1; have := HJ30.1; have := HJ35.1; have := HJ40.1; have := HJ43.1; omega⟩, ⟨bk_ BK408⟩, ⟨bk_ BK411⟩, ⟨hb_ HB⟩⟩
          clear HC46; obtain ⟨kq, x6_45, rfl, HA, HJ45, BK408, BK411, HB⟩ := hcut
          cases kq with
          | zero => exact absurd HA.1 (by simp [lw_BoxpackBounds.j9])
          | succ kj45 =>
           have H := HA.1; clear HA; simp only [lw_BoxpackBounds.j9] at H; obtain rfl := Option.some.inj H; (go_wp2); (go_ret); (exact ⟨by rfl, hb_ HB⟩)

/-- THE ONE PURE STATEMENT of lw_BoxpackBounds. -/
def lw_BoxpackBounds.Pure : Prop := ∀ (a0_0 : Int) (a0_1 : Int) (a0_2 : Int) (a0_3 : Int) (l0_4 : List (S56)) (l1 : List Int) (l2 : List (S61)), g26 ((⟨(⟨a0_0, a0_1, a0_2⟩ : S23), a0_3, l0_4⟩ : S26)) → (gSl (gInt .i64)) l1 → (gSl g61) l2 → ∃ k, lw_BoxpackBounds.f k a0_0 a0_1 a0_2 a0_3 l0_4 l1 l2 = some true
theorem lw_BoxpackBounds.walk (P : lw_BoxpackBounds.Pure) (a0_0 : Int) (a0_1 : Int) (a0_2 : Int) (a0_3 : Int) (A0_4 : Option Addr) (c0_4 : Nat) (l0_4 : List (S56)) (A1 : Option Addr) (c1 : Nat) (l1 : List Int) (A2 : Option Addr) (c2 : Nat) (l2 : List (S61)) (w : World) (w0 : g26 ((⟨(⟨a0_0, a0_1, a0_2⟩ : S23), a0_3, l0_4⟩ : S26))) (w1 : (gSl (gInt .i64)) l1) (w2 : (gSl g61) l2) (hr0_4 : Kd.C k56 w A0_4 l0_4.length l0_4) (hc0_4 : l0_4.length ≤ c0_4) (hr1 : Kd.C (Kd.int .i64) w A1 l1.length l1) (hc1 : l1.length ≤ c1) (hr2 : Kd.C k61 w A2 l2.length l2) (hc2 : l2.length ≤ c2) :
  Calls Try.prog 7 #[.agg #[.int .i64 a0_0, .int .i64 a0_1, .int .i64 a0_2, .int .i64 a0_3, .slice A0_4 l0_4.length c0_4], .slice A1 l1.length c1, .slice A2 l2.length c2] w fun e w' => e = .returned (.bool true) ∧ Below w.heap.size w w' := by
 obtain ⟨k, h⟩ := P a0_0 a0_1 a0_2 a0_3 l0_4 l1 l2 w0 w1 w2
 refine (lw_BoxpackBounds.calls k a0_0 a0_1 a0_2 a0_3 _ _ l0_4 _ _ l1 _ _ l2 true w hr0_4 hc0_4 hr1 hc1 hr2 hc2 h).mono ?_
 rintro e w' ⟨rfl, hd⟩
 exact ⟨rfl, hd⟩

end Go.Proofs.Ytgacodhpniehiaa.XA
