import Derived.Test.YtgacodhpniehiaaXAx2
import Derived.Test.YtgacodhpniehiaaXAx17
import Derived.Test.YtgacodhpniehiaaXAx26
import Derived.Test.YtgacodhpniehiaaXAx34
import Derived.Test.YtgacodhpniehiaaXAx35
namespace Go.Proofs.Ytgacodhpniehiaa.XA
open Flat Go.RowKit Opens YtgacodhpniehiaaW.PrintWords YtgacodhpniehiaaW.PrintLast YtgacodhpniehiaaW.PrintMore
attribute [local go_sem] max2_int min2_int max_two min_two max_three min_three max_four min_four cell_some cell_same
set_option linter.unusedVariables false
set_option linter.unusedSimpArgs false

mutual
def lw_BoxpackBest.j0 : Nat → Bool → Int → Int → Int → Int → List (S56) → Option (Bool)
 | 0, _, _, _, _, _, _ => none
 | k + 1, x10, x537000, x537001, x537002, x537003, x537004 => if x10 = true then (some false) else (lw_BoxpackBest.j1 k x537000 x537001 x537002 x537003 x537004)
def lw_BoxpackBest.j1 : Nat → Int → Int → Int → Int → List (S56) → Option (Bool)
 | 0, _, _, _, _, _ => none
 | k + 1, x537000, x537001, x537002, x537003, x537004 => (rf_Small.f k x537000 x537001 x537002 x537003 x537004 9).bind fun t538 => (lw_BoxpackBest.j2 k (!t538) x537000 x537001 x537002 x537003 x537004)
def lw_BoxpackBest.j2 : Nat → Bool → Int → Int → Int → Int → List (S56) → Option (Bool)
 | 0, _, _, _, _, _, _ => none
 | k + 1, x13, x537000, x537001, x537002, x537003, x537004 => if x13 = true then (some true) else (lw_BoxpackBest.j3 k x537000 x537001 x537002 x537003 x537004)
def lw_BoxpackBest.j3 : Nat → Int → Int → Int → Int → List (S56) → Option (Bool)
 | 0, _, _, _, _, _ => none
 | k + 1, x537000, x537001, x537002, x537003, x537004 => (boxpack_Best.f k x537000 x537001 x537002 x537003 x537004).bind fun bt539 => (lw_BoxpackBest.j4 k bt539.1 bt539.2.1 bt539.2.2 x537000 x537001 x537002 x537003 x537004)
def lw_BoxpackBest.j4 : Nat → Int → List (S61) → Int → Int → Int → Int → Int → List (S56) → Option (Bool)
 | 0, _, _, _, _, _, _, _, _ => none
 | k + 1, x3, x4, x5, x537000, x537001, x537002, x537003, x537004 => (rf_Check.f k x537000 x537001 x537002 x537003 x537004).bind fun t544 => (lw_BoxpackBest.j5 k x3 x4 x5 t544 x537000 x537001 x537002 x537003 x537004)
def lw_BoxpackBest.j5 : Nat → Int → List (S61) → Int → Int → Int → Int → Int → Int → List (S56) → Option (Bool)
 | 0, _, _, _, _, _, _, _, _, _ => none
 | k + 1, x3, x4, x5, x6, x537000, x537001, x537002, x537003, x537004 => if x6 = 0 then (lw_BoxpackBest.j7 k x3 x4 x5 x537000 x537001 x537002 x537003 x537004) else (if x5 = x6 then (if x3 = 0 then (lw_BoxpackBest.j6 k ((x4.length : Int) == 0)) else (lw_BoxpackBest.j6 k false)) else (lw_BoxpackBest.j6 k false))
def lw_BoxpackBest.j7 : Nat → Int → List (S61) → Int → Int → Int → Int → Int → List (S56) → Option (Bool)
 | 0, _, _, _, _, _, _, _, _ => none
 | k + 1, x3, x4, x5, x537000, x537001, x537002, x537003, x537004 => (rf_Table.f k x537000 x537001 x537002 x537003 x537004).bind fun t545 => (lw_BoxpackBest.j8 k x3 x4 x5 t545 x537000 x537001 x537002 x537003 x537004)
def lw_BoxpackBest.j8 : Nat → Int → List (S61) → Int → List Int → Int → Int → Int → Int → List (S56) → Option (Bool)
 | 0, _, _, _, _, _, _, _, _, _ => none
 | k + 1, x3, x4, x5, x7, x537000, x537001, x537002, x537003, x537004 => (rf_Plan.f k x537000 x537001 x537002 x537003 x537004 x7 0 0 0 x537000 x537001 x537002 0).bind fun t548 => (lw_BoxpackBest.j9 k x3 x4 x5 x7 t548)
def lw_BoxpackBest.j9 : Nat → Int → List (S61) → Int → List Int → List (S61) → Option (Bool)
 | 0, _, _, _, _, _ => none
 | k + 1, x3, x4, x5, x7, x8 => if (x8.length : Int) > 1024 then (if x5 = 7 then (if x3 = 0 then (lw_BoxpackBest.j10 k ((x4.length : Int) == 0)) else (lw_BoxpackBest.j10 k false)) else (lw_BoxpackBest.j10 k false)) else (lw_BoxpackBest.j11 k x3 x4 x5 x7 x8)
def lw_BoxpackBest.j11 : Nat → Int → List (S61) → Int → List Int → List (S61) → Option (Bool)
 | 0, _, _, _, _, _ => none
 | k + 1, x3, x4, x5, x7, x8 => if x5 = 0 then (if 0 ≤ (wrap64 ((x7.length : Int) - 1)) then (if (wrap64 ((x7.length : Int) - 1)) < (x7.length : Int) then (if x3 = (rd x7 (wrap64 ((x7.length : Int) - 1))) then ((rf_Same.f k x4 x8).bind fun t552 => (lw_BoxpackBest.j12 k t552)) else (lw_BoxpackBest.j12 k false)) else (none)) else (none)) else (lw_BoxpackBest.j12 k false)
def lw_BoxpackBest.j12 : Nat → Bool → Option (Bool)
 | 0, _ => none
 | k + 1, x2 => some x2
def lw_BoxpackBest.j10 : Nat → Bool → Option (Bool)
 | 0, _ => none
 | k + 1, x2 => some x2
def lw_BoxpackBest.j6 : Nat → Bool → Option (Bool)
 | 0, _ => none
 | k + 1, x2 => some x2
end
def lw_BoxpackBest.f (k : Nat) (a0_0 : Int) (a0_1 : Int) (a0_2 : Int) (a0_3 : Int) (l0_4 : List (S56)) : Option (Bool) := (lw_awake.f k).bind fun t537 => (lw_BoxpackBest.j0 k (!t537) a0_0 a0_1 a0_2 a0_3 l0_4)
theorem lw_BoxpackBest.mono_l : ∀ k, (∀ y0 y1 y2 y3 y4 y5, LeO (lw_BoxpackBest.j0 k y0 y1 y2 y3 y4 y5) (lw_BoxpackBest.j0 (k + 1) y0 y1 y2 y3 y4 y5)) ∧ (∀ y0 y1 y2 y3 y4, LeO (lw_BoxpackBest.j1 k y0 y1 y2 y3 y4) (lw_BoxpackBest.j1 (k + 1) y0 y1 y2 y3 y4)) ∧ (∀ y0 y1 y2 y3 y4 y5, LeO (lw_BoxpackBest.j2 k y0 y1 y2 y3 y4 y5) (lw_BoxpackBest.j2 (k + 1) y0 y1 y2 y3 y4 y5)) ∧ (∀ y0 y1 y2 y3 y4, LeO (lw_BoxpackBest.j3 k y0 y1 y2 y3 y4) (lw_BoxpackBest.j3 (k + 1) y0 y1 y2 y3 y4)) ∧ (∀ y0 y1 y2 y3 y4 y5 y6 y7, LeO (lw_BoxpackBest.j4 k y0 y1 y2 y3 y4 y5 y6 y7) (lw_BoxpackBest.j4 (k + 1) y0 y1 y2 y3 y4 y5 y6 y7)) ∧ (∀ y0 y1 y2 y3 y4 y5 y6 y7 y8, LeO (lw_BoxpackBest.j5 k y0 y1 y2 y3 y4 y5 y6 y7 y8) (lw_BoxpackBest.j5 (k + 1) y0 y1 y2 y3 y4 y5 y6 y7 y8)) ∧ (∀ y0 y1 y2 y3 y4 y5 y6 y7, LeO (lw_BoxpackBest.j7 k y0 y1 y2 y3 y4 y5 y6 y7) (lw_BoxpackBest.j7 (k + 1) y0 y1 y2 y3 y4 y5 y6 y7)) ∧ (∀ y0 y1 y2 y3 y4 y5 y6 y7 y8, LeO (lw_BoxpackBest.j8 k y0 y1 y2 y3 y4 y5 y6 y7 y8) (lw_BoxpackBest.j8 (k + 1) y0 y1 y2 y3 y4 y5 y6 y7 y8)) ∧ (∀ y0 y1 y2 y3 y4, LeO (lw_BoxpackBest.j9 k y0 y1 y2 y3 y4) (lw_BoxpackBest.j9 (k + 1) y0 y1 y2 y3 y4)) ∧ (∀ y0 y1 y2 y3 y4, LeO (lw_BoxpackBest.j11 k y0 y1 y2 y3 y4) (lw_BoxpackBest.j11 (k + 1) y0 y1 y2 y3 y4)) ∧ (∀ y0, LeO (lw_BoxpackBest.j12 k y0) (lw_BoxpackBest.j12 (k + 1) y0)) ∧ (∀ y0, LeO (lw_BoxpackBest.j10 k y0) (lw_BoxpackBest.j10 (k + 1) y0)) ∧ (∀ y0, LeO (lw_BoxpackBest.j6 k y0) (lw_BoxpackBest.j6 (k + 1) y0))
 | 0 => ⟨fun _ _ _ _ _ _ r h => by simp [lw_BoxpackBest.j0] at h, fun _ _ _ _ _ r h => by simp [lw_BoxpackBest.j1] at h, fun _ _ _ _ _ _ r h => by simp [lw_BoxpackBest.j2] at h, fun _ _ _ _ _ r h => by simp [lw_BoxpackBest.j3] at h, fun _ _ _ _ _ _ _ _ r h => by simp [lw_BoxpackBest.j4] at h, fun _ _ _ _ _ _ _ _ _ r h => by simp [lw_BoxpackBest.j5] at h, fun _ _ _ _ _ _ _ _ r h => by simp [lw_BoxpackBest.j7] at h, fun _ _ _ _ _ _ _ _ _ r h => by simp [lw_BoxpackBest.j8] at h, fun _ _ _ _ _ r h => by simp [lw_BoxpackBest.j9] at h, fun _ _ _ _ _ r h => by simp [lw_BoxpackBest.j11] at h, fun _ r h => by simp [lw_BoxpackBest.j12] at h, fun _ r h => by simp [lw_BoxpackBest.j10] at h, fun _ r h => by simp [lw_BoxpackBest.j6] at h⟩
 | k + 1 => by
  obtain ⟨ih0, ih1, ih2, ih3, ih4, ih5, ih6, ih7, ih8, ih9, ih10, ih11, ih12⟩ := lw_BoxpackBest.mono_l k; refine ⟨?_, ?_, ?_, ?_, ?_, ?_, ?_, ?_, ?_, ?_, ?_, ?_, ?_⟩; (all_goals (intros; (first | unfold lw_BoxpackBest.j0 | unfold lw_BoxpackBest.j1 | unfold lw_BoxpackBest.j2 | unfold lw_BoxpackBest.j3 | unfold lw_BoxpackBest.j4 | unfold lw_BoxpackBest.j5 | unfold lw_BoxpackBest.j7 | unfold lw_BoxpackBest.j8 | unfold lw_BoxpackBest.j9 | unfold lw_BoxpackBest.j11 | unfold lw_BoxpackBest.j12 | unfold lw_BoxpackBest.j10 | unfold lw_BoxpackBest.j6)))
  all_goals (repeat' first
   | (with_reducible exact ih1 _ _ _ _ _)
   | (with_reducible exact ih2 _ _ _ _ _ _)
   | (with_reducible exact ih3 _ _ _ _ _)
   | (with_reducible exact ih4 _ _ _ _ _ _ _ _)
   | (with_reducible exact ih5 _ _ _ _ _ _ _ _ _)
   | (with_reducible exact ih6 _ _ _ _ _ _ _ _)
   | (with_reducible exact ih7 _ _ _ _ _ _ _ _ _)
   | (with_reducible exact ih8 _ _ _ _ _)
   | (with_reducible exact ih9 _ _ _ _ _)
   | (with_reducible exact ih10 _)
   | (with_reducible exact ih11 _)
   | (with_reducible exact ih12 _)
   | (with_reducible exact boxpack_Best.mono _ _ _ _ _ _)
   | (with_reducible exact rf_Check.mono _ _ _ _ _ _)
   | (with_reducible exact rf_Plan.mono _ _ _ _ _ _ _ _ _ _ _ _ _ _)
   | (with_reducible exact rf_Same.mono _ _ _)
   | (with_reducible exact rf_Small.mono _ _ _ _ _ _ _)
   | (with_reducible exact rf_Table.mono _ _ _ _ _ _)
   | (with_reducible exact LeO.refl _)
   | (with_reducible refine LeO.ite ?_ ?_)
   | (with_reducible refine LeO.bind ?_ (fun _ => ?_))
   )
theorem lw_BoxpackBest.mono : ∀ a0 a1 a2 a3 a4 k, LeO (lw_BoxpackBest.f k a0 a1 a2 a3 a4) (lw_BoxpackBest.f (k + 1) a0 a1 a2 a3 a4) := by
 intro a0 a1 a2 a3 a4 k
 obtain ⟨ih0, ih1, ih2, ih3, ih4, ih5, ih6, ih7, ih8, ih9, ih10, ih11, ih12⟩ := lw_BoxpackBest.mono_l k
 unfold lw_BoxpackBest.f
 repeat' first
   | (with_reducible exact ih0 _ _ _ _ _ _)
   | (with_reducible exact lw_awake.mono _)
   | (with_reducible refine LeO.bind ?_ (fun _ => ?_))
set_option maxHeartbeats 8000000 in
set_option maxRecDepth 100000 in
theorem lw_BoxpackBest.calls (k : Nat) (a0_0 : Int) (a0_1 : Int) (a0_2 : Int) (a0_3 : Int) (A0_4 : Option Addr) (c0_4 : Nat) (l0_4 : List (S56)) (r : Bool) (w : World) (hr0_4 : Kd.C k56 w A0_4 l0_4.length l0_4) (hc0_4 : l0_4.length ≤ c0_4) (h : lw_BoxpackBest.f k a0_0 a0_1 a0_2 a0_3 l0_4 = some r) :
  Calls Try.prog 4 #[.agg #[.int .i64 a0_0, .int .i64 a0_1, .int .i64 a0_2, .int .i64 a0_3, .slice A0_4 l0_4.length c0_4]] w fun e w' => e = .returned (.bool r) ∧ Below w.heap.size w w' := by
 have hu26 := Try.underlying26
 have hu23 := Try.underlying23
 have HR0_4 := ak hr0_4
 have HC0_4 := ak hc0_4
 clear hr0_4 hc0_4
 have HB := ak (Below.refl w.heap.size w)
 have H : ((lw_awake.f k).bind fun t537 => (lw_BoxpackBest.j0 k (!t537) a0_0 a0_1 a0_2 a0_3 l0_4)) = some r := h
 clear h
 have HC2 := ak H
 clear H
 go_enter Try.func4, Try.ntmps4
 go_upto_region 1 with (first | ((with_reducible refine gate_dst (N := 1) rfl ?_); refine bx_ 1 #[.int .i64 a0_0, .int .i64 a0_1, .int .i64 a0_2, .int .i64 a0_3, .slice A0_4 l0_4.length c0_4] 26 ?_; intro gb536 hg w3 hbox hb; have BK536 := ak (hbox); have GW536 := gw_ HB hg; have GE536 := gw_ HB hg; replace HB := hs_ HB hb; clear hb hbox hg))
 refine cutU_ [none, none, none, none, none, none, none, none, none, some 9, some 10, some 11, some 12, some 13, some 14, some 15, some 16, some 17, some 18, some 19, some 20, some 21, some 22, some 23, some 24, some 25, some 26, some 27, some 28, some 29, some 30, some 31, some 32, some 33, some 34, some 35, some 36, some 37, some 38, some 39, some 40, some 41, some 42, some 43, some 44, some 45, some 46, some 47, some 48, some 49, some 50, some 51, some 52, some 53, some 54, some 55, some 56, some 57, some 58, some 59, some 60, some 61, some 62, some 63, some 64, some 65, some 66, some 67, some 68, some 69, some 70, some 71, some 72, some 73, some 74] (fun u_ wc_ => (fun v10 wc => ∃ (kq : Nat) (x10_1 : Bool), v10 = .bool x10_1 ∧ Aside0 (lw_BoxpackBest.j0 kq x10_1 a0_0 a0_1 a0_2 a0_3 l0_4 = some r) ∧ Aside0 (kq ≤ k) ∧ Aside0 (wc.heap[gb536]? = some (.cells #[.int .i64 a0_0, .int .i64 a0_1, .int .i64 a0_2, .int .i64 a0_3, (.slice A0_4 l0_4.length c0_4)] 26 (0, 0))) ∧ Aside0 (Below w.heap.size w wc)) (u_ 10) wc_) ?rest0 ?first0
 case' rest0 => (intro u_ wc hcut; dsimp only [fg_, List.toList_toArray] at hcut ⊢; generalize u_ 10 = u10 at hcut ⊢)
 case' first0 => (intro _ _ _ _)
 case first0 =>
  have H := HC2.1; clear HC2; obtain ⟨t537, A40, H⟩ := obs_ H; (try dsimp only at H); have A4 := ak A40; clear A40; have H' := ak H; clear H; (go_wp2_with (first | ((with_reducible refine gate_callee (f := 10) rfl ?_); refine gl_ 9 Try.func10 #[] ?_; (with_reducible refine (lw_awake.calls k  t537 _ A4.1).mono ?_); rintro e w5 ⟨rfl, hb⟩; refine ⟨_, rfl, ?_⟩; replace BK536 := bb_ BK536 hb; replace HB := hs_ HB hb; (try clear hb)))); refine Met.intro ?_; (go_step); refine meetU_ ?rel
  case rel => exact ⟨_, (!t537), (by rfl), H', ⟨by omega⟩, ⟨bk_ BK536⟩, ⟨hb_ HB⟩⟩
 clear HC2; obtain ⟨kq, x10_1, rfl, HA, HJ1, BK536, HB⟩ := hcut
 cases kq with
 | zero => exact absurd HA.1 (by simp [lw_BoxpackBest.j0])
 | succ kj1 =>
  have H := HA.1; clear HA; simp only [lw_BoxpackBest.j0] at H; have HC6 := ak H; clear H; (go_upto_if 10 with (fail)); (refine cutU_ [none, none, some 2, none, none, none, none, none, none, some 9, some 10, some 11, some 12, some 13, some 14, some 15, some 16, some 17, some 18, some 19, some 20, some 21, some 22, some 23, some 24, some 25, some 26, some 27, some 28, some 29, some 30, some 31, some 32, some 33, some 34, some 35, some 36, some 37, some 38, some 39, some 40, some 41, some 42, some 43, some 44, some 45, some 46, some 47, some 48, some 49, some 50, some 51, some 52, some 53, some 54, some 55, some 56, some 57, some 58, some 59, some 60, some 61, some 62, some 63, some 64, some 65, some 66, some 67, some 68, some 69, some 70, some 71, some 72, some 73, some 74] (fun u_ wc_ => (fun wc => ∃ (kq : Nat), Aside0 (lw_BoxpackBest.j1 kq a0_0 a0_1 a0_2 a0_3 l0_4 = some r) ∧ Aside0 (kq ≤ kj1) ∧ Aside0 (wc.heap[gb536]? = some (.cells #[.int .i64 a0_0, .int .i64 a0_1, .int .i64 a0_2, .int .i64 a0_3, (.slice A0_4 l0_4.length c0_4)] 26 (0, 0))) ∧ Aside0 (Below w.heap.size w wc))  wc_) ?rest1 ?first1); (case' rest1 => (intro u_ wc hcut; dsimp only [fg_, List.toList_toArray] at hcut ⊢)); (case' first1 => (intro _ _ _ _))
  case first1 =>
   have H := HC6.1; clear HC6; (by_cases c7 : x10_1 = true)
   ·subst c7; (replace H : (some false) = some r := by rw [if_pos rfl] at H; exact H); obtain rfl := Option.some.inj H; (go_wp2); (go_ret); (exact ⟨by rfl, hb_ HB⟩)
   replace c7 := Bool.eq_false_iff.mpr c7
   subst c7; (replace H : (lw_BoxpackBest.j1 kj1 a0_0 a0_1 a0_2 a0_3 l0_4) = some r := by rw [if_neg (show ¬ (false = true) by decide)] at H; exact H); have H' := ak H; clear H; (go_wp2); refine Met.intro ?_; (go_step); refine meetU_ ?rel
   case rel => exact ⟨_, H', ⟨by have := HJ1.1; omega⟩, ⟨bk_ BK536⟩, ⟨hb_ HB⟩⟩
  clear HC6; obtain ⟨kq, HA, HJ5, BK536, HB⟩ := hcut
  cases kq with
  | zero => exact absurd HA.1 (by simp [lw_BoxpackBest.j1])
  | succ kj5 =>
   have H := HA.1; clear HA; simp only [lw_BoxpackBest.j1] at H; have HC8 := ak H; clear H; (go_upto_region 3 with (fail)); (refine cutU_ [none, none, none, none, none, none, none, none, none, some 9, some 10, some 11, some 12, some 13, some 14, some 15, some 16, some 17, some 18, some 19, some 20, some 21, some 22, some 23, some 24, some 25, some 26, some 27, some 28, some 29, some 30, some 31, some 32, some 33, some 34, some 35, some 36, some 37, some 38, some 39, some 40, some 41, some 42, some 43, some 44, some 45, some 46, some 47, some 48, some 49, some 50, some 51, some 52, some 53, some 54, some 55, some 56, some 57, some 58, some 59, some 60, some 61, some 62, some 63, some 64, some 65, some 66, some 67, some 68, some 69, some 70, some 71, some 72, some 73, some 74] (fun u_ wc_ => (fun v13 wc => ∃ (kq : Nat) (x13_7 : Bool), v13 = .bool x13_7 ∧ Aside0 (lw_BoxpackBest.j2 kq x13_7 a0_0 a0_1 a0_2 a0_3 l0_4 = some r) ∧ Aside0 (kq ≤ kj5) ∧ Aside0 (wc.heap[gb536]? = some (.cells #[.int .i64 a0_0, .int .i64 a0_1, .int .i64 a0_2, .int .i64 a0_3, (.slice A0_4 l0_4.length c0_4)] 26 (0, 0))) ∧ Aside0 (Below w.heap.size w wc)) (u_ 13) wc_) ?rest2 ?first2); (case' rest2 => (intro u_ wc hcut; dsimp only [fg_, List.toList_toArray] at hcut ⊢; generalize u_ 13 = u13 at hcut ⊢)); (case' first2 => (intro _ _ _ _))
   case first2 =>
    have H := HC8.1; clear HC8; obtain ⟨t538, A90, H⟩ := obs_ H; (try dsimp only at H); have A9 := ak A90; clear A90; have H' := ak H; clear H; obtain ⟨hcz10_0, hcz10_1, hcz10_2, hcz10_3, hcz10_4, hfz10_0, hfz10_1, hfz10_2, hfz10_3, hfz10_4⟩ := cz5_ BK536; (go_wp2_with (first | ((with_reducible refine gate_callee (f := 11) rfl ?_); refine gl_ 12 Try.func11 #[.agg #[.int .i64 a0_0, .int .i64 a0_1, .int .i64 a0_2, .int .i64 a0_3, .slice A0_4 l0_4.length c0_4], .int .i64 9] ?_; (with_reducible refine (rf_Small.calls kj5 a0_0 a0_1 a0_2 a0_3 _ _ l0_4 9 t538 _ ?side1 ?side2 A9.1).mono ?_); (case side1 => exact (Kd.C_below HR0_4.1 HB.1)); (case side2 => exact HC0_4.1); rintro e w11 ⟨rfl, hb⟩; refine ⟨_, rfl, ?_⟩; replace BK536 := bb_ BK536 hb; replace HB := hs_ HB hb; (try clear hb)))); refine Met.intro ?_; (go_step); refine meetU_ ?rel
    case rel => exact ⟨_, (!t538), (by rfl), H', ⟨by have := HJ1.1; have := HJ5.1; omega⟩, ⟨bk_ BK536⟩, ⟨hb_ HB⟩⟩
   clear HC8; obtain ⟨kq, x13_7, rfl, HA, HJ7, BK536, HB⟩ := hcut
   cases kq with
   | zero => exact absurd HA.1 (by simp [lw_BoxpackBest.j2])
   | succ kj7 =>
    have H := HA.1; clear HA; simp only [lw_BoxpackBest.j2] at H; have HC12 := ak H; clear H; (go_upto_if 13 with (fail)); (refine cutU_ [none, none, some 2, none, none, none, none, none, none, some 9, some 10, some 11, some 12, some 13, some 14, some 15, some 16, some 17, some 18, some 19, some 20, some 21, some 22, some 23, some 24, some 25, some 26, some 27, some 28, some 29, some 30, some 31, some 32, some 33, some 34, some 35, some 36, some 37, some 38, some 39, some 40, some 41, some 42, some 43, some 44, some 45, some 46, some 47, some 48, some 49, some 50, some 51, some 52, some 53, some 54, some 55, some 56, some 57, some 58, some 59, some 60, some 61, some 62, some 63, some 64, some 65, some 66, some 67, some 68, some 69, some 70, some 71, some 72, some 73, some 74] (fun u_ wc_ => (fun wc => ∃ (kq : Nat), Aside0 (lw_BoxpackBest.j3 kq a0_0 a0_1 a0_2 a0_3 l0_4 = some r) ∧ Aside0 (kq ≤ kj7) ∧ Aside0 (wc.heap[gb536]? = some (.cells #[.int .i64 a0_0, .int .i64 a0_1, .int .i64 a0_2, .int .i64 a0_3, (.slice A0_4 l0_4.length c0_4)] 26 (0, 0))) ∧ Aside0 (Below w.heap.size w wc))  wc_) ?rest3 ?first3); (case' rest3 => (intro u_ wc hcut; dsimp only [fg_, List.toList_toArray] at hcut ⊢)); (case' first3 => (intro _ _ _ _))
    case first3 =>
     have H := HC12.1; clear HC12; (by_cases c13 : x13_7 = true)
     ·subst c13; (replace H : (some true) = some r := by rw [if_pos rfl] at H; exact H); obtain rfl := Option.some.inj H; (go_wp2); (go_ret); (exact ⟨by rfl, hb_ HB⟩)
     replace c13 := Bool.eq_false_iff.mpr c13
     subst c13; (replace H : (lw_BoxpackBest.j3 kj7 a0_0 a0_1 a0_2 a0_3 l0_4) = some r := by rw [if_neg (show ¬ (false = true) by decide)] at H; exact H); have H' := ak H; clear H; (go_wp2); refine Met.intro ?_; (go_step); refine meetU_ ?rel
     case rel => exact ⟨_, H', ⟨by have := HJ1.1; have := HJ5.1; have := HJ7.1; omega⟩, ⟨bk_ BK536⟩, ⟨hb_ HB⟩⟩
    clear HC12; obtain ⟨kq, HA, HJ11, BK536, HB⟩ := hcut
    cases kq with
    | zero => exact absurd HA.1 (by simp [lw_BoxpackBest.j3])
    | succ kj11 =>
     have H := HA.1; clear HA; simp only [lw_BoxpackBest.j3] at H; have HC14 := ak H; clear H; (go_upto_region 5 with (fail)); (refine cutU_ [none, none, none, some 3, some 4, some 5, none, none, none, some 9, some 10, some 11, some 12, some 13, some 14, some 15, some 16, some 17, some 18, some 19, some 20, some 21, some 22, some 23, some 24, some 25, some 26, some 27, some 28, some 29, some 30, some 31, some 32, some 33, some 34, some 35, some 36, some 37, some 38, some 39, some 40, some 41, some 42, some 43, some 44, some 45, some 46, some 47, some 48, some 49, some 50, some 51, some 52, some 53, some 54, some 55, some 56, some 57, some 58, some 59, some 60, some 61, some 62, some 63, some 64, some 65, some 66, some 67, some 68, some 69, some 70, some 71, some 72, some 73, some 74] (fun u_ wc_ => (fun v3 v4 v5 wc => ∃ (kq : Nat) (x3_13 : Int) (x4_13 : List (S61)) (x5_13 : Int), v3 = .int .i64 x3_13 ∧ v5 = .int .i64 x5_13 ∧ Aside0 (lw_BoxpackBest.j4 kq x3_13 x4_13 x5_13 a0_0 a0_1 a0_2 a0_3 l0_4 = some r) ∧ Aside0 (kq ≤ kj11) ∧ Aside0 (Kd.R k61 61 wc w.heap.size (fun _ => True) v4 x4_13) ∧ Aside0 (wc.heap[gb536]? = some (.cells #[.int .i64 a0_0, .int .i64 a0_1, .int .i64 a0_2, .int .i64 a0_3, (.slice A0_4 l0_4.length c0_4)] 26 (0, 0))) ∧ Aside0 (Below w.heap.size w wc)) (u_ 3) (u_ 4) (u_ 5) wc_) ?rest4 ?first4); (case' rest4 => (intro u_ wc hcut; dsimp only [fg_, List.toList_toArray] at hcut ⊢; generalize u_ 3 = u3 at hcut ⊢; generalize u_ 4 = u4 at hcut ⊢; generalize u_ 5 = u5 at hcut ⊢)); (case' first4 => (intro _ _ _ _))
     case first4 =>
      have H := HC14.1; clear HC14; obtain ⟨⟨t539, t540, t543⟩, A150, H⟩ := obs_ H; (try dsimp only at H); have A15 := ak A150; clear A150; have H' := ak H; clear H; obtain ⟨hcz16_0, hcz16_1, hcz16_2, hcz16_3, hcz16_4, hfz16_0, hfz16_1, hfz16_2, hfz16_3, hfz16_4⟩ := cz5_ BK536; (go_wp2_with (first | ((with_reducible refine gate_callee (f := 16) rfl ?_); refine gl_ 16 Try.func16 #[.agg #[.int .i64 a0_0, .int .i64 a0_1, .int .i64 a0_2, .int .i64 a0_3, .slice A0_4 l0_4.length c0_4]] ?_; (with_reducible refine (boxpack_Best.calls kj11 a0_0 a0_1 a0_2 a0_3 _ _ l0_4 t539 t540 t543 _ ?side1 ?side2 A15.1).mono ?_); (case side1 => exact (Kd.C_below HR0_4.1 HB.1)); (case side2 => exact HC0_4.1); rintro e w17 ⟨v541, rfl, ho0, hb⟩; refine ⟨_, rfl, ?_⟩; have HO542 := ak (Kd.R_lower ho0 (below_size (hb_ HB))); replace BK536 := bb_ BK536 hb; replace HB := hs_ HB hb; (try clear hb); (try clear ho0)))); refine Met.intro ?_; (go_step); refine meetU_ ?rel
      case rel => exact ⟨_, (t539), (t540), (t543), (by rfl), (by rfl), H', ⟨by have := HJ1.1; have := HJ5.1; have := HJ7.1; have := HJ11.1; omega⟩, ⟨by exact HO542.1⟩, ⟨bk_ BK536⟩, ⟨hb_ HB⟩⟩
     clear HC14; obtain ⟨kq, x3_13, x4_13, x5_13, rfl, rfl, HA, HJ13, HO_4, BK536, HB⟩ := hcut
     cases kq with
     | zero => exact absurd HA.1 (by simp [lw_BoxpackBest.j4])
     | succ kj13 =>
      have H := HA.1; clear HA; simp only [lw_BoxpackBest.j4] at H; have HC18 := ak H; clear H; (go_upto_region 6 with (fail)); (refine cutU_ [none, none, none, none, none, none, some 6, none, none, some 9, some 10, some 11, some 12, some 13, some 14, some 15, some 16, some 17, some 18, some 19, some 20, some 21, some 22, some 23, some 24, some 25, some 26, some 27, some 28, some 29, some 30, some 31, some 32, some 33, some 34, some 35, some 36, some 37, some 38, some 39, some 40, some 41, some 42, some 43, some 44, some 45, some 46, some 47, some 48, some 49, some 50, some 51, some 52, some 53, some 54, some 55, some 56, some 57, some 58, some 59, some 60, some 61, some 62, some 63, some 64, some 65, some 66, some 67, some 68, some 69, some 70, some 71, some 72, some 73, some 74] (fun u_ wc_ => (fun v6 wc => ∃ (kq : Nat) (x6_17 : Int), v6 = .int .i64 x6_17 ∧ Aside0 (lw_BoxpackBest.j5 kq x3_13 x4_13 x5_13 x6_17 a0_0 a0_1 a0_2 a0_3 l0_4 = some r) ∧ Aside0 (kq ≤ kj13) ∧ Aside0 (Kd.R k61 61 wc w.heap.size (fun _ => True) u4 x4_13) ∧ Aside0 (wc.heap[gb536]? = some (.cells #[.int .i64 a0_0, .int .i64 a0_1, .int .i64 a0_2, .int .i64 a0_3, (.slice A0_4 l0_4.length c0_4)] 26 (0, 0))) ∧ Aside0 (Below w.heap.size w wc)) (u_ 6) wc_) ?rest5 ?first5); (case' rest5 => (intro u_ wc hcut; dsimp only [fg_, List.toList_toArray] at hcut ⊢; generalize u_ 6 = u6 at hcut ⊢)); (case' first5 => (intro _ _ _ _))
      case first5 =>
       have H := HC18.1; clear HC18; obtain ⟨t544, A190, H⟩ := obs_ H; (try dsimp only at H); have A19 := ak A190; clear A190; have H' := ak H; clear H; obtain ⟨hcz20_0, hcz20_1, hcz20_2, hcz20_3, hcz20_4, hfz20_0, hfz20_1, hfz20_2, hfz20_3, hfz20_4⟩ := cz5_ BK536; (go_wp2_with (first | ((with_reducible refine gate_callee (f := 13) rfl ?_); refine gl_ 21 Try.func13 #[.agg #[.int .i64 a0_0, .int .i64 a0_1, .int .i64 a0_2, .int .i64 a0_3, .slice A0_4 l0_4.length c0_4]] ?_; (with_reducible refine (rf_Check.calls kj13 a0_0 a0_1 a0_2 a0_3 _ _ l0_4 t544 _ ?side1 ?side2 A19.1).mono ?_); (case side1 => exact (Kd.C_below HR0_4.1 HB.1)); (case side2 => exact HC0_4.1); rintro e w21 ⟨rfl, hb⟩; refine ⟨_, rfl, ?_⟩; replace HO_4 := rb_ HO_4 hb; replace BK536 := bb_ BK536 hb; replace HB := hs_ HB hb; (try clear hb)))); refine Met.intro ?_; (go_step); refine meetU_ ?rel
       case rel => exact ⟨_, (t544), (by rfl), H', ⟨by have := HJ1.1; have := HJ5.1; have := HJ7.1; have := HJ11.1; have := HJ13.1; omega⟩, ⟨by exact HO_4.1⟩, ⟨bk_ BK536⟩, ⟨hb_ HB⟩⟩
      clear HC18; obtain ⟨kq, x6_17, rfl, HA, HJ17, HO_4, BK536, HB⟩ := hcut
      cases kq with
      | zero => exact absurd HA.1 (by simp [lw_BoxpackBest.j5])
      | succ kj17 =>
       have H := HA.1; clear HA; simp only [lw_BoxpackBest.j5] at H; have HC22 := ak H; clear H; (go_upto_if 23 with (fail)); (refine cutU_ [none, none, some 2, none, none, none, none, none, none, some 9, some 10, some 11, some 12, some 13, some 14, some 15, some 16, some 17, some 18, some 19, some 20, some 21, some 22, some 23, some 24, some 25, some 26, some 27, some 28, some 29, some 30, some 31, some 32, some 33, some 34, some 35, some 36, some 37, some 38, some 39, some 40, some 41, some 42, some 43, some 44, some 45, some 46, some 47, some 48, some 49, some 50, some 51, some 52, some 53, some 54, some 55, some 56, some 57, some 58, some 59, some 60, some 61, some 62, some 63, some 64, some 65, some 66, some 67, some 68, some 69, some 70, some 71, some 72, some 73, some 74] (fun u_ wc_ => (fun wc => ∃ (kq : Nat), Aside0 (lw_BoxpackBest.j7 kq x3_13 x4_13 x5_13 a0_0 a0_1 a0_2 a0_3 l0_4 = some r) ∧ Aside0 (kq ≤ kj17) ∧ Aside0 (Kd.R k61 61 wc w.heap.size (fun _ => True) u4 x4_13) ∧ Aside0 (wc.heap[gb536]? = some (.cells #[.int .i64 a0_0, .int .i64 a0_1, .int .i64 a0_2, .int .i64 a0_3, (.slice A0_4 l0_4.length c0_4)] 26 (0, 0))) ∧ Aside0 (Below w.heap.size w wc))  wc_) ?rest6 ?first6); (case' rest6 => (intro u_ wc hcut; dsimp only [fg_, List.toList_toArray] at hcut ⊢)); (case' first6 => (intro _ _ _ _))
       case first6 =>
        have H := HC22.1; clear HC22; (by_cases c23 : x6_17 = 0)
        ·rw [if_pos c23] at H
         have c23b0 := beq_iff_eq.mpr c23; have c23b1 := bne_eq_false_iff_eq.mpr c23; clear c23; have H' := ak H; clear H; (go_wp2); refine Met.intro ?_; (go_step); refine meetU_ ?rel
         case rel => exact ⟨_, H', ⟨by have := HJ1.1; have := HJ5.1; have := HJ7.1; have := HJ11.1; have := HJ13.1; have := HJ17.1; omega⟩, ⟨by exact HO_4.1⟩, ⟨bk_ BK536⟩, ⟨hb_ HB⟩⟩
        rw [if_neg c23] at H
        have c23b0 := beq_eq_false_iff_ne.mpr c23; have c23b1 := bne_iff_ne.mpr c23; have HC24 := ak H; clear H; (go_upto_region 8 with (fail)); (refine cutU_ [none, none, some 2, none, none, none, none, none, none, some 9, some 10, some 11, some 12, some 13, some 14, some 15, some 16, some 17, some 18, some 19, some 20, some 21, some 22, some 23, some 24, some 25, some 26, some 27, some 28, some 29, some 30, some 31, some 32, some 33, some 34, some 35, some 36, some 37, some 38, some 39, some 40, some 41, some 42, some 43, some 44, some 45, some 46, some 47, some 48, some 49, some 50, some 51, some 52, some 53, some 54, some 55, some 56, some 57, some 58, some 59, some 60, some 61, some 62, some 63, some 64, some 65, some 66, some 67, some 68, some 69, some 70, some 71, some 72, some 73, some 74] (fun u_ wc_ => (fun v2 wc => ∃ (kq : Nat) (x2_23 : Bool), v2 = .bool x2_23 ∧ Aside0 (lw_BoxpackBest.j6 kq x2_23 = some r) ∧ Aside0 (kq ≤ kj17) ∧ Aside0 (wc.heap[gb536]? = some (.cells #[.int .i64 a0_0, .int .i64 a0_1, .int .i64 a0_2, .int .i64 a0_3, (.slice A0_4 l0_4.length c0_4)] 26 (0, 0))) ∧ Aside0 (Below w.heap.size w wc)) (u_ 2) wc_) ?rest7 ?first7); (case' rest7 => (intro u_ wc hcut; dsimp only [fg_, List.toList_toArray] at hcut ⊢; generalize u_ 2 = u2 at hcut ⊢)); (case' first7 => (intro _ _ _ _))
        case first7 =>
         have H := HC24.1; clear HC24; (by_cases c25 : x5_13 = x6_17)
         ·rw [if_pos c25] at H
          have c25b0 := beq_iff_eq.mpr c25; have c25b1 := bne_eq_false_iff_eq.mpr c25; clear c25; (by_cases c26 : x3_13 = 0)
          ·rw [if_pos c26] at H
           have c26b0 := beq_iff_eq.mpr c26; have c26b1 := bne_eq_false_iff_eq.mpr c26; clear c26; have H' := ak H; clear H; obtain ⟨Ao27, co27, eo27⟩ := Kd.R_slice HO_4.1; subst eo27; (go_wp2); refine Met.intro ?_; (go_step); refine meetU_ ?rel
           case rel => exact ⟨_, (((x4_13.length : Int) == 0)), (by rfl), H', ⟨by have := HJ1.1; have := HJ5.1; have := HJ7.1; have := HJ11.1; have := HJ13.1; have := HJ17.1; omega⟩, ⟨bk_ BK536⟩, ⟨hb_ HB⟩⟩
          rw [if_neg c26] at H
          have c26b0 := beq_eq_false_iff_ne.mpr c26; have c26b1 := bne_iff_ne.mpr c26; have H' := ak H; clear H; (go_wp2); refine Met.intro ?_; (go_step); refine meetU_ ?rel
          case rel => exact ⟨_, (false), (by rfl), H', ⟨by have := HJ1.1; have := HJ5.1; have := HJ7.1; have := HJ11.1; have := HJ13.1; have := HJ17.1; omega⟩, ⟨bk_ BK536⟩, ⟨hb_ HB⟩⟩
         rw [if_neg c25] at H
         have c25b0 := beq_eq_false_iff_ne.mpr c25; have c25b1 := bne_iff_ne.mpr c25; have H' := ak H; clear H; (go_wp2); refine Met.intro ?_; (go_step); refine meetU_ ?rel
         case rel => exact ⟨_, (false), (by rfl), H', ⟨by have := HJ1.1; have := HJ5.1; have := HJ7.1; have := HJ11.1; have := HJ13.1; have := HJ17.1; omega⟩, ⟨bk_ BK536⟩, ⟨hb_ HB⟩⟩
        clear HC24; (try clear c23); (try clear c23b0); (try clear c23b1); obtain ⟨kq, x2_23, rfl, HA, HJ23, BK536, HB⟩ := hcut
        cases kq with
        | zero => exact absurd HA.1 (by simp [lw_BoxpackBest.j6])
        | succ kj23 =>
         have H := HA.1; clear HA; simp only [lw_BoxpackBest.j6] at H; obtain rfl := Option.some.inj H; (go_wp2); (go_ret); (exact ⟨by rfl, hb_ HB⟩)
       clear HC22; obtain ⟨kq, HA, HJ21, HO_4, BK536, HB⟩ := hcut
       cases kq with
       | zero => exact absurd HA.1 (by simp [lw_BoxpackBest.j7])
       | succ kj21 =>
        have H := HA.1; clear HA; simp only [lw_BoxpackBest.j7] at H; have HC28 := ak H; clear H; (go_upto_region 9 with (fail)); (refine cutU_ [none, none, none, none, none, none, none, some 7, none, some 9, some 10, some 11, some 12, some 13, some 14, some 15, some 16, some 17, some 18, some 19, some 20, some 21, some 22, some 23, some 24, some 25, some 26, some 27, some 28, some 29, some 30, some 31, some 32, some 33, some 34, some 35, some 36, some 37, some 38, some 39, some 40, some 41, some 42, some 43, some 44, some 45, some 46, some 47, some 48, some 49, some 50, some 51, some 52, some 53, some 54, some 55, some 56, some 57, some 58, some 59, some 60, some 61, some 62, some 63, some 64, some 65, some 66, some 67, some 68, some 69, some 70, some 71, some 72, some 73, some 74] (fun u_ wc_ => (fun v7 wc => ∃ (kq : Nat) (x7_27 : List Int), Aside0 (lw_BoxpackBest.j8 kq x3_13 x4_13 x5_13 x7_27 a0_0 a0_1 a0_2 a0_3 l0_4 = some r) ∧ Aside0 (kq ≤ kj21) ∧ Aside0 (Kd.R k61 61 wc w.heap.size (fun _ => True) u4 x4_13) ∧ Aside0 (Kd.R (Kd.int .i64) 2 wc w.heap.size (fun _ => True) v7 x7_27) ∧ Aside0 (wc.heap[gb536]? = some (.cells #[.int .i64 a0_0, .int .i64 a0_1, .int .i64 a0_2, .int .i64 a0_3, (.slice A0_4 l0_4.length c0_4)] 26 (0, 0))) ∧ Aside0 (Below w.heap.size w wc)) (u_ 7) wc_) ?rest8 ?first8); (case' rest8 => (intro u_ wc hcut; dsimp only [fg_, List.toList_toArray] at hcut ⊢; generalize u_ 7 = u7 at hcut ⊢)); (case' first8 => (intro _ _ _ _))
        case first8 =>
         have H := HC28.1; clear HC28; obtain ⟨t545, A290, H⟩ := obs_ H; (try dsimp only at H); have A29 := ak A290; clear A290; have H' := ak H; clear H; obtain ⟨hcz30_0, hcz30_1, hcz30_2, hcz30_3, hcz30_4, hfz30_0, hfz30_1, hfz30_2, hfz30_3, hfz30_4⟩ := cz5_ BK536; (go_wp2_with (first | ((with_reducible refine gate_callee (f := 17) rfl ?_); refine gl_ 37 Try.func17 #[.agg #[.int .i64 a0_0, .int .i64 a0_1, .int .i64 a0_2, .int .i64 a0_3, .slice A0_4 l0_4.length c0_4]] ?_; (with_reducible refine (rf_Table.calls kj21 a0_0 a0_1 a0_2 a0_3 _ _ l0_4 t545 _ ?side1 ?side2 A29.1).mono ?_); (case side1 => exact (Kd.C_below HR0_4.1 HB.1)); (case side2 => exact HC0_4.1); rintro e w31 ⟨v546, rfl, ho0, hb⟩; refine ⟨_, rfl, ?_⟩; replace HO_4 := rb_ HO_4 hb; have HO547 := ak (Kd.R_lower ho0 (below_size (hb_ HB))); replace BK536 := bb_ BK536 hb; replace HB := hs_ HB hb; (try clear hb); (try clear ho0)))); refine Met.intro ?_; (go_step); refine meetU_ ?rel
         case rel => exact ⟨_, (t545), H', ⟨by have := HJ1.1; have := HJ5.1; have := HJ7.1; have := HJ11.1; have := HJ13.1; have := HJ17.1; have := HJ21.1; omega⟩, ⟨by exact HO_4.1⟩, ⟨by exact HO547.1⟩, ⟨bk_ BK536⟩, ⟨hb_ HB⟩⟩
        clear HC28; obtain ⟨kq, x7_27, HA, HJ27, HO_4, HO_7, BK536, HB⟩ := hcut
        cases kq with
        | zero => exact absurd HA.1 (by simp [lw_BoxpackBest.j8])
        | succ kj27 =>
         have H := HA.1; clear HA; simp only [lw_BoxpackBest.j8] at H; have HC32 := ak H; clear H; (go_upto_region 10 with (fail)); (refine cutU_ [none, none, none, none, none, none, none, none, some 8, some 9, some 10, some 11, some 12, some 13, some 14, some 15, some 16, some 17, some 18, some 19, some 20, some 21, some 22, some 23, some 24, some 25, some 26, some 27, some 28, some 29, some 30, some 31, some 32, some 33, some 34, some 35, some 36, some 37, some 38, some 39, some 40, some 41, some 42, some 43, some 44, some 45, some 46, some 47, some 48, some 49, some 50, some 51, some 52, some 53, some 54, some 55, some 56, some 57, some 58, some 59, some 60, some 61, some 62, some 63, some 64, some 65, some 66, some 67, some 68, some 69, some 70, some 71, some 72, some 73, some 74] (fun u_ wc_ => (fun v8 wc => ∃ (kq : Nat) (x8_31 : List (S61)), Aside0 (lw_BoxpackBest.j9 kq x3_13 x4_13 x5_13 x7_27 x8_31 = some r) ∧ Aside0 (kq ≤ kj27) ∧ Aside0 (Kd.R k61 61 wc w.heap.size (fun k_ => some k_ ≠ (v8 : Value).ownBlock) u4 x4_13) ∧ Aside0 (Kd.R (Kd.int .i64) 2 wc w.heap.size (fun _ => True) u7 x7_27) ∧ Aside0 (Kd.R k61 61 wc w.heap.size (fun k_ => some k_ ≠ (u4 : Value).ownBlock) v8 x8_31) ∧ Aside0 (wc.heap[gb536]? = some (.cells #[.int .i64 a0_0, .int .i64 a0_1, .int .i64 a0_2, .int .i64 a0_3, (.slice A0_4 l0_4.length c0_4)] 26 (0, 0))) ∧ Aside0 (Below w.heap.size w wc)) (u_ 8) wc_) ?rest9 ?first9); (case' rest9 => (intro u_ wc hcut; dsimp only [fg_, List.toList_toArray] at hcut ⊢; generalize u_ 8 = u8 at hcut ⊢)); (case' first9 => (intro _ _ _ _))
         case first9 =>
          have H := HC32.1; clear HC32; obtain ⟨t548, A330, H⟩ := obs_ H; (try dsimp only at H); have A33 := ak A330; clear A330; have H' := ak H; clear H; obtain ⟨hcz34_0, hcz34_1, hcz34_2, hcz34_3, hcz34_4, hfz34_0, hfz34_1, hfz34_2, hfz34_3, hfz34_4⟩ := cz5_ BK536; obtain ⟨Ao35, co35, eo35⟩ := Kd.R_slice HO_7.1; subst eo35; (go_wp2_with (first | ((with_reducible refine gate_callee (f := 18) rfl ?_); refine gl_ 43 Try.func18 #[.agg #[.int .i64 a0_0, .int .i64 a0_1, .int .i64 a0_2, .int .i64 a0_3, .slice A0_4 l0_4.length c0_4], .slice Ao35 x7_27.length co35, .agg #[.int .i64 0, .int .i64 0, .int .i64 0], .agg #[.int .i64 a0_0, .int .i64 a0_1, .int .i64 a0_2], .int .i64 0] ?_; (with_reducible refine (rf_Plan.calls kj27 a0_0 a0_1 a0_2 a0_3 _ _ l0_4 _ _ x7_27 0 0 0 a0_0 a0_1 a0_2 0 t548 _ ?side1 ?side2 ?side3 ?side4 A33.1).mono ?_); (case side1 => exact (Kd.C_below HR0_4.1 HB.1)); (case side2 => exact HC0_4.1); (case side3 => exact (Kd.R_reads' HO_7.1).2.2); (case side4 => exact (Kd.R_reads' HO_7.1).2.1); rintro e w36 ⟨v549, rfl, ho0, hb⟩; refine ⟨_, rfl, ?_⟩; replace HO_7 := rb_ HO_7 hb; have HO550 := ak (Kd.R_lower (Kd.R_new' ho0 (Kd.R_lt (rk_ HO_4))) (below_size (hb_ HB))); replace HO_4 := ak (Kd.R_elder' (rk_ HO_4) (Kd.R_base ho0) hb); replace BK536 := bb_ BK536 hb; replace HB := hs_ HB hb; (try clear hb); (try clear ho0)))); refine Met.intro ?_; (go_step); refine meetU_ ?rel
          case rel => exact ⟨_, (t548), H', ⟨by have := HJ1.1; have := HJ5.1; have := HJ7.1; have := HJ11.1; have := HJ13.1; have := HJ17.1; have := HJ21.1; have := HJ27.1; omega⟩, ⟨by exact Kd.R_mono HO_4.1 (fun _ hk => hk.2)⟩, ⟨by exact HO_7.1⟩, ⟨by exact Kd.R_mono HO550.1 (fun _ hk => hk.2)⟩, ⟨bk_ BK536⟩, ⟨hb_ HB⟩⟩
         clear HC32; obtain ⟨kq, x8_31, HA, HJ31, HO_4, HO_7, HO_8, BK536, HB⟩ := hcut
         cases kq with
         | zero => exact absurd HA.1 (by simp [lw_BoxpackBest.j9])
         | succ kj31 =>
          have H := HA.1; clear HA; simp only [lw_BoxpackBest.j9] at H; have HC37 := ak H; clear H; obtain ⟨Ao38, co38, eo38⟩ := Kd.R_slice HO_8.1; subst eo38; (go_upto_if 46 with (fail)); (refine cutU_ [none, none, some 2, none, none, none, none, none, none, some 9, some 10, some 11, some 12, some 13, some 14, some 15, some 16, some 17, some 18, some 19, some 20, some 21, some 22, some 23, some 24, some 25, some 26, some 27, some 28, some 29, some 30, some 31, some 32, some 33, some 34, some 35, some 36, some 37, some 38, some 39, some 40, some 41, some 42, some 43, some 44, some 45, some 46, some 47, some 48, some 49, some 50, some 51, some 52, some 53, some 54, some 55, some 56, some 57, some 58, some 59, some 60, some 61, some 62, some 63, some 64, some 65, some 66, some 67, some 68, some 69, some 70, some 71, some 72, some 73, some 74] (fun u_ wc_ => (fun wc => ∃ (kq : Nat), Aside0 (lw_BoxpackBest.j11 kq x3_13 x4_13 x5_13 x7_27 x8_31 = some r) ∧ Aside0 (kq ≤ kj31) ∧ Aside0 (Kd.R k61 61 wc w.heap.size (fun k_ => some k_ ≠ ((.slice Ao38 x8_31.length co38) : Value).ownBlock) u4 x4_13) ∧ Aside0 (Kd.R (Kd.int .i64) 2 wc w.heap.size (fun _ => True) u7 x7_27) ∧ Aside0 (Kd.R k61 61 wc w.heap.size (fun k_ => some k_ ≠ (u4 : Value).ownBlock) (.slice Ao38 x8_31.length co38) x8_31) ∧ Aside0 (wc.heap[gb536]? = some (.cells #[.int .i64 a0_0, .int .i64 a0_1, .int .i64 a0_2, .int .i64 a0_3, (.slice A0_4 l0_4.length c0_4)] 26 (0, 0))) ∧ Aside0 (Below w.heap.size w wc))  wc_) ?rest10 ?first10); (case' rest10 => (intro u_ wc hcut; dsimp only [fg_, List.toList_toArray] at hcut ⊢)); (case' first10 => (intro _ _ _ _))
          case first10 =>
           have H := HC37.1; clear HC37; (by_cases c39 : (x8_31.length : Int) > 1024)
           ·rw [if_pos c39] at H
            have c39b0 := decide_eq_true c39; (have c39b1 : decide (1024 < x8_31.length) = true := decide_eq_true (by omega)); clear c39; ((rw [c39b0])); have HC40 := ak H; clear H; (go_upto_region 12 with (fail)); (refine cutU_ [none, none, some 2, none, none, none, none, none, none, some 9, some 10, some 11, some 12, some 13, some 14, some 15, some 16, some 17, some 18, some 19, some 20, some 21, some 22, some 23, some 24, some 25, some 26, some 27, some 28, some 29, some 30, some 31, some 32, some 33, some 34, some 35, some 36, some 37, some 38, some 39, some 40, some 41, some 42, some 43, some 44, some 45, some 46, some 47, some 48, some 49, some 50, some 51, some 52, some 53, some 54, some 55, some 56, some 57, some 58, some 59, some 60, some 61, some 62, some 63, some 64, some 65, some 66, some 67, some 68, some 69, some 70, some 71, some 72, some 73, some 74] (fun u_ wc_ => (fun v2 wc => ∃ (kq : Nat) (x2_39 : Bool), v2 = .bool x2_39 ∧ Aside0 (lw_BoxpackBest.j10 kq x2_39 = some r) ∧ Aside0 (kq ≤ kj31) ∧ Aside0 (wc.heap[gb536]? = some (.cells #[.int .i64 a0_0, .int .i64 a0_1, .int .i64 a0_2, .int .i64 a0_3, (.slice A0_4 l0_4.length c0_4)] 26 (0, 0))) ∧ Aside0 (Below w.heap.size w wc)) (u_ 2) wc_) ?rest11 ?first11); (case' rest11 => (intro u_ wc hcut; dsimp only [fg_, List.toList_toArray] at hcut ⊢; generalize u_ 2 = u2 at hcut ⊢)); (case' first11 => (intro _ _ _ _))
            case first11 =>
             have H := HC40.1; clear HC40; (by_cases c41 : x5_13 = 7)
             ·rw [if_pos c41] at H
              have c41b0 := beq_iff_eq.mpr c41; have c41b1 := bne_eq_false_iff_eq.mpr c41; clear c41; (by_cases c42 : x3_13 = 0)
              ·rw [if_pos c42] at H
               have c42b0 := beq_iff_eq.mpr c42; have c42b1 := bne_eq_false_iff_eq.mpr c42; clear c42; have H' := ak H; clear H; obtain ⟨Ao43, co43, eo43⟩ := Kd.R_slice HO_4.1; subst eo43; (go_wp2); refine Met.intro ?_; (go_step); refine meetU_ ?rel
               case rel => exact ⟨_, (((x4_13.length : Int) == 0)), (by rfl), H', ⟨by have := HJ1.1; have := HJ5.1; have := HJ7.1; have := HJ11.1; have := HJ13.1; have := HJ17.1; have := HJ21.1; have := HJ27.1; have := HJ31.1; omega⟩, ⟨bk_ BK536⟩, ⟨hb_ HB⟩⟩
              rw [if_neg c42] at H
              have c42b0 := beq_eq_false_iff_ne.mpr c42; have c42b1 := bne_iff_ne.mpr c42; have H' := ak H; clear H; (go_wp2); refine Met.intro ?_; (go_step); refine meetU_ ?rel
              case rel => exact ⟨_, (false), (by rfl), H', ⟨by have := HJ1.1; have := HJ5.1; have := HJ7.1; have := HJ11.1; have := HJ13.1; have := HJ17.1; have := HJ21.1; have := HJ27.1; have := HJ31.1; omega⟩, ⟨bk_ BK536⟩, ⟨hb_ HB⟩⟩
             rw [if_neg c41] at H
             have c41b0 := beq_eq_false_iff_ne.mpr c41; have c41b1 := bne_iff_ne.mpr c41; have H' := ak H; clear H; (go_wp2); refine Met.intro ?_; (go_step); refine meetU_ ?rel
             case rel => exact ⟨_, (false), (by rfl), H', ⟨by have := HJ1.1; have := HJ5.1; have := HJ7.1; have := HJ11.1; have := HJ13.1; have := HJ17.1; have := HJ21.1; have := HJ27.1; have := HJ31.1; omega⟩, ⟨bk_ BK536⟩, ⟨hb_ HB⟩⟩
            clear HC40; (try clear c39b0); (try clear c39b1); obtain ⟨kq, x2_39, rfl, HA, HJ39, BK536, HB⟩ := hcut
            cases kq with
            | zero => exact absurd HA.1 (by simp [lw_BoxpackBest.j10])
            | succ kj39 =>
             have H := HA.1; clear HA; simp only [lw_BoxpackBest.j10] at H; obtain rfl := Option.some.inj H; (go_wp2); (go_ret); (exact ⟨by rfl, hb_ HB⟩)
           rw [if_neg c39] at H
           have c39b0 := decide_eq_false c39; (have c39b1 : decide (1024 < x8_31.length) = false := decide_eq_false (by omega)); clear c39; ((rw [c39b0])); have H' := ak H; clear H; (go_wp2); refine Met.intro ?_; (go_step); refine meetU_ ?rel
           case rel => exact ⟨_, H', ⟨by have := HJ1.1; have := HJ5.1; have := HJ7.1; have := HJ11.1; have := HJ13.1; have := HJ17.1; have := HJ21.1; have := HJ27.1; have := HJ31.1; omega⟩, ⟨by exact HO_4.1⟩, ⟨by exact HO_7.1⟩, ⟨by exact HO_8.1⟩, ⟨bk_ BK536⟩, ⟨hb_ HB⟩⟩
          clear HC37; obtain ⟨kq, HA, HJ36, HO_4, HO_7, HO_8, BK536, HB⟩ := hcut
          cases kq with
          | zero => exact absurd HA.1 (by simp [lw_BoxpackBest.j11])
          | succ kj36 =>
           have H := HA.1; clear HA; simp only [lw_BoxpackBest.j11] at H; have HC44 := ak H; clear H; (go_upto_region 13 with (fail)); (refine cutU_ [none, none, some 2, none, none, none, none, none, none, some 9, some 10, some 11, some 12, some 13, some 14, some 15, some 16, some 17, some 18, some 19, some 20, some 21, some 22, some 23, some 24, some 25, some 26, some 27, some 28, some 29, some 30, some 31, some 32, some 33, some 34, some 35, some 36, some 37, some 38, some 39, some 40, some 41, some 42, some 43, some 44, some 45, some 46, some 47, some 48, some 49, some 50, some 51, some 52, some 53, some 54, some 55, some 56, some 57, some 58, some 59, some 60, some 61, some 62, some 63, some 64, some 65, some 66, some 67, some 68, some 69, some 70, some 71, some 72, some 73, some 74] (fun u_ wc_ => (fun v2 wc => ∃ (kq : Nat) (x2_43 : Bool), v2 = .bool x2_43 ∧ Aside0 (lw_BoxpackBest.j12 kq x2_43 = some r) ∧ Aside0 (kq ≤ kj36) ∧ Aside0 (wc.heap[gb536]? = some (.cells #[.int .i64 a0_0, .int .i64 a0_1, .int .i64 a0_2, .int .i64 a0_3, (.slice A0_4 l0_4.length c0_4)] 26 (0, 0))) ∧ Aside0 (Below w.heap.size w wc)) (u_ 2) wc_) ?rest12 ?first12); (case' rest12 => (intro u_ wc hcut; dsimp only [fg_, List.toList_toArray] at hcut ⊢; generalize u_ 2 = u2 at hcut ⊢)); (case' first12 => (intro _ _ _ _))
           case first12 =>
            have H := HC44.1; clear HC44; (by_cases c45 : x5_13 = 0)
            ·rw [if_pos c45] at H
             have c45b0 := beq_iff_eq.mpr c45; have c45b1 := bne_eq_false_iff_eq.mpr c45; clear c45; obtain ⟨ji46, hji46⟩ : ∃ j_ : Int, (wrap64 ((x7_27.length : Int) - 1)) = j_ := ⟨_, rfl⟩; (replace H : (if 0 ≤ (ji46) then (if (ji46) < (x7_27.length : Int) then (if x3_13 = (rd x7_27 (ji46)) then ((rf_Same.f kj36 x4_13 x8_31).bind fun t552 => (lw_BoxpackBest.j12 kj36 t552)) else (lw_BoxpackBest.j12 kj36 false)) else (none)) else (none)) = some r := by (rw [hji46] at H; exact H)); have hji46w : (IntKind.i64.wrap ((x7_27.length : Int) - 1)) = ji46 := (i64_w _).trans hji46; (by_cases c47 : 0 ≤ (ji46))
             ·rw [if_pos c47] at H
              have c47b0 := decide_eq_true c47; clear c47; (by_cases c48 : (ji46) < (x7_27.length : Int))
              ·rw [if_pos c48] at H
               have c48b0 := decide_eq_true c48; clear c48; (by_cases c49 : x3_13 = (rd x7_27 (ji46)))
               ·rw [if_pos c49] at H
                have c49b0 := beq_iff_eq.mpr c49; have c49b1 := bne_eq_false_iff_eq.mpr c49; clear c49; obtain ⟨t552, A500, H⟩ := obs_ H; (try dsimp only at H); have A50 := ak A500; clear A500; have H' := ak H; clear H; obtain ⟨Ao51, co51, eo51⟩ := Kd.R_slice HO_7.1; subst eo51; have p551 : 0 ≤ ((ji46) : Int) := od_; have q551 : (ji46) < (x7_27.length : Int) := od_; obtain ⟨ad551, e551, hx551_0⟩ := Kd.at_int (Kd.R_reads' HO_7.1).2.2 (ji46) p551 q551; (cases e551); replace p551 := eq_true p551; replace q551 := eq_true q551; obtain ⟨Ao52, co52, eo52⟩ := Kd.R_slice HO_4.1; subst eo52; (go_wp2_with (first | (go_at_call 19; (with_reducible refine (rf_Same.calls kj36 _ _ x4_13 _ _ x8_31 t552 _ ?side1 ?side2 ?side3 ?side4 A50.1).mono ?_); (case side1 => exact (Kd.R_reads' HO_4.1).2.2); (case side2 => exact (Kd.R_reads' HO_4.1).2.1); (case side3 => exact (Kd.R_reads' HO_8.1).2.2); (case side4 => exact (Kd.R_reads' HO_8.1).2.1); rintro e w' ⟨rfl, ⟨nd, rfl⟩⟩))); refine Met.intro ?_; (go_step); refine meetU_ ?rel
                case rel => exact ⟨_, (t552), (by rfl), H', ⟨by have := HJ1.1; have := HJ5.1; have := HJ7.1; have := HJ11.1; have := HJ13.1; have := HJ17.1; have := HJ21.1; have := HJ27.1; have := HJ31.1; have := HJ36.1; omega⟩, ⟨bk_ BK536⟩, ⟨hb_ HB⟩⟩
               rw [if_neg c49] at H
               have c49b0 := beq_eq_false_iff_ne.mpr c49; have c49b1 := bne_iff_ne.mpr c49; have H' := ak H; clear H; obtain ⟨Ao53, co53, eo53⟩ := Kd.R_slice HO_7.1; subst eo53; have p551 : 0 ≤ ((ji46) : Int) := od_; have q551 : (ji46) < (x7_27.length : Int) := od_; obtain ⟨ad551, e551, hx551_0⟩ := Kd.at_int (Kd.R_reads' HO_7.1).2.2 (ji46) p551 q551; (cases e551); replace p551 := eq_true p551; replace q551 := eq_true q551; (go_wp2); refine Met.intro ?_; (go_step); refine meetU_ ?rel
               case rel => exact ⟨_, (false), (by rfl), H', ⟨by have := HJ1.1; have := HJ5.1; have := HJ7.1; have := HJ11.1; have := HJ13.1; have := HJ17.1; have := HJ21.1; have := HJ27.1; have := HJ31.1; have := HJ36.1; omega⟩, ⟨bk_ BK536⟩, ⟨hb_ HB⟩⟩
              rw [if_neg c48] at H; (exact absurd H (by simp))
             rw [if_neg c47] at H; (exact absurd H (by simp))
            rw [if_neg c45] at H
            have c45b0 := beq_eq_false_iff_ne.mpr c45; have c45b1 := bne_iff_ne.mpr c45; have H' := ak H; clear H; (go_wp2); refine Met.intro ?_; (go_step); refine meetU_ ?rel
            case rel => exact ⟨_, (false), (by rfl), H', ⟨by have := HJ1.1; have := HJ5.1; have := HJ7.1; have := HJ11.1; have := HJ13.1; have := HJ17.1; have := HJ21.1; have := HJ27.1; have := HJ31.1; have := HJ36.1; omega⟩, ⟨bk_ BK536⟩, ⟨hb_ HB⟩⟩
           clear HC44; obtain ⟨kq, x2_43, rfl, HA, HJ43, BK536, HB⟩ := hcut
           cases kq with
           | zero => exact absurd HA.1 (by simp [lw_BoxpackBest.j12])
           | succ kj43 =>
            have H := HA.1; clear HA; simp only [lw_BoxpackBest.j12] at H; obtain rfl := Option.some.inj H; (go_wp2); (go_ret); (exact ⟨by rfl, hb_ HB⟩)

/-- THE ONE PURE STATEMENT of lw_BoxpackBest. -/
def lw_BoxpackBest.Pure : Prop := ∀ (a0_0 : Int) (a0_1 : Int) (a0_2 : Int) (a0_3 : Int) (l0_4 : List (S56)), g26 ((⟨(⟨a0_0, a0_1, a0_2⟩ : S23), a0_3, l0_4⟩ : S26)) → ∃ k, lw_BoxpackBest.f k a0_0 a0_1 a0_2 a0_3 l0_4 = some true
theorem lw_BoxpackBest.walk (P : lw_BoxpackBest.Pure) (a0_0 : Int) (a0_1 : Int) (a0_2 : Int) (a0_3 : Int) (A0_4 : Option Addr) (c0_4 : Nat) (l0_4 : List (S56)) (w : World) (w0 : g26 ((⟨(⟨a0_0, a0_1, a0_2⟩ : S23), a0_3, l0_4⟩ : S26))) (hr0_4 : Kd.C k56 w A0_4 l0_4.length l0_4) (hc0_4 : l0_4.length ≤ c0_4) :
  Calls Try.prog 4 #[.agg #[.int .i64 a0_0, .int .i64 a0_1, .int .i64 a0_2, .int .i64 a0_3, .slice A0_4 l0_4.length c0_4]] w fun e w' => e = .returned (.bool true) ∧ Below w.heap.size w w' := by
 obtain ⟨k, h⟩ := P a0_0 a0_1 a0_2 a0_3 l0_4 w0
 refine (lw_BoxpackBest.calls k a0_0 a0_1 a0_2 a0_3 _ _ l0_4 true w hr0_4 hc0_4 h).mono ?_
 rintro e w' ⟨rfl, hd⟩
 exact ⟨rfl, hd⟩

end Go.Proofs.Ytgacodhpniehiaa.XA
