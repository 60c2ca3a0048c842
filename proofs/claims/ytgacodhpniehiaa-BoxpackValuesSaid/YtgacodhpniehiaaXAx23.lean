import Derived.Test.YtgacodhpniehiaaXAx2
import Derived.Test.YtgacodhpniehiaaXAx17
import Derived.Test.YtgacodhpniehiaaXAx22
namespace Go.Proofs.Ytgacodhpniehiaa.XA
open Flat Go.RowKit Opens YtgacodhpniehiaaW.PrintWords YtgacodhpniehiaaW.PrintLast YtgacodhpniehiaaW.PrintMore
attribute [local go_sem] max2_int min2_int max_two min_two max_three min_three max_four min_four cell_some cell_same
set_option linter.unusedVariables false
set_option linter.unusedSimpArgs false

mutual
def lw_BoxpackValues.j0 : Nat → List (S61) → Bool → Int → Int → Int → Int → List (S56) → Option (Bool)
 | 0, _, _, _, _, _, _, _ => none
 | k + 1, x1, x11, x315000, x315001, x315002, x315003, x315004 => if x11 = true then (some false) else (lw_BoxpackValues.j1 k x1 x315000 x315001 x315002 x315003 x315004)
def lw_BoxpackValues.j1 : Nat → List (S61) → Int → Int → Int → Int → List (S56) → Option (Bool)
 | 0, _, _, _, _, _, _ => none
 | k + 1, x1, x315000, x315001, x315002, x315003, x315004 => (rf_Small.f k x315000 x315001 x315002 x315003 x315004 24).bind fun t316 => (if t316 = true then (if (x1.length : Int) > 60 then (if (x1.length : Int) ≤ 1024 then (lw_BoxpackValues.j2 k x1 true x315000 x315001 x315002 x315003 x315004) else (lw_BoxpackValues.j2 k x1 (decide ((x1.length : Int) > 2000)) x315000 x315001 x315002 x315003 x315004)) else (lw_BoxpackValues.j2 k x1 (decide ((x1.length : Int) > 2000)) x315000 x315001 x315002 x315003 x315004)) else (lw_BoxpackValues.j2 k x1 true x315000 x315001 x315002 x315003 x315004))
def lw_BoxpackValues.j2 : Nat → List (S61) → Bool → Int → Int → Int → Int → List (S56) → Option (Bool)
 | 0, _, _, _, _, _, _, _ => none
 | k + 1, x1, x29, x315000, x315001, x315002, x315003, x315004 => if x29 = true then (some true) else (lw_BoxpackValues.j3 k x1 x315000 x315001 x315002 x315003 x315004)
def lw_BoxpackValues.j3 : Nat → List (S61) → Int → Int → Int → Int → List (S56) → Option (Bool)
 | 0, _, _, _, _, _, _ => none
 | k + 1, x1, x315000, x315001, x315002, x315003, x315004 => (boxpack_Value.f k x315000 x315001 x315002 x315003 x315004 x1).bind fun bt317 => (lw_BoxpackValues.j4 k x1 bt317.1 bt317.2 x315000 x315001 x315002 x315003 x315004)
def lw_BoxpackValues.j4 : Nat → List (S61) → Int → Int → Int → Int → Int → Int → List (S56) → Option (Bool)
 | 0, _, _, _, _, _, _, _, _ => none
 | k + 1, x1, x5, x6, x315000, x315001, x315002, x315003, x315004 => (rf_Check.f k x315000 x315001 x315002 x315003 x315004).bind fun t319 => (lw_BoxpackValues.j5 k x1 x5 x6 t319 x315000 x315001 x315002 x315003 x315004)
def lw_BoxpackValues.j5 : Nat → List (S61) → Int → Int → Int → Int → Int → Int → Int → List (S56) → Option (Bool)
 | 0, _, _, _, _, _, _, _, _, _ => none
 | k + 1, x1, x5, x6, x7, x315000, x315001, x315002, x315003, x315004 => if x7 = 0 then ((boxpack_Check.f k x315000 x315001 x315002 x315003 x315004).bind fun t320 => (lw_BoxpackValues.j6 k x1 x5 x6 x7 (t320 != x7) x315000 x315001 x315002 x315003 x315004)) else (lw_BoxpackValues.j6 k x1 x5 x6 x7 true x315000 x315001 x315002 x315003 x315004)
def lw_BoxpackValues.j6 : Nat → List (S61) → Int → Int → Int → Bool → Int → Int → Int → Int → List (S56) → Option (Bool)
 | 0, _, _, _, _, _, _, _, _, _, _ => none
 | k + 1, x1, x5, x6, x7, x45, x315000, x315001, x315002, x315003, x315004 => if x45 = true then ((boxpack_Check.f k x315000 x315001 x315002 x315003 x315004).bind fun t321 => (if t321 = x7 then (if x6 = x7 then (lw_BoxpackValues.j7 k (x5 == 0)) else (lw_BoxpackValues.j7 k false)) else (lw_BoxpackValues.j7 k false))) else (lw_BoxpackValues.j8 k x1 x5 x6 x315000 x315001 x315002 x315003 x315004)
def lw_BoxpackValues.j8 : Nat → List (S61) → Int → Int → Int → Int → Int → Int → List (S56) → Option (Bool)
 | 0, _, _, _, _, _, _, _, _ => none
 | k + 1, x1, x5, x6, x315000, x315001, x315002, x315003, x315004 => (rf_Value.f k x315000 x315001 x315002 x315003 x315004 x1).bind fun bt322 => (if x5 = bt322.1 then (lw_BoxpackValues.j9 k (x6 == bt322.2)) else (lw_BoxpackValues.j9 k false))
def lw_BoxpackValues.j9 : Nat → Bool → Option (Bool)
 | 0, _ => none
 | k + 1, x4 => some x4
def lw_BoxpackValues.j7 : Nat → Bool → Option (Bool)
 | 0, _ => none
 | k + 1, x4 => some x4
end
def lw_BoxpackValues.f (k : Nat) (a0_0 : Int) (a0_1 : Int) (a0_2 : Int) (a0_3 : Int) (l0_4 : List (S56)) (l1 : List (S61)) : Option (Bool) := (lw_awake.f k).bind fun t315 => (lw_BoxpackValues.j0 k l1 (!t315) a0_0 a0_1 a0_2 a0_3 l0_4)
theorem lw_BoxpackValues.mono_l : ∀ k, (∀ y0 y1 y2 y3 y4 y5 y6, LeO (lw_BoxpackValues.j0 k y0 y1 y2 y3 y4 y5 y6) (lw_BoxpackValues.j0 (k + 1) y0 y1 y2 y3 y4 y5 y6)) ∧ (∀ y0 y1 y2 y3 y4 y5, LeO (lw_BoxpackValues.j1 k y0 y1 y2 y3 y4 y5) (lw_BoxpackValues.j1 (k + 1) y0 y1 y2 y3 y4 y5)) ∧ (∀ y0 y1 y2 y3 y4 y5 y6, LeO (lw_BoxpackValues.j2 k y0 y1 y2 y3 y4 y5 y6) (lw_BoxpackValues.j2 (k + 1) y0 y1 y2 y3 y4 y5 y6)) ∧ (∀ y0 y1 y2 y3 y4 y5, LeO (lw_BoxpackValues.j3 k y0 y1 y2 y3 y4 y5) (lw_BoxpackValues.j3 (k + 1) y0 y1 y2 y3 y4 y5)) ∧ (∀ y0 y1 y2 y3 y4 y5 y6 y7, LeO (lw_BoxpackValues.j4 k y0 y1 y2 y3 y4 y5 y6 y7) (lw_BoxpackValues.j4 (k + 1) y0 y1 y2 y3 y4 y5 y6 y7)) ∧ (∀ y0 y1 y2 y3 y4 y5 y6 y7 y8, LeO (lw_BoxpackValues.j5 k y0 y1 y2 y3 y4 y5 y6 y7 y8) (lw_BoxpackValues.j5 (k + 1) y0 y1 y2 y3 y4 y5 y6 y7 y8)) ∧ (∀ y0 y1 y2 y3 y4 y5 y6 y7 y8 y9, LeO (lw_BoxpackValues.j6 k y0 y1 y2 y3 y4 y5 y6 y7 y8 y9) (lw_BoxpackValues.j6 (k + 1) y0 y1 y2 y3 y4 y5 y6 y7 y8 y9)) ∧ (∀ y0 y1 y2 y3 y4 y5 y6 y7, LeO (lw_BoxpackValues.j8 k y0 y1 y2 y3 y4 y5 y6 y7) (lw_BoxpackValues.j8 (k + 1) y0 y1 y2 y3 y4 y5 y6 y7)) ∧ (∀ y0, LeO (lw_BoxpackValues.j9 k y0) (lw_BoxpackValues.j9 (k + 1) y0)) ∧ (∀ y0, LeO (lw_BoxpackValues.j7 k y0) (lw_BoxpackValues.j7 (k + 1) y0))
 | 0 => ⟨fun _ _ _ _ _ _ _ r h => by simp [lw_BoxpackValues.j0] at h, fun _ _ _ _ _ _ r h => by simp [lw_BoxpackValues.j1] at h, fun _ _ _ _ _ _ _ r h => by simp [lw_BoxpackValues.j2] at h, fun _ _ _ _ _ _ r h => by simp [lw_BoxpackValues.j3] at h, fun _ _ _ _ _ _ _ _ r h => by simp [lw_BoxpackValues.j4] at h, fun _ _ _ _ _ _ _ _ _ r h => by simp [lw_BoxpackValues.j5] at h, fun _ _ _ _ _ _ _ _ _ _ r h => by simp [lw_BoxpackValues.j6] at h, fun _ _ _ _ _ _ _ _ r h => by simp [lw_BoxpackValues.j8] at h, fun _ r h => by simp [lw_BoxpackValues.j9] at h, fun _ r h => by simp [lw_BoxpackValues.j7] at h⟩
 | k + 1 => by
  obtain ⟨ih0, ih1, ih2, ih3, ih4, ih5, ih6, ih7, ih8, ih9⟩ := lw_BoxpackValues.mono_l k; refine ⟨?_, ?_, ?_, ?_, ?_, ?_, ?_, ?_, ?_, ?_⟩; (all_goals (intros; (first | unfold lw_BoxpackValues.j0 | unfold lw_BoxpackValues.j1 | unfold lw_BoxpackValues.j2 | unfold lw_BoxpackValues.j3 | unfold lw_BoxpackValues.j4 | unfold lw_BoxpackValues.j5 | unfold lw_BoxpackValues.j6 | unfold lw_BoxpackValues.j8 | unfold lw_BoxpackValues.j9 | unfold lw_BoxpackValues.j7)))
  all_goals (repeat' first
   | (with_reducible exact ih1 _ _ _ _ _ _)
   | (with_reducible exact ih2 _ _ _ _ _ _ _)
   | (with_reducible exact ih3 _ _ _ _ _ _)
   | (with_reducible exact ih4 _ _ _ _ _ _ _ _)
   | (with_reducible exact ih5 _ _ _ _ _ _ _ _ _)
   | (with_reducible exact ih6 _ _ _ _ _ _ _ _ _ _)
   | (with_reducible exact ih7 _ _ _ _ _ _ _ _)
   | (with_reducible exact ih8 _)
   | (with_reducible exact ih9 _)
   | (with_reducible exact boxpack_Check.mono _ _ _ _ _ _)
   | (with_reducible exact boxpack_Value.mono _ _ _ _ _ _ _)
   | (with_reducible exact rf_Check.mono _ _ _ _ _ _)
   | (with_reducible exact rf_Small.mono _ _ _ _ _ _ _)
   | (with_reducible exact rf_Value.mono _ _ _ _ _ _ _)
   | (with_reducible exact LeO.refl _)
   | (with_reducible refine LeO.ite ?_ ?_)
   | (with_reducible refine LeO.bind ?_ (fun _ => ?_))
   )
theorem lw_BoxpackValues.mono : ∀ a0 a1 a2 a3 a4 a5 k, LeO (lw_BoxpackValues.f k a0 a1 a2 a3 a4 a5) (lw_BoxpackValues.f (k + 1) a0 a1 a2 a3 a4 a5) := by
 intro a0 a1 a2 a3 a4 a5 k
 obtain ⟨ih0, ih1, ih2, ih3, ih4, ih5, ih6, ih7, ih8, ih9⟩ := lw_BoxpackValues.mono_l k
 unfold lw_BoxpackValues.f
 repeat' first
   | (with_reducible exact ih0 _ _ _ _ _ _ _)
   | (with_reducible exact lw_awake.mono _)
   | (with_reducible refine LeO.bind ?_ (fun _ => ?_))
   
set_option maxHeartbeats 8000000 in
set_option maxRecDepth 100000 in
theorem lw_BoxpackValues.calls (k : Nat) (a0_0 : Int) (a0_1 : Int) (a0_2 : Int) (a0_3 : Int) (A0_4 : Option Addr) (c0_4 : Nat) (l0_4 : List (S56)) (A1 : Option Addr) (c1 : Nat) (l1 : List (S61)) (r : Bool) (w : World) (hr0_4 : Kd.C k56 w A0_4 l0_4.length l0_4) (hc0_4 : l0_4.length ≤ c0_4) (hr1 : Kd.C k61 w A1 l1.length l1) (hc1 : l1.length ≤ c1) (h : lw_BoxpackValues.f k a0_0 a0_1 a0_2 a0_3 l0_4 l1 = some r) :
  Calls Try.prog 3 #[.agg #[.int .i64 a0_0, .int .i64 a0_1, .int .i64 a0_2, .int .i64 a0_3, .slice A0_4 l0_4.length c0_4], .slice A1 l1.length c1] w fun e w' => e = .returned (.bool r) ∧ Below w.heap.size w w' := by
 have hu26 := Try.underlying26
 have HR0_4 := ak hr0_4
 have HC0_4 := ak hc0_4
 clear hr0_4 hc0_4
 have HR1 := ak hr1
 have HC1 := ak hc1
 clear hr1 hc1
 have HB := ak (Below.refl w.heap.size w)
 have H : ((lw_awake.f k).bind fun t315 => (lw_BoxpackValues.j0 k l1 (!t315) a0_0 a0_1 a0_2 a0_3 l0_4)) = some r := h
 clear h
 have HC3 := ak H
 clear H
 go_enter Try.func3, Try.ntmps3
 go_upto_region 1 with (first | ((with_reducible refine gate_dst (N := 2) rfl ?_); refine box_event ?hg (N := 2) ?hd (cs := #[.int .i64 a0_0, .int .i64 a0_1, .int .i64 a0_2, .int .i64 a0_3, .slice A0_4 l0_4.length c0_4]) (t := 26) ?hr ?_; (case hd => rfl); (case hg => rfl); (case hr => (go_simp; done)); intro gb314 hg w4 hbox hb; have BK314 := ak (hbox); have GW314 := gw_ HB hg; have GE314 := gw_ HB hg; replace HB := hs_ HB hb; clear hb hbox hg))
 refine cutU_ [none, none, none, none, none, none, none, none, none, none, some 10, some 11, some 12, some 13, some 14, some 15, some 16, some 17, some 18, some 19, some 20, some 21, some 22, some 23, some 24, some 25, some 26, some 27, some 28, some 29, some 30, some 31, some 32, some 33, some 34, some 35, some 36, some 37, some 38, some 39, some 40, some 41, some 42, some 43, some 44, some 45, some 46, some 47, some 48, some 49, some 50, some 51, some 52, some 53, some 54, some 55, some 56, some 57, some 58, some 59, some 60, some 61, some 62, some 63, some 64, some 65, some 66, some 67, some 68, some 69, some 70, some 71, some 72] (fun u_ wc_ => (fun v11 wc => ∃ (kq : Nat) (x11_2 : Bool), v11 = .bool x11_2 ∧ Aside0 (lw_BoxpackValues.j0 kq l1 x11_2 a0_0 a0_1 a0_2 a0_3 l0_4 = some r) ∧ Aside0 (kq ≤ k) ∧ Aside0 (wc.heap[gb314]? = some (.cells #[.int .i64 a0_0, .int .i64 a0_1, .int .i64 a0_2, .int .i64 a0_3, (.slice A0_4 l0_4.length c0_4)] 26 (0, 0))) ∧ Aside0 (Below w.heap.size w wc)) (u_ 11) wc_) ?rest0 ?first0
 case' rest0 => (intro u_ wc hcut; dsimp only [fg_, List.toList_toArray] at hcut ⊢; generalize u_ 11 = u11 at hcut ⊢)
 case' first0 => (intro _ _ _ _)
 case first0 =>
  have H := HC3.1; clear HC3; obtain ⟨t315, A50, H⟩ := obs_ H; replace H : (lw_BoxpackValues.j0 k l1 (!t315) a0_0 a0_1 a0_2 a0_3 l0_4) = some r := H; have A5 := ak A50; clear A50; have H' := ak H; clear H; (go_wp2_with (first | ((with_reducible refine gate_callee (f := 10) rfl ?_); refine goesL_ (some 10) rfl rfl Try.func10 (by kernel_rfl) rfl #[] rfl am_ ?_; (with_reducible refine (lw_awake.calls k  t315 _ A5.1).mono ?_); rintro e w6 ⟨rfl, hb⟩; refine ⟨_, rfl, ?_⟩; replace BK314 := bb_ BK314 hb; replace HB := hs_ HB hb; (try clear hb)))); refine Met.intro ?_; (go_step); refine meetU_ ?rel
  case rel => exact ⟨_, (!t315), (by rfl), H', ⟨by omega⟩, ⟨bk_ BK314⟩, ⟨hb_ HB⟩⟩
 clear HC3; obtain ⟨kq, x11_2, rfl, HA, HJ2, BK314, HB⟩ := hcut
 cases kq with
 | zero => exact absurd HA.1 (by simp [lw_BoxpackValues.j0])
 | succ kj2 =>
  have H := HA.1; clear HA; simp only [lw_BoxpackValues.j0] at H; have HC7 := ak H; clear H; (go_upto_if 11 with (fail)); (refine cutU_ [none, none, none, none, some 4, none, none, none, none, none, some 10, some 11, some 12, some 13, some 14, some 15, some 16, some 17, some 18, some 19, some 20, some 21, some 22, some 23, some 24, some 25, some 26, some 27, some 28, some 29, some 30, some 31, some 32, some 33, some 34, some 35, some 36, some 37, some 38, some 39, some 40, some 41, some 42, some 43, some 44, some 45, some 46, some 47, some 48, some 49, some 50, some 51, some 52, some 53, some 54, some 55, some 56, some 57, some 58, some 59, some 60, some 61, some 62, some 63, some 64, some 65, some 66, some 67, some 68, some 69, some 70, some 71, some 72] (fun u_ wc_ => (fun wc => ∃ (kq : Nat), Aside0 (lw_BoxpackValues.j1 kq l1 a0_0 a0_1 a0_2 a0_3 l0_4 = some r) ∧ Aside0 (kq ≤ kj2) ∧ Aside0 (wc.heap[gb314]? = some (.cells #[.int .i64 a0_0, .int .i64 a0_1, .int .i64 a0_2, .int .i64 a0_3, (.slice A0_4 l0_4.length c0_4)] 26 (0, 0))) ∧ Aside0 (Below w.heap.size w wc))  wc_) ?rest1 ?first1); (case' rest1 => (intro u_ wc hcut; dsimp only [fg_, List.toList_toArray] at hcut ⊢)); (case' first1 => (intro _ _ _ _))
  case first1 =>
   have H := HC7.1; clear HC7; (by_cases c8 : x11_2 = true)
   ·subst c8; (replace H : (some false) = some r := by rw [if_pos rfl] at H; exact H); obtain rfl := Option.some.inj H; (go_wp2); (go_ret); (exact ⟨by rfl, hb_ HB⟩)
   replace c8 := Bool.eq_false_iff.mpr c8
   subst c8; (replace H : (lw_BoxpackValues.j1 kj2 l1 a0_0 a0_1 a0_2 a0_3 l0_4) = some r := by rw [if_neg (show ¬ (false = true) by decide)] at H; exact H); have H' := ak H; clear H; (go_wp2); refine Met.intro ?_; (go_step); refine meetU_ ?rel
   case rel => exact ⟨_, H', ⟨by have := HJ2.1; omega⟩, ⟨bk_ BK314⟩, ⟨hb_ HB⟩⟩
  clear HC7; obtain ⟨kq, HA, HJ6, BK314, HB⟩ := hcut
  cases kq with
  | zero => exact absurd HA.1 (by simp [lw_BoxpackValues.j1])
  | succ kj6 =>
   have H := HA.1; clear HA; simp only [lw_BoxpackValues.j1] at H; have HC9 := ak H; clear H; (go_upto_region 3 with (fail)); (refine cutU_ [none, none, none, none, none, none, none, none, none, none, some 10, some 11, some 12, some 13, some 14, some 15, some 16, some 17, some 18, some 19, some 20, some 21, some 22, some 23, some 24, some 25, some 26, some 27, some 28, some 29, some 30, some 31, some 32, some 33, some 34, some 35, some 36, some 37, some 38, some 39, some 40, some 41, some 42, some 43, some 44, some 45, some 46, some 47, some 48, some 49, some 50, some 51, some 52, some 53, some 54, some 55, some 56, some 57, some 58, some 59, some 60, some 61, some 62, some 63, some 64, some 65, some 66, some 67, some 68, some 69, some 70, some 71, some 72] (fun u_ wc_ => (fun v29 wc => ∃ (kq : Nat) (x29_8 : Bool), v29 = .bool x29_8 ∧ Aside0 (lw_BoxpackValues.j2 kq l1 x29_8 a0_0 a0_1 a0_2 a0_3 l0_4 = some r) ∧ Aside0 (kq ≤ kj6) ∧ Aside0 (wc.heap[gb314]? = some (.cells #[.int .i64 a0_0, .int .i64 a0_1, .int .i64 a0_2, .int .i64 a0_3, (.slice A0_4 l0_4.length c0_4)] 26 (0, 0))) ∧ Aside0 (Below w.heap.size w wc)) (u_ 29) wc_) ?rest2 ?first2); (case' rest2 => (intro u_ wc hcut; dsimp only [fg_, List.toList_toArray] at hcut ⊢; generalize u_ 29 = u29 at hcut ⊢)); (case' first2 => (intro _ _ _ _))
   case first2 =>
    have H := HC9.1; clear HC9; obtain ⟨t316, A100, H⟩ := obs_ H; (replace H : (if t316 = true then (if (l1.length : Int) > 60 then (if (l1.length : Int) ≤ 1024 then (lw_BoxpackValues.j2 kj6 l1 true a0_0 a0_1 a0_2 a0_3 l0_4) else (lw_BoxpackValues.j2 kj6 l1 (decide ((l1.length : Int) > 2000)) a0_0 a0_1 a0_2 a0_3 l0_4)) else (lw_BoxpackValues.j2 kj6 l1 (decide ((l1.length : Int) > 2000)) a0_0 a0_1 a0_2 a0_3 l0_4)) else (lw_BoxpackValues.j2 kj6 l1 true a0_0 a0_1 a0_2 a0_3 l0_4)) = some r := H); have A10 := ak A100; clear A100; (by_cases c11 : t316 = true)
    ·subst c11
     (replace H : (if (l1.length : Int) > 60 then (if (l1.length : Int) ≤ 1024 then (lw_BoxpackValues.j2 kj6 l1 true a0_0 a0_1 a0_2 a0_3 l0_4) else (lw_BoxpackValues.j2 kj6 l1 (decide ((l1.length : Int) > 2000)) a0_0 a0_1 a0_2 a0_3 l0_4)) else (lw_BoxpackValues.j2 kj6 l1 (decide ((l1.length : Int) > 2000)) a0_0 a0_1 a0_2 a0_3 l0_4)) = some r := by rw [if_pos rfl] at H; exact H); (by_cases c12 : (l1.length : Int) > 60)
     ·rw [if_pos c12] at H
      have c12b0 := decide_eq_true c12; (have c12b1 : decide (60 < l1.length) = true := decide_eq_true (by omega)); clear c12; (by_cases c13 : (l1.length : Int) ≤ 1024)
      ·rw [if_pos c13] at H
       have c13b0 := decide_eq_true c13; (have c13b1 : decide (l1.length ≤ 1024) = true := decide_eq_true (by omega)); clear c13; have H' := ak H; clear H; obtain ⟨hcz14_0, hcz14_1, hcz14_2, hcz14_3, hcz14_4, hfz14_0, hfz14_1, hfz14_2, hfz14_3, hfz14_4⟩ := cz5_ BK314; (go_wp2_with (first | ((with_reducible refine gate_callee (f := 11) rfl ?_); refine goesL_ (some 13) rfl rfl Try.func11 (by kernel_rfl) rfl #[.agg #[.int .i64 a0_0, .int .i64 a0_1, .int .i64 a0_2, .int .i64 a0_3, .slice A0_4 l0_4.length c0_4], .int .i64 24] rfl am_ ?_; (with_reducible refine (rf_Small.calls kj6 a0_0 a0_1 a0_2 a0_3 _ _ l0_4 24 true _ ?side1 ?side2 A10.1).mono ?_); (case side1 => exact (Kd.C_below HR0_4.1 HB.1)); (case side2 => exact HC0_4.1); rintro e w15 ⟨rfl, hb⟩; refine ⟨_, rfl, ?_⟩; replace BK314 := bb_ BK314 hb; replace HB := hs_ HB hb; (try clear hb)))); refine Met.intro ?_; (go_step); refine meetU_ ?rel
       case rel => exact ⟨_, (true), (by rfl), H', ⟨by have := HJ2.1; have := HJ6.1; omega⟩, ⟨bk_ BK314⟩, ⟨hb_ HB⟩⟩
      rw [if_neg c13] at H
      have c13b0 := decide_eq_false c13; (have c13b1 : decide (l1.length ≤ 1024) = false := decide_eq_false (by omega)); clear c13; have H' := ak H; clear H; obtain ⟨hcz16_0, hcz16_1, hcz16_2, hcz16_3, hcz16_4, hfz16_0, hfz16_1, hfz16_2, hfz16_3, hfz16_4⟩ := cz5_ BK314; (go_wp2_with (first | ((with_reducible refine gate_callee (f := 11) rfl ?_); refine goesL_ (some 13) rfl rfl Try.func11 (by kernel_rfl) rfl #[.agg #[.int .i64 a0_0, .int .i64 a0_1, .int .i64 a0_2, .int .i64 a0_3, .slice A0_4 l0_4.length c0_4], .int .i64 24] rfl am_ ?_; (with_reducible refine (rf_Small.calls kj6 a0_0 a0_1 a0_2 a0_3 _ _ l0_4 24 true _ ?side1 ?side2 A10.1).mono ?_); (case side1 => exact (Kd.C_below HR0_4.1 HB.1)); (case side2 => exact HC0_4.1); rintro e w17 ⟨rfl, hb⟩; refine ⟨_, rfl, ?_⟩; replace BK314 := bb_ BK314 hb; replace HB := hs_ HB hb; (try clear hb)))); refine Met.intro ?_; (go_step); refine meetU_ ?rel
      case rel => exact ⟨_, (decide ((l1.length : Int) > 2000)), (by rfl), H', ⟨by have := HJ2.1; have := HJ6.1; omega⟩, ⟨bk_ BK314⟩, ⟨hb_ HB⟩⟩
     rw [if_neg c12] at H
     have c12b0 := decide_eq_false c12; (have c12b1 : decide (60 < l1.length) = false := decide_eq_false (by omega)); clear c12; have H' := ak H; clear H; obtain ⟨hcz18_0, hcz18_1, hcz18_2, hcz18_3, hcz18_4, hfz18_0, hfz18_1, hfz18_2, hfz18_3, hfz18_4⟩ := cz5_ BK314; (go_wp2_with (first | ((with_reducible refine gate_callee (f := 11) rfl ?_); refine goesL_ (some 13) rfl rfl Try.func11 (by kernel_rfl) rfl #[.agg #[.int .i64 a0_0, .int .i64 a0_1, .int .i64 a0_2, .int .i64 a0_3, .slice A0_4 l0_4.length c0_4], .int .i64 24] rfl am_ ?_; (with_reducible refine (rf_Small.calls kj6 a0_0 a0_1 a0_2 a0_3 _ _ l0_4 24 true _ ?side1 ?side2 A10.1).mono ?_); (case side1 => exact (Kd.C_below HR0_4.1 HB.1)); (case side2 => exact HC0_4.1); rintro e w19 ⟨rfl, hb⟩; refine ⟨_, rfl, ?_⟩; replace BK314 := bb_ BK314 hb; replace HB := hs_ HB hb; (try clear hb)))); refine Met.intro ?_; (go_step); refine meetU_ ?rel
     case rel => exact ⟨_, (decide ((l1.length : Int) > 2000)), (by rfl), H', ⟨by have := HJ2.1; have := HJ6.1; omega⟩, ⟨bk_ BK314⟩, ⟨hb_ HB⟩⟩
    replace c11 := Bool.eq_false_iff.mpr c11
    subst c11; (replace H : (lw_BoxpackValues.j2 kj6 l1 true a0_0 a0_1 a0_2 a0_3 l0_4) = some r := by rw [if_neg (show ¬ (false = true) by decide)] at H; exact H); have H' := ak H; clear H; obtain ⟨hcz20_0, hcz20_1, hcz20_2, hcz20_3, hcz20_4, hfz20_0, hfz20_1, hfz20_2, hfz20_3, hfz20_4⟩ := cz5_ BK314; (go_wp2_with (first | ((with_reducible refine gate_callee (f := 11) rfl ?_); refine goesL_ (some 13) rfl rfl Try.func11 (by kernel_rfl) rfl #[.agg #[.int .i64 a0_0, .int .i64 a0_1, .int .i64 a0_2, .int .i64 a0_3, .slice A0_4 l0_4.length c0_4], .int .i64 24] rfl am_ ?_; (with_reducible refine (rf_Small.calls kj6 a0_0 a0_1 a0_2 a0_3 _ _ l0_4 24 false _ ?side1 ?side2 A10.1).mono ?_); (case side1 => exact (Kd.C_below HR0_4.1 HB.1)); (case side2 => exact HC0_4.1); rintro e w21 ⟨rfl, hb⟩; refine ⟨_, rfl, ?_⟩; replace BK314 := bb_ BK314 hb; replace HB := hs_ HB hb; (try clear hb)))); refine Met.intro ?_; (go_step); refine meetU_ ?rel
    case rel => exact ⟨_, (true), (by rfl), H', ⟨by have := HJ2.1; have := HJ6.1; omega⟩, ⟨bk_ BK314⟩, ⟨hb_ HB⟩⟩
   clear HC9; obtain ⟨kq, x29_8, rfl, HA, HJ8, BK314, HB⟩ := hcut
   cases kq with
   | zero => exact absurd HA.1 (by simp [lw_BoxpackValues.j2])
   | succ kj8 =>
    have H := HA.1; clear HA; simp only [lw_BoxpackValues.j2] at H; have HC22 := ak H; clear H; (go_upto_if 29 with (fail)); (refine cutU_ [none, none, none, none, some 4, none, none, none, none, none, some 10, some 11, some 12, some 13, some 14, some 15, some 16, some 17, some 18, some 19, some 20, some 21, some 22, some 23, some 24, some 25, some 26, some 27, some 28, some 29, some 30, some 31, some 32, some 33, some 34, some 35, some 36, some 37, some 38, some 39, some 40, some 41, some 42, some 43, some 44, some 45, some 46, some 47, some 48, some 49, some 50, some 51, some 52, some 53, some 54, some 55, some 56, some 57, some 58, some 59, some 60, some 61, some 62, some 63, some 64, some 65, some 66, some 67, some 68, some 69, some 70, some 71, some 72] (fun u_ wc_ => (fun wc => ∃ (kq : Nat), Aside0 (lw_BoxpackValues.j3 kq l1 a0_0 a0_1 a0_2 a0_3 l0_4 = some r) ∧ Aside0 (kq ≤ kj8) ∧ Aside0 (wc.heap[gb314]? = some (.cells #[.int .i64 a0_0, .int .i64 a0_1, .int .i64 a0_2, .int .i64 a0_3, (.slice A0_4 l0_4.length c0_4)] 26 (0, 0))) ∧ Aside0 (Below w.heap.size w wc))  wc_) ?rest3 ?first3); (case' rest3 => (intro u_ wc hcut; dsimp only [fg_, List.toList_toArray] at hcut ⊢)); (case' first3 => (intro _ _ _ _))
    case first3 =>
     have H := HC22.1; clear HC22; (by_cases c23 : x29_8 = true)
     ·subst c23; (replace H : (some true) = some r := by rw [if_pos rfl] at H; exact H); obtain rfl := Option.some.inj H; (go_wp2); (go_ret); (exact ⟨by rfl, hb_ HB⟩)
     replace c23 := Bool.eq_false_iff.mpr c23
     subst c23; (replace H : (lw_BoxpackValues.j3 kj8 l1 a0_0 a0_1 a0_2 a0_3 l0_4) = some r := by rw [if_neg (show ¬ (false = true) by decide)] at H; exact H); have H' := ak H; clear H; (go_wp2); refine Met.intro ?_; (go_step); refine meetU_ ?rel
     case rel => exact ⟨_, H', ⟨by have := HJ2.1; have := HJ6.1; have := HJ8.1; omega⟩, ⟨bk_ BK314⟩, ⟨hb_ HB⟩⟩
    clear HC22; obtain ⟨kq, HA, HJ21, BK314, HB⟩ := hcut
    cases kq with
    | zero => exact absurd HA.1 (by simp [lw_BoxpackValues.j3])
    | succ kj21 =>
     have H := HA.1; clear HA; simp only [lw_BoxpackValues.j3] at H; have HC24 := ak H; clear H; (go_upto_region 5 with (fail)); (refine cutU_ [none, none, none, none, none, some 5, some 6, none, none, none, some 10, some 11, some 12, some 13, some 14, some 15, some 16, some 17, some 18, some 19, some 20, some 21, some 22, some 23, some 24, some 25, some 26, some 27, some 28, some 29, some 30, some 31, some 32, some 33, some 34, some 35, some 36, some 37, some 38, some 39, some 40, some 41, some 42, some 43, some 44, some 45, some 46, some 47, some 48, some 49, some 50, some 51, some 52, some 53, some 54, some 55, some 56, some 57, some 58, some 59, some 60, some 61, some 62, some 63, some 64, some 65, some 66, some 67, some 68, some 69, some 70, some 71, some 72] (fun u_ wc_ => (fun v5 v6 wc => ∃ (kq : Nat) (x5_23 : Int) (x6_23 : Int), v5 = .int .i64 x5_23 ∧ v6 = .int .i64 x6_23 ∧ Aside0 (lw_BoxpackValues.j4 kq l1 x5_23 x6_23 a0_0 a0_1 a0_2 a0_3 l0_4 = some r) ∧ Aside0 (kq ≤ kj21) ∧ Aside0 (wc.heap[gb314]? = some (.cells #[.int .i64 a0_0, .int .i64 a0_1, .int .i64 a0_2, .int .i64 a0_3, (.slice A0_4 l0_4.length c0_4)] 26 (0, 0))) ∧ Aside0 (Below w.heap.size w wc)) (u_ 5) (u_ 6) wc_) ?rest4 ?first4); (case' rest4 => (intro u_ wc hcut; dsimp only [fg_, List.toList_toArray] at hcut ⊢; generalize u_ 5 = u5 at hcut ⊢; generalize u_ 6 = u6 at hcut ⊢)); (case' first4 => (intro _ _ _ _))
     case first4 =>
      have H := HC24.1; clear HC24; obtain ⟨⟨t317, t318⟩, A250, H⟩ := obs_ H; replace H : (lw_BoxpackValues.j4 kj21 l1 t317 t318 a0_0 a0_1 a0_2 a0_3 l0_4) = some r := H; have A25 := ak A250; clear A250; have H' := ak H; clear H; obtain ⟨hcz26_0, hcz26_1, hcz26_2, hcz26_3, hcz26_4, hfz26_0, hfz26_1, hfz26_2, hfz26_3, hfz26_4⟩ := cz5_ BK314; (go_wp2_with (first | ((with_reducible refine gate_callee (f := 12) rfl ?_); refine goesL_ (some 33) rfl rfl Try.func12 (by kernel_rfl) rfl #[.agg #[.int .i64 a0_0, .int .i64 a0_1, .int .i64 a0_2, .int .i64 a0_3, .slice A0_4 l0_4.length c0_4], .slice A1 l1.length c1] rfl am_ ?_; (with_reducible refine (boxpack_Value.calls kj21 a0_0 a0_1 a0_2 a0_3 _ _ l0_4 _ _ l1 t317 t318 _ ?side1 ?side2 ?side3 ?side4 A25.1).mono ?_); (case side1 => exact (Kd.C_below HR0_4.1 HB.1)); (case side2 => exact HC0_4.1); (case side3 => exact (Kd.C_below HR1.1 HB.1)); (case side4 => exact HC1.1); rintro e w27 ⟨rfl, hb⟩; refine ⟨_, rfl, ?_⟩; replace BK314 := bb_ BK314 hb; replace HB := hs_ HB hb; (try clear hb)))); refine Met.intro ?_; (go_step); refine meetU_ ?rel
      case rel => exact ⟨_, (t317), (t318), (by rfl), (by rfl), H', ⟨by have := HJ2.1; have := HJ6.1; have := HJ8.1; have := HJ21.1; omega⟩, ⟨bk_ BK314⟩, ⟨hb_ HB⟩⟩
     clear HC24; obtain ⟨kq, x5_23, x6_23, rfl, rfl, HA, HJ23, BK314, HB⟩ := hcut
     cases kq with
     | zero => exact absurd HA.1 (by simp [lw_BoxpackValues.j4])
     | succ kj23 =>
      have H := HA.1; clear HA; simp only [lw_BoxpackValues.j4] at H; have HC28 := ak H; clear H; (go_upto_region 6 with (fail)); (refine cutU_ [none, none, none, none, none, none, none, some 7, none, none, some 10, some 11, some 12, some 13, some 14, some 15, some 16, some 17, some 18, some 19, some 20, some 21, some 22, some 23, some 24, some 25, some 26, some 27, some 28, some 29, some 30, some 31, some 32, some 33, some 34, some 35, some 36, some 37, some 38, some 39, some 40, some 41, some 42, some 43, some 44, some 45, some 46, some 47, some 48, some 49, some 50, some 51, some 52, some 53, some 54, some 55, some 56, some 57, some 58, some 59, some 60, some 61, some 62, some 63, some 64, some 65, some 66, some 67, some 68, some 69, some 70, some 71, some 72] (fun u_ wc_ => (fun v7 wc => ∃ (kq : Nat) (x7_27 : Int), v7 = .int .i64 x7_27 ∧ Aside0 (lw_BoxpackValues.j5 kq l1 x5_23 x6_23 x7_27 a0_0 a0_1 a0_2 a0_3 l0_4 = some r) ∧ Aside0 (kq ≤ kj23) ∧ Aside0 (wc.heap[gb314]? = some (.cells #[.int .i64 a0_0, .int .i64 a0_1, .int .i64 a0_2, .int .i64 a0_3, (.slice A0_4 l0_4.length c0_4)] 26 (0, 0))) ∧ Aside0 (Below w.heap.size w wc)) (u_ 7) wc_) ?rest5 ?first5); (case' rest5 => (intro u_ wc hcut; dsimp only [fg_, List.toList_toArray] at hcut ⊢; generalize u_ 7 = u7 at hcut ⊢)); (case' first5 => (intro _ _ _ _))
      case first5 =>
       have H := HC28.1; clear HC28; obtain ⟨t319, A290, H⟩ := obs_ H; replace H : (lw_BoxpackValues.j5 kj23 l1 x5_23 x6_23 t319 a0_0 a0_1 a0_2 a0_3 l0_4) = some r := H; have A29 := ak A290; clear A290; have H' := ak H; clear H; obtain ⟨hcz30_0, hcz30_1, hcz30_2, hcz30_3, hcz30_4, hfz30_0, hfz30_1, hfz30_2, hfz30_3, hfz30_4⟩ := cz5_ BK314; (go_wp2_with (first | ((with_reducible refine gate_callee (f := 13) rfl ?_); refine goesL_ (some 37) rfl rfl Try.func13 (by kernel_rfl) rfl #[.agg #[.int .i64 a0_0, .int .i64 a0_1, .int .i64 a0_2, .int .i64 a0_3, .slice A0_4 l0_4.length c0_4]] rfl am_ ?_; (with_reducible refine (rf_Check.calls kj23 a0_0 a0_1 a0_2 a0_3 _ _ l0_4 t319 _ ?side1 ?side2 A29.1).mono ?_); (case side1 => exact (Kd.C_below HR0_4.1 HB.1)); (case side2 => exact HC0_4.1); rintro e w31 ⟨rfl, hb⟩; refine ⟨_, rfl, ?_⟩; replace BK314 := bb_ BK314 hb; replace HB := hs_ HB hb; (try clear hb)))); refine Met.intro ?_; (go_step); refine meetU_ ?rel
       case rel => exact ⟨_, (t319), (by rfl), H', ⟨by have := HJ2.1; have := HJ6.1; have := HJ8.1; have := HJ21.1; have := HJ23.1; omega⟩, ⟨bk_ BK314⟩, ⟨hb_ HB⟩⟩
      clear HC28; obtain ⟨kq, x7_27, rfl, HA, HJ27, BK314, HB⟩ := hcut
      cases kq with
      | zero => exact absurd HA.1 (by simp [lw_BoxpackValues.j5])
      | succ kj27 =>
       have H := HA.1; clear HA; simp only [lw_BoxpackValues.j5] at H; have HC32 := ak H; clear H; (go_upto_region 7 with (fail)); (refine cutU_ [none, none, none, none, none, none, none, none, none, none, some 10, some 11, some 12, some 13, some 14, some 15, some 16, some 17, some 18, some 19, some 20, some 21, some 22, some 23, some 24, some 25, some 26, some 27, some 28, some 29, some 30, some 31, some 32, some 33, some 34, some 35, some 36, some 37, some 38, some 39, some 40, some 41, some 42, some 43, some 44, some 45, some 46, some 47, some 48, some 49, some 50, some 51, some 52, some 53, some 54, some 55, some 56, some 57, some 58, some 59, some 60, some 61, some 62, some 63, some 64, some 65, some 66, some 67, some 68, some 69, some 70, some 71, some 72] (fun u_ wc_ => (fun v45 wc => ∃ (kq : Nat) (x45_31 : Bool), v45 = .bool x45_31 ∧ Aside0 (lw_BoxpackValues.j6 kq l1 x5_23 x6_23 x7_27 x45_31 a0_0 a0_1 a0_2 a0_3 l0_4 = some r) ∧ Aside0 (kq ≤ kj27) ∧ Aside0 (wc.heap[gb314]? = some (.cells #[.int .i64 a0_0, .int .i64 a0_1, .int .i64 a0_2, .int .i64 a0_3, (.slice A0_4 l0_4.length c0_4)] 26 (0, 0))) ∧ Aside0 (Below w.heap.size w wc)) (u_ 45) wc_) ?rest6 ?first6); (case' rest6 => (intro u_ wc hcut; dsimp only [fg_, List.toList_toArray] at hcut ⊢; generalize u_ 45 = u45 at hcut ⊢)); (case' first6 => (intro _ _ _ _))
       case first6 =>
        have H := HC32.1; clear HC32; (by_cases c33 : x7_27 = 0)
        ·rw [if_pos c33] at H
         have c33b0 := beq_iff_eq.mpr c33; have c33b1 := bne_eq_false_iff_eq.mpr c33; clear c33; obtain ⟨t320, A340, H⟩ := obs_ H; replace H : (lw_BoxpackValues.j6 kj27 l1 x5_23 x6_23 x7_27 (t320 != x7_27) a0_0 a0_1 a0_2 a0_3 l0_4) = some r := H; have A34 := ak A340; clear A340; have H' := ak H; clear H; obtain ⟨hcz35_0, hcz35_1, hcz35_2, hcz35_3, hcz35_4, hfz35_0, hfz35_1, hfz35_2, hfz35_3, hfz35_4⟩ := cz5_ BK314; (go_wp2_with (first | (go_at_call 14; (with_reducible refine (boxpack_Check.calls kj27 a0_0 a0_1 a0_2 a0_3 _ _ l0_4 t320 _ ?side1 ?side2 A34.1).mono ?_); (case side1 => exact (Kd.C_below HR0_4.1 HB.1)); (case side2 => exact HC0_4.1); rintro e w36 ⟨rfl, hb⟩; replace BK314 := bb_ BK314 hb; replace HB := hs_ HB hb; (try clear hb)))); refine Met.intro ?_; (go_step); refine meetU_ ?rel
         case rel => exact ⟨_, ((t320 != x7_27)), (by rfl), H', ⟨by have := HJ2.1; have := HJ6.1; have := HJ8.1; have := HJ21.1; have := HJ23.1; have := HJ27.1; omega⟩, ⟨bk_ BK314⟩, ⟨hb_ HB⟩⟩
        rw [if_neg c33] at H
        have c33b0 := beq_eq_false_iff_ne.mpr c33; have c33b1 := bne_iff_ne.mpr c33; have H' := ak H; clear H; (go_wp2); refine Met.intro ?_; (go_step); refine meetU_ ?rel
        case rel => exact ⟨_, (true), (by rfl), H', ⟨by have := HJ2.1; have := HJ6.1; have := HJ8.1; have := HJ21.1; have := HJ23.1; have := HJ27.1; omega⟩, ⟨bk_ BK314⟩, ⟨hb_ HB⟩⟩
       clear HC32; obtain ⟨kq, x45_31, rfl, HA, HJ31, BK314, HB⟩ := hcut
       cases kq with
       | zero => exact absurd HA.1 (by simp [lw_BoxpackValues.j6])
       | succ kj31 =>
        have H := HA.1; clear HA; simp only [lw_BoxpackValues.j6] at H; have HC37 := ak H; clear H; (go_upto_if 45 with (fail)); (refine cutU_ [none, none, none, none, some 4, none, none, none, none, none, some 10, some 11, some 12, some 13, some 14, some 15, some 16, some 17, some 18, some 19, some 20, some 21, some 22, some 23, some 24, some 25, some 26, some 27, some 28, some 29, some 30, some 31, some 32, some 33, some 34, some 35, some 36, some 37, some 38, some 39, some 40, some 41, some 42, some 43, some 44, some 45, some 46, some 47, some 48, some 49, some 50, some 51, some 52, some 53, some 54, some 55, some 56, some 57, some 58, some 59, some 60, some 61, some 62, some 63, some 64, some 65, some 66, some 67, some 68, some 69, some 70, some 71, some 72] (fun u_ wc_ => (fun wc => ∃ (kq : Nat), Aside0 (lw_BoxpackValues.j8 kq l1 x5_23 x6_23 a0_0 a0_1 a0_2 a0_3 l0_4 = some r) ∧ Aside0 (kq ≤ kj31) ∧ Aside0 (wc.heap[gb314]? = some (.cells #[.int .i64 a0_0, .int .i64 a0_1, .int .i64 a0_2, .int .i64 a0_3, (.slice A0_4 l0_4.length c0_4)] 26 (0, 0))) ∧ Aside0 (Below w.heap.size w wc))  wc_) ?rest7 ?first7); (case' rest7 => (intro u_ wc hcut; dsimp only [fg_, List.toList_toArray] at hcut ⊢)); (case' first7 => (intro _ _ _ _))
        case first7 =>
         have H := HC37.1; clear HC37; (by_cases c38 : x45_31 = true)
         ·subst c38
          (replace H : ((boxpack_Check.f kj31 a0_0 a0_1 a0_2 a0_3 l0_4).bind fun t321 => (if t321 = x7_27 then (if x6_23 = x7_27 then (lw_BoxpackValues.j7 kj31 (x5_23 == 0)) else (lw_BoxpackValues.j7 kj31 false)) else (lw_BoxpackValues.j7 kj31 false))) = some r := by rw [if_pos rfl] at H; exact H); have HC39 := ak H; clear H; (go_upto_region 8 with (fail)); (refine cutU_ [none, none, none, none, some 4, none, none, none, none, none, some 10, some 11, some 12, some 13, some 14, some 15, some 16, some 17, some 18, some 19, some 20, some 21, some 22, some 23, some 24, some 25, some 26, some 27, some 28, some 29, some 30, some 31, some 32, some 33, some 34, some 35, some 36, some 37, some 38, some 39, some 40, some 41, some 42, some 43, some 44, some 45, some 46, some 47, some 48, some 49, some 50, some 51, some 52, some 53, some 54, some 55, some 56, some 57, some 58, some 59, some 60, some 61, some 62, some 63, some 64, some 65, some 66, some 67, some 68, some 69, some 70, some 71, some 72] (fun u_ wc_ => (fun v4 wc => ∃ (kq : Nat) (x4_38 : Bool), v4 = .bool x4_38 ∧ Aside0 (lw_BoxpackValues.j7 kq x4_38 = some r) ∧ Aside0 (kq ≤ kj31) ∧ Aside0 (wc.heap[gb314]? = some (.cells #[.int .i64 a0_0, .int .i64 a0_1, .int .i64 a0_2, .int .i64 a0_3, (.slice A0_4 l0_4.length c0_4)] 26 (0, 0))) ∧ Aside0 (Below w.heap.size w wc)) (u_ 4) wc_) ?rest8 ?first8); (case' rest8 => (intro u_ wc hcut; dsimp only [fg_, List.toList_toArray] at hcut ⊢; generalize u_ 4 = u4 at hcut ⊢)); (case' first8 => (intro _ _ _ _))
          case first8 =>
           have H := HC39.1; clear HC39; obtain ⟨t321, A400, H⟩ := obs_ H; (replace H : (if t321 = x7_27 then (if x6_23 = x7_27 then (lw_BoxpackValues.j7 kj31 (x5_23 == 0)) else (lw_BoxpackValues.j7 kj31 false)) else (lw_BoxpackValues.j7 kj31 false)) = some r := H); have A40 := ak A400; clear A400; (by_cases c41 : t321 = x7_27)
           ·rw [if_pos c41] at H
            have c41b0 := beq_iff_eq.mpr c41; have c41b1 := bne_eq_false_iff_eq.mpr c41; clear c41; (by_cases c42 : x6_23 = x7_27)
            ·rw [if_pos c42] at H
             have c42b0 := beq_iff_eq.mpr c42; have c42b1 := bne_eq_false_iff_eq.mpr c42; clear c42; have H' := ak H; clear H; obtain ⟨hcz43_0, hcz43_1, hcz43_2, hcz43_3, hcz43_4, hfz43_0, hfz43_1, hfz43_2, hfz43_3, hfz43_4⟩ := cz5_ BK314; (go_wp2_with (first | ((with_reducible refine gate_callee (f := 14) rfl ?_); refine goesL_ (some 47) rfl rfl Try.func14 (by kernel_rfl) rfl #[.agg #[.int .i64 a0_0, .int .i64 a0_1, .int .i64 a0_2, .int .i64 a0_3, .slice A0_4 l0_4.length c0_4]] rfl am_ ?_; (with_reducible refine (boxpack_Check.calls kj31 a0_0 a0_1 a0_2 a0_3 _ _ l0_4 t321 _ ?side1 ?side2 A40.1).mono ?_); (case side1 => exact (Kd.C_below HR0_4.1 HB.1)); (case side2 => exact HC0_4.1); rintro e w44 ⟨rfl, hb⟩; refine ⟨_, rfl, ?_⟩; replace BK314 := bb_ BK314 hb; replace HB := hs_ HB hb; (try clear hb)))); refine Met.intro ?_; (go_step); refine meetU_ ?rel
             case rel => exact ⟨_, ((x5_23 == 0)), (by rfl), H', ⟨by have := HJ2.1; have := HJ6.1; have := HJ8.1; have := HJ21.1; have := HJ23.1; have := HJ27.1; have := HJ31.1; omega⟩, ⟨bk_ BK314⟩, ⟨hb_ HB⟩⟩
            rw [if_neg c42] at H
            have c42b0 := beq_eq_false_iff_ne.mpr c42; have c42b1 := bne_iff_ne.mpr c42; have H' := ak H; clear H; obtain ⟨hcz45_0, hcz45_1, hcz45_2, hcz45_3, hcz45_4, hfz45_0, hfz45_1, hfz45_2, hfz45_3, hfz45_4⟩ := cz5_ BK314; (go_wp2_with (first | ((with_reducible refine gate_callee (f := 14) rfl ?_); refine goesL_ (some 47) rfl rfl Try.func14 (by kernel_rfl) rfl #[.agg #[.int .i64 a0_0, .int .i64 a0_1, .int .i64 a0_2, .int .i64 a0_3, .slice A0_4 l0_4.length c0_4]] rfl am_ ?_; (with_reducible refine (boxpack_Check.calls kj31 a0_0 a0_1 a0_2 a0_3 _ _ l0_4 t321 _ ?side1 ?side2 A40.1).mono ?_); (case side1 => exact (Kd.C_below HR0_4.1 HB.1)); (case side2 => exact HC0_4.1); rintro e w46 ⟨rfl, hb⟩; refine ⟨_, rfl, ?_⟩; replace BK314 := bb_ BK314 hb; replace HB := hs_ HB hb; (try clear hb)))); refine Met.intro ?_; (go_step); refine meetU_ ?rel
            case rel => exact ⟨_, (false), (by rfl), H', ⟨by have := HJ2.1; have := HJ6.1; have := HJ8.1; have := HJ21.1; have := HJ23.1; have := HJ27.1; have := HJ31.1; omega⟩, ⟨bk_ BK314⟩, ⟨hb_ HB⟩⟩
           rw [if_neg c41] at H
           have c41b0 := beq_eq_false_iff_ne.mpr c41; have c41b1 := bne_iff_ne.mpr c41; have H' := ak H; clear H; obtain ⟨hcz47_0, hcz47_1, hcz47_2, hcz47_3, hcz47_4, hfz47_0, hfz47_1, hfz47_2, hfz47_3, hfz47_4⟩ := cz5_ BK314; (go_wp2_with (first | ((with_reducible refine gate_callee (f := 14) rfl ?_); refine goesL_ (some 47) rfl rfl Try.func14 (by kernel_rfl) rfl #[.agg #[.int .i64 a0_0, .int .i64 a0_1, .int .i64 a0_2, .int .i64 a0_3, .slice A0_4 l0_4.length c0_4]] rfl am_ ?_; (with_reducible refine (boxpack_Check.calls kj31 a0_0 a0_1 a0_2 a0_3 _ _ l0_4 t321 _ ?side1 ?side2 A40.1).mono ?_); (case side1 => exact (Kd.C_below HR0_4.1 HB.1)); (case side2 => exact HC0_4.1); rintro e w48 ⟨rfl, hb⟩; refine ⟨_, rfl, ?_⟩; replace BK314 := bb_ BK314 hb; replace HB := hs_ HB hb; (try clear hb)))); refine Met.intro ?_; (go_step); refine meetU_ ?rel
           case rel => exact ⟨_, (false), (by rfl), H', ⟨by have := HJ2.1; have := HJ6.1; have := HJ8.1; have := HJ21.1; have := HJ23.1; have := HJ27.1; have := HJ31.1; omega⟩, ⟨bk_ BK314⟩, ⟨hb_ HB⟩⟩
          clear HC39; obtain ⟨kq, x4_38, rfl, HA, HJ38, BK314, HB⟩ := hcut
          cases kq with
          | zero => exact absurd HA.1 (by simp [lw_BoxpackValues.j7])
          | succ kj38 =>
           have H := HA.1; clear HA; simp only [lw_BoxpackValues.j7] at H; obtain rfl := Option.some.inj H; (go_wp2); (go_ret); (exact ⟨by rfl, hb_ HB⟩)
         replace c38 := Bool.eq_false_iff.mpr c38
         subst c38; (replace H : (lw_BoxpackValues.j8 kj31 l1 x5_23 x6_23 a0_0 a0_1 a0_2 a0_3 l0_4) = some r := by rw [if_neg (show ¬ (false = true) by decide)] at H; exact H); have H' := ak H; clear H; (go_wp2); refine Met.intro ?_; (go_step); refine meetU_ ?rel
         case rel => exact ⟨_, H', ⟨by have := HJ2.1; have := HJ6.1; have := HJ8.1; have := HJ21.1; have := HJ23.1; have := HJ27.1; have := HJ31.1; omega⟩, ⟨bk_ BK314⟩, ⟨hb_ HB⟩⟩
        clear HC37; obtain ⟨kq, HA, HJ36, BK314, HB⟩ := hcut
        cases kq with
        | zero => exact absurd HA.1 (by simp [lw_BoxpackValues.j8])
        | succ kj36 =>
         have H := HA.1; clear HA; simp only [lw_BoxpackValues.j8] at H; obtain ⟨⟨t322, t323⟩, A490, H⟩ := obs_ H; (replace H : (if x5_23 = t322 then (lw_BoxpackValues.j9 kj36 (x6_23 == t323)) else (lw_BoxpackValues.j9 kj36 false)) = some r := H); have A49 := ak A490; clear A490; have HC50 := ak H; clear H; obtain ⟨hcz51_0, hcz51_1, hcz51_2, hcz51_3, hcz51_4, hfz51_0, hfz51_1, hfz51_2, hfz51_3, hfz51_4⟩ := cz5_ BK314; (go_upto_region 10 with (first | ((with_reducible refine gate_callee (f := 15) rfl ?_); refine goesL_ (some 62) rfl rfl Try.func15 (by kernel_rfl) rfl #[.agg #[.int .i64 a0_0, .int .i64 a0_1, .int .i64 a0_2, .int .i64 a0_3, .slice A0_4 l0_4.length c0_4], .slice A1 l1.length c1] rfl am_ ?_; (with_reducible refine (rf_Value.calls kj36 a0_0 a0_1 a0_2 a0_3 _ _ l0_4 _ _ l1 t322 t323 _ ?side1 ?side2 ?side3 ?side4 A49.1).mono ?_); (case side1 => exact (Kd.C_below HR0_4.1 HB.1)); (case side2 => exact HC0_4.1); (case side3 => exact (Kd.C_below HR1.1 HB.1)); (case side4 => exact HC1.1); rintro e w52 ⟨rfl, hb⟩; refine ⟨_, rfl, ?_⟩; replace BK314 := bb_ BK314 hb; replace HB := hs_ HB hb; (try clear hb)))); (refine cutU_ [none, none, none, none, some 4, none, none, none, none, none, some 10, some 11, some 12, some 13, some 14, some 15, some 16, some 17, some 18, some 19, some 20, some 21, some 22, some 23, some 24, some 25, some 26, some 27, some 28, some 29, some 30, some 31, some 32, some 33, some 34, some 35, some 36, some 37, some 38, some 39, some 40, some 41, some 42, some 43, some 44, some 45, some 46, some 47, some 48, some 49, some 50, some 51, some 52, some 53, some 54, some 55, some 56, some 57, some 58, some 59, some 60, some 61, some 62, some 63, some 64, some 65, some 66, some 67, some 68, some 69, some 70, some 71, some 72] (fun u_ wc_ => (fun v4 wc => ∃ (kq : Nat) (x4_49 : Bool), v4 = .bool x4_49 ∧ Aside0 (lw_BoxpackValues.j9 kq x4_49 = some r) ∧ Aside0 (kq ≤ kj36) ∧ Aside0 (wc.heap[gb314]? = some (.cells #[.int .i64 a0_0, .int .i64 a0_1, .int .i64 a0_2, .int .i64 a0_3, (.slice A0_4 l0_4.length c0_4)] 26 (0, 0))) ∧ Aside0 (Below w.heap.size w wc)) (u_ 4) wc_) ?rest9 ?first9); (case' rest9 => (intro u_ wc hcut; dsimp only [fg_, List.toList_toArray] at hcut ⊢; generalize u_ 4 = u4 at hcut ⊢)); (case' first9 => (intro _ _ _ _))
         case first9 =>
          have H := HC50.1; clear HC50; (by_cases c53 : x5_23 = t322)
          ·rw [if_pos c53] at H
           have c53b0 := beq_iff_eq.mpr c53; have c53b1 := bne_eq_false_iff_eq.mpr c53; clear c53; have H' := ak H; clear H; (go_wp2); refine Met.intro ?_; (go_step); refine meetU_ ?rel
           case rel => exact ⟨_, ((x6_23 == t323)), (by rfl), H', ⟨by have := HJ2.1; have := HJ6.1; have := HJ8.1; have := HJ21.1; have := HJ23.1; have := HJ27.1; have := HJ31.1; have := HJ36.1; omega⟩, ⟨bk_ BK314⟩, ⟨hb_ HB⟩⟩
          rw [if_neg c53] at H
          have c53b0 := beq_eq_false_iff_ne.mpr c53; have c53b1 := bne_iff_ne.mpr c53; have H' := ak H; clear H; (go_wp2); refine Met.intro ?_; (go_step); refine meetU_ ?rel
          case rel => exact ⟨_, (false), (by rfl), H', ⟨by have := HJ2.1; have := HJ6.1; have := HJ8.1; have := HJ21.1; have := HJ23.1; have := HJ27.1; have := HJ31.1; have := HJ36.1; omega⟩, ⟨bk_ BK314⟩, ⟨hb_ HB⟩⟩
         clear HC50; (try clear hcz51_0); (try clear hcz51_1); (try clear hcz51_2); (try clear hcz51_3); (try clear hcz51_4); (try clear hfz51_0); (try clear hfz51_1); (try clear hfz51_2); (try clear hfz51_3); (try clear hfz51_4); obtain ⟨kq, x4_49, rfl, HA, HJ49, BK314, HB⟩ := hcut
         cases kq with
         | zero => exact absurd HA.1 (by simp [lw_BoxpackValues.j9])
         | succ kj49 =>
          have H := HA.1; clear HA; simp only [lw_BoxpackValues.j9] at H; obtain rfl := Option.some.inj H; (go_wp2); (go_ret); (exact ⟨by rfl, hb_ HB⟩)

/-- THE ONE PURE STATEMENT of lw_BoxpackValues. -/
def lw_BoxpackValues.Pure : Prop := ∀ (a0_0 : Int) (a0_1 : Int) (a0_2 : Int) (a0_3 : Int) (l0_4 : List (S56)) (l1 : List (S61)), g26 ((⟨(⟨a0_0, a0_1, a0_2⟩ : S23), a0_3, l0_4⟩ : S26)) → (gSl g61) l1 → ∃ k, lw_BoxpackValues.f k a0_0 a0_1 a0_2 a0_3 l0_4 l1 = some true
theorem lw_BoxpackValues.walk (P : lw_BoxpackValues.Pure) (a0_0 : Int) (a0_1 : Int) (a0_2 : Int) (a0_3 : Int) (A0_4 : Option Addr) (c0_4 : Nat) (l0_4 : List (S56)) (A1 : Option Addr) (c1 : Nat) (l1 : List (S61)) (w : World) (w0 : g26 ((⟨(⟨a0_0, a0_1, a0_2⟩ : S23), a0_3, l0_4⟩ : S26))) (w1 : (gSl g61) l1) (hr0_4 : Kd.C k56 w A0_4 l0_4.length l0_4) (hc0_4 : l0_4.length ≤ c0_4) (hr1 : Kd.C k61 w A1 l1.length l1) (hc1 : l1.length ≤ c1) :
  Calls Try.prog 3 #[.agg #[.int .i64 a0_0, .int .i64 a0_1, .int .i64 a0_2, .int .i64 a0_3, .slice A0_4 l0_4.length c0_4], .slice A1 l1.length c1] w fun e w' => e = .returned (.bool true) ∧ Below w.heap.size w w' := by
 obtain ⟨k, h⟩ := P a0_0 a0_1 a0_2 a0_3 l0_4 l1 w0 w1
 refine (lw_BoxpackValues.calls k a0_0 a0_1 a0_2 a0_3 _ _ l0_4 _ _ l1 true w hr0_4 hc0_4 hr1 hc1 h).mono ?_
 rintro e w' ⟨rfl, hd⟩
 exact ⟨rfl, hd⟩

end Go.Proofs.Ytgacodhpniehiaa.XA
