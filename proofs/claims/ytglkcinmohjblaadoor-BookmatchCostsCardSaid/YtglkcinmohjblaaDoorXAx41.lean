import Derived.Test.YtglkcinmohjblaaDoorXAx3
import Derived.Test.YtglkcinmohjblaaDoorXAx4
import Derived.Test.YtglkcinmohjblaaDoorXAx32
import Derived.Test.YtglkcinmohjblaaDoorXAx34
import Derived.Test.YtglkcinmohjblaaDoorXAx37
import Derived.Test.YtglkcinmohjblaaDoorXAx39
import Derived.Test.YtglkcinmohjblaaDoorXAx40
import Derived.Test.YtglkcinmohjblaaDoorXAx38
namespace Go.Proofs.YtglkcinmohjblaaDoor.XA
open Flat Go.RowKit Opens YtglkcinmohjblaaDoorW.PrintWords YtglkcinmohjblaaDoorW.PrintLast YtglkcinmohjblaaDoorW.PrintMore
attribute [local go_sem] max2_int min2_int max_two min_two max_three min_three max_four min_four cell_some cell_same
set_option linter.unusedVariables false
set_option linter.unusedSimpArgs false

mutual
def lw_BookmatchCosts.j0 : Nat → List (S62) → List (S68) → Bool → Option (Bool)
 | 0, _, _, _ => none
 | k + 1, x0, x1, x15 => if x15 = true then ((lw_awake.f k).bind fun t426 => (some t426)) else (lw_BookmatchCosts.j1 k x0 x1)
def lw_BookmatchCosts.j1 : Nat → List (S62) → List (S68) → Option (Bool)
 | 0, _, _ => none
 | k + 1, x0, x1 => (lw_ours.f k x1).bind fun t427 => ((m_Cost.f k x0 t427).bind fun bt430 => (lw_BookmatchCosts.j2 k x0 x1 bt430.1 bt430.2))
def lw_BookmatchCosts.j2 : Nat → List (S62) → List (S68) → Int → Int → Option (Bool)
 | 0, _, _, _, _ => none
 | k + 1, x0, x1, x5, x6 => (rf_Check.f k x0).bind fun t432 => (lw_BookmatchCosts.j3 k x0 x1 x5 x6 t432)
def lw_BookmatchCosts.j3 : Nat → List (S62) → List (S68) → Int → Int → Int → Option (Bool)
 | 0, _, _, _, _, _ => none
 | k + 1, x0, x1, x5, x6, x7 => if x7 = 0 then ((rf_Row.f k x0 x1).bind fun t433 => (lw_BookmatchCosts.j4 k x0 x1 x5 x6 x7 (!t433))) else (lw_BookmatchCosts.j4 k x0 x1 x5 x6 x7 false)
def lw_BookmatchCosts.j4 : Nat → List (S62) → List (S68) → Int → Int → Int → Bool → Option (Bool)
 | 0, _, _, _, _, _, _ => none
 | k + 1, x0, x1, x5, x6, x7, x33 => if x33 = true then (lw_BookmatchCosts.j5 k x0 x1 x5 x6 1) else (lw_BookmatchCosts.j5 k x0 x1 x5 x6 x7)
def lw_BookmatchCosts.j5 : Nat → List (S62) → List (S68) → Int → Int → Int → Option (Bool)
 | 0, _, _, _, _, _ => none
 | k + 1, x0, x1, x5, x6, x7 => if x7 = 0 then (lw_BookmatchCosts.j7 k x0 x1 x5 x6) else ((lw_awake.f k).bind fun t434 => (if t434 = true then (if x6 = x7 then (lw_BookmatchCosts.j6 k (x5 == 0)) else (lw_BookmatchCosts.j6 k false)) else (lw_BookmatchCosts.j6 k false)))
def lw_BookmatchCosts.j7 : Nat → List (S62) → List (S68) → Int → Int → Option (Bool)
 | 0, _, _, _, _ => none
 | k + 1, x0, x1, x5, x6 => (lw_awake.f k).bind fun t435 => (if t435 = true then (if x6 = 0 then ((rf_Cost.f k x0 x1).bind fun t436 => (lw_BookmatchCosts.j8 k (x5 == t436))) else (lw_BookmatchCosts.j8 k false)) else (lw_BookmatchCosts.j8 k false))
def lw_BookmatchCosts.j8 : Nat → Bool → Option (Bool)
 | 0, _ => none
 | k + 1, x4 => some x4
def lw_BookmatchCosts.j6 : Nat → Bool → Option (Bool)
 | 0, _ => none
 | k + 1, x4 => some x4
end
def lw_BookmatchCosts.f (k : Nat) (l0 : List (S62)) (l1 : List (S68))  : Option (Bool) := (rf_Few.f k l0 20).bind fun t425 => (if t425 = true then (lw_BookmatchCosts.j0 k l0 l1 (decide ((l1.length : Int) > 70))) else (lw_BookmatchCosts.j0 k l0 l1 true))
theorem lw_BookmatchCosts.mono_l : ∀ k, (∀ y0 y1 y2, LeO (lw_BookmatchCosts.j0 k y0 y1 y2) (lw_BookmatchCosts.j0 (k + 1) y0 y1 y2)) ∧ (∀ y0 y1, LeO (lw_BookmatchCosts.j1 k y0 y1) (lw_BookmatchCosts.j1 (k + 1) y0 y1)) ∧ (∀ y0 y1 y2 y3, LeO (lw_BookmatchCosts.j2 k y0 y1 y2 y3) (lw_BookmatchCosts.j2 (k + 1) y0 y1 y2 y3)) ∧ (∀ y0 y1 y2 y3 y4, LeO (lw_BookmatchCosts.j3 k y0 y1 y2 y3 y4) (lw_BookmatchCosts.j3 (k + 1) y0 y1 y2 y3 y4)) ∧ (∀ y0 y1 y2 y3 y4 y5, LeO (lw_BookmatchCosts.j4 k y0 y1 y2 y3 y4 y5) (lw_BookmatchCosts.j4 (k + 1) y0 y1 y2 y3 y4 y5)) ∧ (∀ y0 y1 y2 y3 y4, LeO (lw_BookmatchCosts.j5 k y0 y1 y2 y3 y4) (lw_BookmatchCosts.j5 (k + 1) y0 y1 y2 y3 y4)) ∧ (∀ y0 y1 y2 y3, LeO (lw_BookmatchCosts.j7 k y0 y1 y2 y3) (lw_BookmatchCosts.j7 (k + 1) y0 y1 y2 y3)) ∧ (∀ y0, LeO (lw_BookmatchCosts.j8 k y0) (lw_BookmatchCosts.j8 (k + 1) y0)) ∧ (∀ y0, LeO (lw_BookmatchCosts.j6 k y0) (lw_BookmatchCosts.j6 (k + 1) y0))
 | 0 => ⟨fun _ _ _ r h => by simp [lw_BookmatchCosts.j0] at h, fun _ _ r h => by simp [lw_BookmatchCosts.j1] at h, fun _ _ _ _ r h => by simp [lw_BookmatchCosts.j2] at h, fun _ _ _ _ _ r h => by simp [lw_BookmatchCosts.j3] at h, fun _ _ _ _ _ _ r h => by simp [lw_BookmatchCosts.j4] at h, fun _ _ _ _ _ r h => by simp [lw_BookmatchCosts.j5] at h, fun _ _ _ _ r h => by simp [lw_BookmatchCosts.j7] at h, fun _ r h => by simp [lw_BookmatchCosts.j8] at h, fun _ r h => by simp [lw_BookmatchCosts.j6] at h⟩
 | k + 1 => by
  obtain ⟨ih0, ih1, ih2, ih3, ih4, ih5, ih6, ih7, ih8⟩ := lw_BookmatchCosts.mono_l k; refine ⟨?_, ?_, ?_, ?_, ?_, ?_, ?_, ?_, ?_⟩; (all_goals (intros; (first | unfold lw_BookmatchCosts.j0 | unfold lw_BookmatchCosts.j1 | unfold lw_BookmatchCosts.j2 | unfold lw_BookmatchCosts.j3 | unfold lw_BookmatchCosts.j4 | unfold lw_BookmatchCosts.j5 | unfold lw_BookmatchCosts.j7 | unfold lw_BookmatchCosts.j8 | unfold lw_BookmatchCosts.j6)))
  all_goals (repeat' first
   | (with_reducible exact ih0 _ _ _)
   | (with_reducible exact ih1 _ _)
   | (with_reducible exact ih2 _ _ _ _)
   | (with_reducible exact ih3 _ _ _ _ _)
   | (with_reducible exact ih4 _ _ _ _ _ _)
   | (with_reducible exact ih5 _ _ _ _ _)
   | (with_reducible exact ih6 _ _ _ _)
   | (with_reducible exact ih7 _)
   | (with_reducible exact ih8 _)
   | (with_reducible exact m_Cost.mono _ _ _)
   | (with_reducible exact lw_awake.mono _)
   | (with_reducible exact lw_ours.mono _ _)
   | (with_reducible exact rf_Check.mono _ _)
   | (with_reducible exact rf_Cost.mono _ _ _)
   | (with_reducible exact rf_Few.mono _ _ _)
   | (with_reducible exact rf_Row.mono _ _ _)
   | (with_reducible exact LeO.refl _)
   | (with_reducible exact LeO.none _)
   | (with_reducible refine LeO.ite ?_ ?_)
   | (with_reducible refine LeO.bind ?_ (fun _ => ?_))
   | exact ih0 _ _ _
   | exact ih1 _ _
   | exact ih2 _ _ _ _
   | exact ih3 _ _ _ _ _
   | exact ih4 _ _ _ _ _ _
   | exact ih5 _ _ _ _ _
   | exact ih6 _ _ _ _
   | exact ih7 _
   | exact ih8 _
   | exact m_Cost.mono _ _ _
   | exact lw_awake.mono _
   | exact lw_ours.mono _ _
   | exact rf_Check.mono _ _
   | exact rf_Cost.mono _ _ _
   | exact rf_Few.mono _ _ _
   | exact rf_Row.mono _ _ _
   | exact LeO.none _
   | refine LeO.ite ?_ ?_
   | refine LeO.bind ?_ (fun _ => ?_))
theorem lw_BookmatchCosts.mono : ∀ a0 a1 k, LeO (lw_BookmatchCosts.f k a0 a1) (lw_BookmatchCosts.f (k + 1) a0 a1) := by
 intro a0 a1 k
 obtain ⟨ih0, ih1, ih2, ih3, ih4, ih5, ih6, ih7, ih8⟩ := lw_BookmatchCosts.mono_l k
 unfold lw_BookmatchCosts.f
 repeat' first
   | (with_reducible exact ih0 _ _ _)
   | (with_reducible exact ih1 _ _)
   | (with_reducible exact ih2 _ _ _ _)
   | (with_reducible exact ih3 _ _ _ _ _)
   | (with_reducible exact ih4 _ _ _ _ _ _)
   | (with_reducible exact ih5 _ _ _ _ _)
   | (with_reducible exact ih6 _ _ _ _)
   | (with_reducible exact ih7 _)
   | (with_reducible exact ih8 _)
   | (with_reducible exact m_Cost.mono _ _ _)
   | (with_reducible exact lw_awake.mono _)
   | (with_reducible exact lw_ours.mono _ _)
   | (with_reducible exact rf_Check.mono _ _)
   | (with_reducible exact rf_Cost.mono _ _ _)
   | (with_reducible exact rf_Few.mono _ _ _)
   | (with_reducible exact rf_Row.mono _ _ _)
   | (with_reducible exact LeO.refl _)
   | (with_reducible exact LeO.none _)
   | (with_reducible refine LeO.ite ?_ ?_)
   | (with_reducible refine LeO.bind ?_ (fun _ => ?_))
   | exact ih0 _ _ _
   | exact ih1 _ _
   | exact ih2 _ _ _ _
   | exact ih3 _ _ _ _ _
   | exact ih4 _ _ _ _ _ _
   | exact ih5 _ _ _ _ _
   | exact ih6 _ _ _ _
   | exact ih7 _
   | exact ih8 _
   | exact m_Cost.mono _ _ _
   | exact lw_awake.mono _
   | exact lw_ours.mono _ _
   | exact rf_Check.mono _ _
   | exact rf_Cost.mono _ _ _
   | exact rf_Few.mono _ _ _
   | exact rf_Row.mono _ _ _
   | exact LeO.none _
   | refine LeO.ite ?_ ?_
   | refine LeO.bind ?_ (fun _ => ?_)
set_option maxHeartbeats 8000000 in
set_option maxRecDepth 100000 in
theorem lw_BookmatchCosts.calls (k : Nat) (A0 : Option Addr) (c0 : Nat) (l0 : List (S62)) (A1 : Option Addr) (c1 : Nat) (l1 : List (S68)) (tg0 : TypeId) (r : Bool) (w : World) (hr0 : Kd.C k62 w A0 l0.length l0) (hc0 : l0.length ≤ c0) (hr1 : Kd.C k68 w A1 l1.length l1) (hc1 : l1.length ≤ c1) (hb16 : w.heap[0]? = some (.cells #[.bool false, .bool true] tg0 (0, 0))) (h : lw_BookmatchCosts.f k l0 l1 = some r) :
  Calls Tryd.prog 9 #[.slice A0 l0.length c0, .slice A1 l1.length c1] w fun e w' => e = .returned (.bool r) ∧ Below w.heap.size w w' := by
 have HR0 := ak hr0
 have HC0 := ak hc0
 clear hr0 hc0
 have HR1 := ak hr1
 have HC1 := ak hc1
 clear hr1 hc1
 have GL16 := blk_lt hb16
 have BK16 := ak hb16
 clear hb16
 have HB := ak (Below.refl w.heap.size w)
 have H : ((rf_Few.f k l0 20).bind fun t425 => (if t425 = true then (lw_BookmatchCosts.j0 k l0 l1 (decide ((l1.length : Int) > 70))) else (lw_BookmatchCosts.j0 k l0 l1 true))) = some r := h
 clear h
 have HC4 := ak H
 clear H
 go_enter Tryd.func9, Tryd.ntmps9
 go_upto_region 1 with (fail)
 refine cutU_ [none, none, none, none, none, none, none, none, some 8, some 9, some 10, some 11, some 12, some 13, some 14, some 15, some 16, some 17, some 18, some 19, some 20, some 21, some 22, some 23, some 24, some 25, some 26, some 27, some 28, some 29, some 30, some 31, some 32, some 33, some 34, some 35, some 36, some 37, some 38, some 39, some 40, some 41, some 42, some 43, some 44, some 45, some 46, some 47, some 48, some 49, some 50, some 51, some 52, some 53, some 54, some 55, some 56, some 57] (fun u_ wc_ => (fun v15 wc => ∃ (kq : Nat) (x15_3 : Bool), v15 = .bool x15_3 ∧ Aside0 (lw_BookmatchCosts.j0 kq l0 l1 x15_3 = some r) ∧ Aside0 (kq ≤ k) ∧ Aside0 (wc.heap[0]? = some (.cells #[.bool false, .bool true] tg0 (0, 0))) ∧ Aside0 (Below w.heap.size w wc)) (u_ 15) wc_) ?rest0 ?first0
 case' rest0 => (intro u_ wc hcut; dsimp only [fg_, List.toList_toArray] at hcut ⊢; generalize u_ 15 = u15 at hcut ⊢)
 case' first0 => (intro _ _ _ _)
 case first0 =>
  have H := HC4.1; clear HC4; obtain ⟨t425, A50, H⟩ := obs_ H; (replace H : (if t425 = true then (lw_BookmatchCosts.j0 k l0 l1 (decide ((l1.length : Int) > 70))) else (lw_BookmatchCosts.j0 k l0 l1 true)) = some r := H); have A5 := ak A50; clear A50; (by_cases c6 : t425 = true)
  ·subst c6
   (replace H : (lw_BookmatchCosts.j0 k l0 l1 (decide ((l1.length : Int) > 70))) = some r := by rw [if_pos rfl] at H; exact H); have H' := ak H; clear H; (go_wp2_with (first | ((with_reducible refine gate_callee (f := 11) rfl ?_); refine goesL_ (some 9) rfl rfl Tryd.func11 (by kernel_rfl) rfl #[.slice A0 l0.length c0, .int .i64 20] rfl (by (try simp only [List.map_toArray, List.map_cons, List.map_nil]); first | done | rfl | (simp only [List.length_drop, List.length_take]; rfl)) ?_; (with_reducible refine (rf_Few.calls k _ _ l0 20 true _ ?side1 ?side2 A5.1).mono ?_); (case side1 => repeat (first | exact (Kd.C_below HR0.1 HB.1) | (with_reducible refine Kd.C_alloc ?_ _) | (with_reducible refine Kd.C_drewN ?_ _) | (with_reducible refine Kd.C_drew ?_))); (case side2 => exact HC0.1); rintro e w' ⟨rfl, ⟨nd, rfl⟩⟩; refine ⟨_, rfl, ?_⟩))); refine Met.intro ?_; (go_step); refine meetU_ ?rel
   case rel => exact ⟨_, (decide ((l1.length : Int) > 70)), (by first | rfl | (simp; done) | (simp [*]; done)), H', ⟨by first | omega | exact Nat.le_refl _⟩, ⟨bk_ BK16⟩, ⟨hb_ HB⟩⟩
  replace c6 := Bool.eq_false_iff.mpr c6
  subst c6; (replace H : (lw_BookmatchCosts.j0 k l0 l1 true) = some r := by rw [if_neg (show ¬ (false = true) by decide)] at H; exact H); have H' := ak H; clear H; (go_wp2_with (first | ((with_reducible refine gate_callee (f := 11) rfl ?_); refine goesL_ (some 9) rfl rfl Tryd.func11 (by kernel_rfl) rfl #[.slice A0 l0.length c0, .int .i64 20] rfl (by (try simp only [List.map_toArray, List.map_cons, List.map_nil]); first | done | rfl | (simp only [List.length_drop, List.length_take]; rfl)) ?_; (with_reducible refine (rf_Few.calls k _ _ l0 20 false _ ?side1 ?side2 A5.1).mono ?_); (case side1 => repeat (first | exact (Kd.C_below HR0.1 HB.1) | (with_reducible refine Kd.C_alloc ?_ _) | (with_reducible refine Kd.C_drewN ?_ _) | (with_reducible refine Kd.C_drew ?_))); (case side2 => exact HC0.1); rintro e w' ⟨rfl, ⟨nd, rfl⟩⟩; refine ⟨_, rfl, ?_⟩))); refine Met.intro ?_; (go_step); refine meetU_ ?rel
  case rel => exact ⟨_, (true), (by first | rfl | (simp; done) | (simp [*]; done)), H', ⟨by first | omega | exact Nat.le_refl _⟩, ⟨bk_ BK16⟩, ⟨hb_ HB⟩⟩
 clear HC4; (try clear c1); (try clear p2); (try clear c6); obtain ⟨kq, x15_3, rfl, HA, HJ3, BK16, HB⟩ := hcut
 cases kq with
 | zero => exact absurd HA.1 (by simp [lw_BookmatchCosts.j0])
 | succ kj3 =>
  have H := HA.1; clear HA; simp only [lw_BookmatchCosts.j0] at H; have HC7 := ak H; clear H; (go_upto_if 15 with (fail)); (refine cutU_ [none, none, none, none, some 4, none, none, none, some 8, some 9, some 10, some 11, some 12, some 13, some 14, some 15, some 16, some 17, some 18, some 19, some 20, some 21, some 22, some 23, some 24, some 25, some 26, some 27, some 28, some 29, some 30, some 31, some 32, some 33, some 34, some 35, some 36, some 37, some 38, some 39, some 40, some 41, some 42, some 43, some 44, some 45, some 46, some 47, some 48, some 49, some 50, some 51, some 52, some 53, some 54, some 55, some 56, some 57] (fun u_ wc_ => (fun wc => ∃ (kq : Nat), Aside0 (lw_BookmatchCosts.j1 kq l0 l1 = some r) ∧ Aside0 (kq ≤ kj3) ∧ Aside0 (wc.heap[0]? = some (.cells #[.bool false, .bool true] tg0 (0, 0))) ∧ Aside0 (Below w.heap.size w wc))  wc_) ?rest1 ?first1); (case' rest1 => (intro u_ wc hcut; dsimp only [fg_, List.toList_toArray] at hcut ⊢)); (case' first1 => (intro _ _ _ _))
  case first1 =>
   have H := HC7.1; clear HC7; (by_cases c8 : x15_3 = true)
   ·subst c8; (replace H : ((lw_awake.f kj3).bind fun t426 => (some t426)) = some r := by rw [if_pos rfl] at H; exact H); obtain ⟨t426, A90, H⟩ := obs_ H; replace H : (some t426) = some r := H; have A9 := ak A90; clear A90; obtain rfl := Option.some.inj H; (go_wp2_with (first | ((with_reducible refine gate_callee (f := 12) rfl ?_); refine goesL_ (some 16) rfl rfl Tryd.func12 (by kernel_rfl) rfl #[] rfl (by (try simp only [List.map_toArray, List.map_cons, List.map_nil]); first | done | rfl | (simp only [List.length_drop, List.length_take]; rfl)) ?_; (with_reducible refine (lw_awake.calls kj3 tg0 t426 _ ?side1 A9.1).mono ?_); (case side1 => exact (bk_ BK16)); rintro e w10 ⟨rfl, hb⟩; refine ⟨_, rfl, ?_⟩; replace BK16 := bg0 (t := tg0) (bk_ BK16) hb; replace HB := hs_ HB hb; (try clear hb); (try clear hb2); (try clear hk); (try clear hi)))); (go_ret); (exact ⟨by first | rfl | (simp [errW_none, errW_some] <;> rfl) | (simp [*, errW_none, errW_some] <;> rfl), hb_ HB⟩)
   replace c8 := Bool.eq_false_iff.mpr c8
   subst c8; (replace H : (lw_BookmatchCosts.j1 kj3 l0 l1) = some r := by rw [if_neg (show ¬ (false = true) by decide)] at H; exact H); have H' := ak H; clear H; (go_wp2); refine Met.intro ?_; (go_step); refine meetU_ ?rel
   case rel => exact ⟨_, H', ⟨by have := HJ3.1; first | omega | exact Nat.le_refl _⟩, ⟨bk_ BK16⟩, ⟨hb_ HB⟩⟩
  clear HC7; (try clear c1); (try clear p2); (try clear c6); (try clear c8); (try clear c9); (try clear p2); obtain ⟨kq, HA, HJ6, BK16, HB⟩ := hcut
  cases kq with
  | zero => exact absurd HA.1 (by simp [lw_BookmatchCosts.j1])
  | succ kj6 =>
   have H := HA.1; clear HA; simp only [lw_BookmatchCosts.j1] at H; have HC11 := ak H; clear H; (go_upto_region 3 with (fail)); (refine cutU_ [none, none, none, none, none, some 5, some 6, none, some 8, some 9, some 10, some 11, some 12, some 13, some 14, some 15, some 16, some 17, some 18, some 19, some 20, some 21, some 22, some 23, some 24, some 25, some 26, some 27, some 28, some 29, some 30, some 31, some 32, some 33, some 34, some 35, some 36, some 37, some 38, some 39, some 40, some 41, some 42, some 43, some 44, some 45, some 46, some 47, some 48, some 49, some 50, some 51, some 52, some 53, some 54, some 55, some 56, some 57] (fun u_ wc_ => (fun v5 v6 wc => ∃ (kq : Nat) (x5_10 : Int) (x6_10 : Int), v5 = .int .i64 x5_10 ∧ v6 = .int .i64 x6_10 ∧ Aside0 (lw_BookmatchCosts.j2 kq l0 l1 x5_10 x6_10 = some r) ∧ Aside0 (kq ≤ kj6) ∧ Aside0 (wc.heap[0]? = some (.cells #[.bool false, .bool true] tg0 (0, 0))) ∧ Aside0 (Below w.heap.size w wc)) (u_ 5) (u_ 6) wc_) ?rest2 ?first2); (case' rest2 => (intro u_ wc hcut; dsimp only [fg_, List.toList_toArray] at hcut ⊢; generalize u_ 5 = u5 at hcut ⊢; generalize u_ 6 = u6 at hcut ⊢)); (case' first2 => (intro _ _ _ _))
   case first2 =>
    have H := HC11.1; clear HC11; obtain ⟨t427, A120, H⟩ := obs_ H; (replace H : ((m_Cost.f kj6 l0 t427).bind fun bt430 => (lw_BookmatchCosts.j2 kj6 l0 l1 bt430.1 bt430.2)) = some r := H); have A12 := ak A120; clear A120; obtain ⟨⟨t430, t431⟩, A130, H⟩ := obs_ H; replace H : (lw_BookmatchCosts.j2 kj6 l0 l1 t430 t431) = some r := H; have A13 := ak A130; clear A130; have H' := ak H; clear H; (go_wp2_with (first | ((with_reducible refine gate_callee (f := 31) rfl ?_); refine goesL_ (some 20) rfl rfl Tryd.func31 (by kernel_rfl) rfl #[.slice A1 l1.length c1] rfl (by (try simp only [List.map_toArray, List.map_cons, List.map_nil]); first | done | rfl | (simp only [List.length_drop, List.length_take]; rfl)) ?_; (with_reducible refine (lw_ours.calls kj6 _ _ l1 t427 _ ?side1 ?side2 A12.1).mono ?_); (case side1 => repeat (first | exact (Kd.C_below HR1.1 HB.1) | (with_reducible refine Kd.C_alloc ?_ _) | (with_reducible refine Kd.C_drewN ?_ _) | (with_reducible refine Kd.C_drew ?_))); (case side2 => exact HC1.1); rintro e w14 ⟨v428, rfl, ho0, hb⟩; refine ⟨_, rfl, ?_⟩; have HO429 := ak (Kd.R_lower ho0 (below_size (hb_ HB))); replace BK16 := bg0 (t := tg0) (bk_ BK16) hb; replace HB := hs_ HB hb; (try clear hb); (try clear hb2); (try clear hk); (try clear hi); (try clear ho0); obtain ⟨Ao15, co15, eo15⟩ := Kd.R_slice HO429.1; subst eo15) | ((with_reducible refine gate_callee (f := 20) rfl ?_); refine goesL_ (some 21) rfl rfl Tryd.func20 (by kernel_rfl) rfl #[.slice A0 l0.length c0, .slice Ao15 t427.length co15] rfl (by (try simp only [List.map_toArray, List.map_cons, List.map_nil]); first | done | rfl | (simp only [List.length_drop, List.length_take]; rfl)) ?_; (with_reducible refine (m_Cost.calls kj6 _ _ l0 _ _ t427 t430 t431 _ ?side1 ?side2 ?side3 ?side4 A13.1).mono ?_); (case side1 => repeat (first | exact (Kd.C_below HR0.1 HB.1) | (with_reducible refine Kd.C_alloc ?_ _) | (with_reducible refine Kd.C_drewN ?_ _) | (with_reducible refine Kd.C_drew ?_))); (case side2 => exact HC0.1); (case side3 => repeat (first | exact (Kd.R_reads' HO429.1).2.2 | (with_reducible refine Kd.C_alloc ?_ _) | (with_reducible refine Kd.C_drewN ?_ _) | (with_reducible refine Kd.C_drew ?_))); (case side4 => exact (Kd.R_reads' HO429.1).2.1); rintro e w16 ⟨rfl, hb⟩; refine ⟨_, rfl, ?_⟩; replace HO429 := rb_ HO429 hb; replace BK16 := bg0 (t := tg0) (bk_ BK16) hb; replace HB := hs_ HB hb; (try clear hb); (try clear hb2); (try clear hk); (try clear hi)))); refine Met.intro ?_; (go_step); refine meetU_ ?rel
    case rel => exact ⟨_, (t430), (t431), (by first | rfl | (simp; done) | (simp [*]; done)), (by first | rfl | (simp; done) | (simp [*]; done)), H', ⟨by have := HJ3.1; have := HJ6.1; first | omega | exact Nat.le_refl _⟩, ⟨bk_ BK16⟩, ⟨hb_ HB⟩⟩
   clear HC11; (try clear c1); (try clear c2); (try clear p2); (try clear c3); (try clear c6); (try clear c8); (try clear c9); (try clear c11); (try clear c12); (try clear p2); obtain ⟨kq, x5_10, x6_10, rfl, rfl, HA, HJ10, BK16, HB⟩ := hcut
   cases kq with
   | zero => exact absurd HA.1 (by simp [lw_BookmatchCosts.j2])
   | succ kj10 =>
    have H := HA.1; clear HA; simp only [lw_BookmatchCosts.j2] at H; have HC17 := ak H; clear H; (go_upto_region 4 with (fail)); (refine cutU_ [none, none, none, none, none, none, none, some 7, some 8, some 9, some 10, some 11, some 12, some 13, some 14, some 15, some 16, some 17, some 18, some 19, some 20, some 21, some 22, some 23, some 24, some 25, some 26, some 27, some 28, some 29, some 30, some 31, some 32, some 33, some 34, some 35, some 36, some 37, some 38, some 39, some 40, some 41, some 42, some 43, some 44, some 45, some 46, some 47, some 48, some 49, some 50, some 51, some 52, some 53, some 54, some 55, some 56, some 57] (fun u_ wc_ => (fun v7 wc => ∃ (kq : Nat) (x7_16 : Int), v7 = .int .i64 x7_16 ∧ Aside0 (lw_BookmatchCosts.j3 kq l0 l1 x5_10 x6_10 x7_16 = some r) ∧ Aside0 (kq ≤ kj10) ∧ Aside0 (wc.heap[0]? = some (.cells #[.bool false, .bool true] tg0 (0, 0))) ∧ Aside0 (Below w.heap.size w wc)) (u_ 7) wc_) ?rest3 ?first3); (case' rest3 => (intro u_ wc hcut; dsimp only [fg_, List.toList_toArray] at hcut ⊢; generalize u_ 7 = u7 at hcut ⊢)); (case' first3 => (intro _ _ _ _))
    case first3 =>
     have H := HC17.1; clear HC17; obtain ⟨t432, A180, H⟩ := obs_ H; replace H : (lw_BookmatchCosts.j3 kj10 l0 l1 x5_10 x6_10 t432) = some r := H; have A18 := ak A180; clear A180; have H' := ak H; clear H; (go_wp2_with (first | ((with_reducible refine gate_callee (f := 14) rfl ?_); refine goesL_ (some 25) rfl rfl Tryd.func14 (by kernel_rfl) rfl #[.slice A0 l0.length c0] rfl (by (try simp only [List.map_toArray, List.map_cons, List.map_nil]); first | done | rfl | (simp only [List.length_drop, List.length_take]; rfl)) ?_; (with_reducible refine (rf_Check.calls kj10 _ _ l0 t432 _ ?side1 ?side2 A18.1).mono ?_); (case side1 => repeat (first | exact (Kd.C_below HR0.1 HB.1) | (with_reducible refine Kd.C_alloc ?_ _) | (with_reducible refine Kd.C_drewN ?_ _) | (with_reducible refine Kd.C_drew ?_))); (case side2 => exact HC0.1); rintro e w' ⟨rfl, ⟨nd, rfl⟩⟩; refine ⟨_, rfl, ?_⟩))); refine Met.intro ?_; (go_step); refine meetU_ ?rel
     case rel => exact ⟨_, (t432), (by first | rfl | (simp; done) | (simp [*]; done)), H', ⟨by have := HJ3.1; have := HJ6.1; have := HJ10.1; first | omega | exact Nat.le_refl _⟩, ⟨bk_ BK16⟩, ⟨hb_ HB⟩⟩
    clear HC17; (try clear c1); (try clear c2); (try clear p2); (try clear c3); (try clear c6); (try clear c8); (try clear c9); (try clear c11); (try clear c12); (try clear c14); (try clear p2); obtain ⟨kq, x7_16, rfl, HA, HJ16, BK16, HB⟩ := hcut
    cases kq with
    | zero => exact absurd HA.1 (by simp [lw_BookmatchCosts.j3])
    | succ kj16 =>
     have H := HA.1; clear HA; simp only [lw_BookmatchCosts.j3] at H; have HC19 := ak H; clear H; (go_upto_region 5 with (fail)); (refine cutU_ [none, none, none, none, none, none, none, none, some 8, some 9, some 10, some 11, some 12, some 13, some 14, some 15, some 16, some 17, some 18, some 19, some 20, some 21, some 22, some 23, some 24, some 25, some 26, some 27, some 28, some 29, some 30, some 31, some 32, some 33, some 34, some 35, some 36, some 37, some 38, some 39, some 40, some 41, some 42, some 43, some 44, some 45, some 46, some 47, some 48, some 49, some 50, some 51, some 52, some 53, some 54, some 55, some 56, some 57] (fun u_ wc_ => (fun v33 wc => ∃ (kq : Nat) (x33_18 : Bool), v33 = .bool x33_18 ∧ Aside0 (lw_BookmatchCosts.j4 kq l0 l1 x5_10 x6_10 x7_16 x33_18 = some r) ∧ Aside0 (kq ≤ kj16) ∧ Aside0 (wc.heap[0]? = some (.cells #[.bool false, .bool true] tg0 (0, 0))) ∧ Aside0 (Below w.heap.size w wc)) (u_ 33) wc_) ?rest4 ?first4); (case' rest4 => (intro u_ wc hcut; dsimp only [fg_, List.toList_toArray] at hcut ⊢; generalize u_ 33 = u33 at hcut ⊢)); (case' first4 => (intro _ _ _ _))
     case first4 =>
      have H := HC19.1; clear HC19; (by_cases c20 : x7_16 = 0)
      ·rw [if_pos c20] at H
       have c20b0 := beq_iff_eq.mpr c20; have c20b1 := bne_eq_false_iff_eq.mpr c20; clear c20; ((first | rw [c20b0] | (simp only [i64_w, i32_w]; rw [c20b0]) | skip)); obtain ⟨t433, A210, H⟩ := obs_ H; replace H : (lw_BookmatchCosts.j4 kj16 l0 l1 x5_10 x6_10 x7_16 (!t433)) = some r := H; have A21 := ak A210; clear A210; have H' := ak H; clear H; (go_wp2_with (first | (go_at_call 32; (with_reducible refine (rf_Row.calls kj16 _ _ l0 _ _ l1 t433 _ ?side1 ?side2 ?side3 ?side4 A21.1).mono ?_); (case side1 => repeat (first | exact (Kd.C_below HR0.1 HB.1) | (with_reducible refine Kd.C_alloc ?_ _) | (with_reducible refine Kd.C_drewN ?_ _) | (with_reducible refine Kd.C_drew ?_))); (case side2 => exact HC0.1); (case side3 => repeat (first | exact (Kd.C_below HR1.1 HB.1) | (with_reducible refine Kd.C_alloc ?_ _) | (with_reducible refine Kd.C_drewN ?_ _) | (with_reducible refine Kd.C_drew ?_))); (case side4 => exact HC1.1); rintro e w' ⟨rfl, ⟨nd, rfl⟩⟩))); refine Met.intro ?_; (go_step); refine meetU_ ?rel
       case rel => exact ⟨_, (!t433), (by first | rfl | (simp; done) | (simp [*]; done)), H', ⟨by have := HJ3.1; have := HJ6.1; have := HJ10.1; have := HJ16.1; first | omega | exact Nat.le_refl _⟩, ⟨bk_ BK16⟩, ⟨hb_ HB⟩⟩
      rw [if_neg c20] at H
      have c20b0 := beq_eq_false_iff_ne.mpr c20; have c20b1 := bne_iff_ne.mpr c20; ((first | rw [c20b0] | (simp only [i64_w, i32_w]; rw [c20b0]) | skip)); have H' := ak H; clear H; (go_wp2); refine Met.intro ?_; (go_step); refine meetU_ ?rel
      case rel => exact ⟨_, (false), (by first | rfl | (simp; done) | (simp [*]; done)), H', ⟨by have := HJ3.1; have := HJ6.1; have := HJ10.1; have := HJ16.1; first | omega | exact Nat.le_refl _⟩, ⟨bk_ BK16⟩, ⟨hb_ HB⟩⟩
     clear HC19; (try clear c1); (try clear c2); (try clear p2); (try clear c3); (try clear c6); (try clear c8); (try clear c9); (try clear c11); (try clear c12); (try clear c14); (try clear c20); (try clear c20b0); (try clear c20b1); (try clear p2); obtain ⟨kq, x33_18, rfl, HA, HJ18, BK16, HB⟩ := hcut
     cases kq with
     | zero => exact absurd HA.1 (by simp [lw_BookmatchCosts.j4])
     | succ kj18 =>
      have H := HA.1; clear HA; simp only [lw_BookmatchCosts.j4] at H; have HC22 := ak H; clear H; (go_upto_if 33 with (fail)); (refine cutU_ [none, none, none, none, none, none, none, some 7, some 8, some 9, some 10, some 11, some 12, some 13, some 14, some 15, some 16, some 17, some 18, some 19, some 20, some 21, some 22, some 23, some 24, some 25, some 26, some 27, some 28, some 29, some 30, some 31, some 32, some 33, some 34, some 35, some 36, some 37, some 38, some 39, some 40, some 41, some 42, some 43, some 44, some 45, some 46, some 47, some 48, some 49, some 50, some 51, some 52, some 53, some 54, some 55, some 56, some 57] (fun u_ wc_ => (fun v7 wc => ∃ (kq : Nat) (x7_21 : Int), v7 = .int .i64 x7_21 ∧ Aside0 (lw_BookmatchCosts.j5 kq l0 l1 x5_10 x6_10 x7_21 = some r) ∧ Aside0 (kq ≤ kj18) ∧ Aside0 (wc.heap[0]? = some (.cells #[.bool false, .bool true] tg0 (0, 0))) ∧ Aside0 (Below w.heap.size w wc)) (u_ 7) wc_) ?rest5 ?first5); (case' rest5 => (intro u_ wc hcut; dsimp only [fg_, List.toList_toArray] at hcut ⊢; generalize u_ 7 = u7 at hcut ⊢)); (case' first5 => (intro _ _ _ _))
      case first5 =>
       have H := HC22.1; clear HC22; (by_cases c23 : x33_18 = true)
       ·subst c23
        (replace H : (lw_BookmatchCosts.j5 kj18 l0 l1 x5_10 x6_10 1) = some r := by rw [if_pos rfl] at H; exact H); have H' := ak H; clear H; (go_wp2); refine Met.intro ?_; (go_step); refine meetU_ ?rel
        case rel => exact ⟨_, (1), (by first | rfl | (simp; done) | (simp [*]; done)), H', ⟨by have := HJ3.1; have := HJ6.1; have := HJ10.1; have := HJ16.1; have := HJ18.1; first | omega | exact Nat.le_refl _⟩, ⟨bk_ BK16⟩, ⟨hb_ HB⟩⟩
       replace c23 := Bool.eq_false_iff.mpr c23
       subst c23; (replace H : (lw_BookmatchCosts.j5 kj18 l0 l1 x5_10 x6_10 x7_16) = some r := by rw [if_neg (show ¬ (false = true) by decide)] at H; exact H); have H' := ak H; clear H; (go_wp2); refine Met.intro ?_; (go_step); refine meetU_ ?rel
       case rel => exact ⟨_, (x7_16), (by first | rfl | (simp; done) | (simp [*]; done)), H', ⟨by have := HJ3.1; have := HJ6.1; have := HJ10.1; have := HJ16.1; have := HJ18.1; first | omega | exact Nat.le_refl _⟩, ⟨bk_ BK16⟩, ⟨hb_ HB⟩⟩
      clear HC22; (try clear c1); (try clear c2); (try clear p2); (try clear c3); (try clear c6); (try clear c8); (try clear c9); (try clear c11); (try clear c12); (try clear c14); (try clear c20); (try clear c20b0); (try clear c20b1); (try clear c23); (try clear p2); obtain ⟨kq, x7_21, rfl, HA, HJ21, BK16, HB⟩ := hcut
      cases kq with
      | zero => exact absurd HA.1 (by simp [lw_BookmatchCosts.j5])
      | succ kj21 =>
       have H := HA.1; clear HA; simp only [lw_BookmatchCosts.j5] at H; have HC24 := ak H; clear H; (go_upto_if 35 with (fail)); (refine cutU_ [none, none, none, none, some 4, none, none, none, some 8, some 9, some 10, some 11, some 12, some 13, some 14, some 15, some 16, some 17, some 18, some 19, some 20, some 21, some 22, some 23, some 24, some 25, some 26, some 27, some 28, some 29, some 30, some 31, some 32, some 33, some 34, some 35, some 36, some 37, some 38, some 39, some 40, some 41, some 42, some 43, some 44, some 45, some 46, some 47, some 48, some 49, some 50, some 51, some 52, some 53, some 54, some 55, some 56, some 57] (fun u_ wc_ => (fun wc => ∃ (kq : Nat), Aside0 (lw_BookmatchCosts.j7 kq l0 l1 x5_10 x6_10 = some r) ∧ Aside0 (kq ≤ kj21) ∧ Aside0 (wc.heap[0]? = some (.cells #[.bool false, .bool true] tg0 (0, 0))) ∧ Aside0 (Below w.heap.size w wc))  wc_) ?rest6 ?first6); (case' rest6 => (intro u_ wc hcut; dsimp only [fg_, List.toList_toArray] at hcut ⊢)); (case' first6 => (intro _ _ _ _))
       case first6 =>
        have H := HC24.1; clear HC24; (by_cases c25 : x7_21 = 0)
        ·rw [if_pos c25] at H
         have c25b0 := beq_iff_eq.mpr c25; have c25b1 := bne_eq_false_iff_eq.mpr c25; clear c25; ((first | rw [c25b0] | (simp only [i64_w, i32_w]; rw [c25b0]) | skip)); have H' := ak H; clear H; (go_wp2); refine Met.intro ?_; (go_step); refine meetU_ ?rel
         case rel => exact ⟨_, H', ⟨by have := HJ3.1; have := HJ6.1; have := HJ10.1; have := HJ16.1; have := HJ18.1; have := HJ21.1; first | omega | exact Nat.le_refl _⟩, ⟨bk_ BK16⟩, ⟨hb_ HB⟩⟩
        rw [if_neg c25] at H
        have c25b0 := beq_eq_false_iff_ne.mpr c25; have c25b1 := bne_iff_ne.mpr c25; ((first | rw [c25b0] | (simp only [i64_w, i32_w]; rw [c25b0]) | skip)); have HC26 := ak H; clear H; (go_upto_region 8 with (fail)); (refine cutU_ [none, none, none, none, some 4, none, none, none, some 8, some 9, some 10, some 11, some 12, some 13, some 14, some 15, some 16, some 17, some 18, some 19, some 20, some 21, some 22, some 23, some 24, some 25, some 26, some 27, some 28, some 29, some 30, some 31, some 32, some 33, some 34, some 35, some 36, some 37, some 38, some 39, some 40, some 41, some 42, some 43, some 44, some 45, some 46, some 47, some 48, some 49, some 50, some 51, some 52, some 53, some 54, some 55, some 56, some 57] (fun u_ wc_ => (fun v4 wc => ∃ (kq : Nat) (x4_25 : Bool), v4 = .bool x4_25 ∧ Aside0 (lw_BookmatchCosts.j6 kq x4_25 = some r) ∧ Aside0 (kq ≤ kj21) ∧ Aside0 (wc.heap[0]? = some (.cells #[.bool false, .bool true] tg0 (0, 0))) ∧ Aside0 (Below w.heap.size w wc)) (u_ 4) wc_) ?rest7 ?first7); (case' rest7 => (intro u_ wc hcut; dsimp only [fg_, List.toList_toArray] at hcut ⊢; generalize u_ 4 = u4 at hcut ⊢)); (case' first7 => (intro _ _ _ _))
        case first7 =>
         have H := HC26.1; clear HC26; obtain ⟨t434, A270, H⟩ := obs_ H; (replace H : (if t434 = true then (if x6_10 = x7_21 then (lw_BookmatchCosts.j6 kj21 (x5_10 == 0)) else (lw_BookmatchCosts.j6 kj21 false)) else (lw_BookmatchCosts.j6 kj21 false)) = some r := H); have A27 := ak A270; clear A270; (by_cases c28 : t434 = true)
         ·subst c28
          (replace H : (if x6_10 = x7_21 then (lw_BookmatchCosts.j6 kj21 (x5_10 == 0)) else (lw_BookmatchCosts.j6 kj21 false)) = some r := by rw [if_pos rfl] at H; exact H); (by_cases c29 : x6_10 = x7_21)
          ·rw [if_pos c29] at H
           have c29b0 := beq_iff_eq.mpr c29; have c29b1 := bne_eq_false_iff_eq.mpr c29; clear c29; ((first | rw [c29b0] | (simp only [i64_w, i32_w]; rw [c29b0]) | skip)); have H' := ak H; clear H; (go_wp2_with (first | ((with_reducible refine gate_callee (f := 12) rfl ?_); refine goesL_ (some 36) rfl rfl Tryd.func12 (by kernel_rfl) rfl #[] rfl (by (try simp only [List.map_toArray, List.map_cons, List.map_nil]); first | done | rfl | (simp only [List.length_drop, List.length_take]; rfl)) ?_; (with_reducible refine (lw_awake.calls kj21 tg0 true _ ?side1 A27.1).mono ?_); (case side1 => exact (bk_ BK16)); rintro e w30 ⟨rfl, hb⟩; refine ⟨_, rfl, ?_⟩; replace BK16 := bg0 (t := tg0) (bk_ BK16) hb; replace HB := hs_ HB hb; (try clear hb); (try clear hb2); (try clear hk); (try clear hi)))); refine Met.intro ?_; (go_step); refine meetU_ ?rel
           case rel => exact ⟨_, ((x5_10 == 0)), (by first | rfl | (simp; done) | (simp [*]; done)), H', ⟨by have := HJ3.1; have := HJ6.1; have := HJ10.1; have := HJ16.1; have := HJ18.1; have := HJ21.1; first | omega | exact Nat.le_refl _⟩, ⟨bk_ BK16⟩, ⟨hb_ HB⟩⟩
          rw [if_neg c29] at H
          have c29b0 := beq_eq_false_iff_ne.mpr c29; have c29b1 := bne_iff_ne.mpr c29; ((first | rw [c29b0] | (simp only [i64_w, i32_w]; rw [c29b0]) | skip)); have H' := ak H; clear H; (go_wp2_with (first | ((with_reducible refine gate_callee (f := 12) rfl ?_); refine goesL_ (some 36) rfl rfl Tryd.func12 (by kernel_rfl) rfl #[] rfl (by (try simp only [List.map_toArray, List.map_cons, List.map_nil]); first | done | rfl | (simp only [List.length_drop, List.length_take]; rfl)) ?_; (with_reducible refine (lw_awake.calls kj21 tg0 true _ ?side1 A27.1).mono ?_); (case side1 => exact (bk_ BK16)); rintro e w31 ⟨rfl, hb⟩; refine ⟨_, rfl, ?_⟩; replace BK16 := bg0 (t := tg0) (bk_ BK16) hb; replace HB := hs_ HB hb; (try clear hb); (try clear hb2); (try clear hk); (try clear hi)))); refine Met.intro ?_; (go_step); refine meetU_ ?rel
          case rel => exact ⟨_, (false), (by first | rfl | (simp; done) | (simp [*]; done)), H', ⟨by have := HJ3.1; have := HJ6.1; have := HJ10.1; have := HJ16.1; have := HJ18.1; have := HJ21.1; first | omega | exact Nat.le_refl _⟩, ⟨bk_ BK16⟩, ⟨hb_ HB⟩⟩
         replace c28 := Bool.eq_false_iff.mpr c28
         subst c28; (replace H : (lw_BookmatchCosts.j6 kj21 false) = some r := by rw [if_neg (show ¬ (false = true) by decide)] at H; exact H); have H' := ak H; clear H; (go_wp2_with (first | ((with_reducible refine gate_callee (f := 12) rfl ?_); refine goesL_ (some 36) rfl rfl Tryd.func12 (by kernel_rfl) rfl #[] rfl (by (try simp only [List.map_toArray, List.map_cons, List.map_nil]); first | done | rfl | (simp only [List.length_drop, List.length_take]; rfl)) ?_; (with_reducible refine (lw_awake.calls kj21 tg0 false _ ?side1 A27.1).mono ?_); (case side1 => exact (bk_ BK16)); rintro e w32 ⟨rfl, hb⟩; refine ⟨_, rfl, ?_⟩; replace BK16 := bg0 (t := tg0) (bk_ BK16) hb; replace HB := hs_ HB hb; (try clear hb); (try clear hb2); (try clear hk); (try clear hi)))); refine Met.intro ?_; (go_step); refine meetU_ ?rel
         case rel => exact ⟨_, (false), (by first | rfl | (simp; done) | (simp [*]; done)), H', ⟨by have := HJ3.1; have := HJ6.1; have := HJ10.1; have := HJ16.1; have := HJ18.1; have := HJ21.1; first | omega | exact Nat.le_refl _⟩, ⟨bk_ BK16⟩, ⟨hb_ HB⟩⟩
        clear HC26; (try clear c1); (try clear c2); (try clear p2); (try clear c3); (try clear c6); (try clear c8); (try clear c9); (try clear c11); (try clear c12); (try clear c14); (try clear c20); (try clear c20b0); (try clear c20b1); (try clear c23); (try clear c25); (try clear c25b0); (try clear c25b1); (try clear c28); (try clear c29); (try clear c29b0); (try clear c29b1); (try clear c31); (try clear p2); obtain ⟨kq, x4_25, rfl, HA, HJ25, BK16, HB⟩ := hcut
        cases kq with
        | zero => exact absurd HA.1 (by simp [lw_BookmatchCosts.j6])
        | succ kj25 =>
         have H := HA.1; clear HA; simp only [lw_BookmatchCosts.j6] at H; obtain rfl := Option.some.inj H; (go_wp2); (go_ret); (exact ⟨by first | rfl | (simp [errW_none, errW_some] <;> rfl) | (simp [*, errW_none, errW_some] <;> rfl), hb_ HB⟩)
       clear HC24; (try clear c1); (try clear c2); (try clear p2); (try clear c3); (try clear c6); (try clear c8); (try clear c9); (try clear c11); (try clear c12); (try clear c14); (try clear c20); (try clear c20b0); (try clear c20b1); (try clear c23); (try clear c25); (try clear c25b0); (try clear c25b1); (try clear c28); (try clear c29); (try clear c29b0); (try clear c29b1); (try clear c31); (try clear p2); obtain ⟨kq, HA, HJ23, BK16, HB⟩ := hcut
       cases kq with
       | zero => exact absurd HA.1 (by simp [lw_BookmatchCosts.j7])
       | succ kj23 =>
        have H := HA.1; clear HA; simp only [lw_BookmatchCosts.j7] at H; have HC33 := ak H; clear H; (go_upto_region 9 with (fail)); (refine cutU_ [none, none, none, none, some 4, none, none, none, some 8, some 9, some 10, some 11, some 12, some 13, some 14, some 15, some 16, some 17, some 18, some 19, some 20, some 21, some 22, some 23, some 24, some 25, some 26, some 27, some 28, some 29, some 30, some 31, some 32, some 33, some 34, some 35, some 36, some 37, some 38, some 39, some 40, some 41, some 42, some 43, some 44, some 45, some 46, some 47, some 48, some 49, some 50, some 51, some 52, some 53, some 54, some 55, some 56, some 57] (fun u_ wc_ => (fun v4 wc => ∃ (kq : Nat) (x4_32 : Bool), v4 = .bool x4_32 ∧ Aside0 (lw_BookmatchCosts.j8 kq x4_32 = some r) ∧ Aside0 (kq ≤ kj23) ∧ Aside0 (wc.heap[0]? = some (.cells #[.bool false, .bool true] tg0 (0, 0))) ∧ Aside0 (Below w.heap.size w wc)) (u_ 4) wc_) ?rest8 ?first8); (case' rest8 => (intro u_ wc hcut; dsimp only [fg_, List.toList_toArray] at hcut ⊢; generalize u_ 4 = u4 at hcut ⊢)); (case' first8 => (intro _ _ _ _))
        case first8 =>
         have H := HC33.1; clear HC33; obtain ⟨t435, A340, H⟩ := obs_ H; (replace H : (if t435 = true then (if x6_10 = 0 then ((rf_Cost.f kj23 l0 l1).bind fun t436 => (lw_BookmatchCosts.j8 kj23 (x5_10 == t436))) else (lw_BookmatchCosts.j8 kj23 false)) else (lw_BookmatchCosts.j8 kj23 false)) = some r := H); have A34 := ak A340; clear A340; (by_cases c35 : t435 = true)
         ·subst c35
          (replace H : (if x6_10 = 0 then ((rf_Cost.f kj23 l0 l1).bind fun t436 => (lw_BookmatchCosts.j8 kj23 (x5_10 == t436))) else (lw_BookmatchCosts.j8 kj23 false)) = some r := by rw [if_pos rfl] at H; exact H); (by_cases c36 : x6_10 = 0)
          ·rw [if_pos c36] at H
           have c36b0 := beq_iff_eq.mpr c36; have c36b1 := bne_eq_false_iff_eq.mpr c36; clear c36; ((first | rw [c36b0] | (simp only [i64_w, i32_w]; rw [c36b0]) | skip)); obtain ⟨t436, A370, H⟩ := obs_ H; replace H : (lw_BookmatchCosts.j8 kj23 (x5_10 == t436)) = some r := H; have A37 := ak A370; clear A370; have H' := ak H; clear H; (go_wp2_with (first | ((with_reducible refine gate_callee (f := 12) rfl ?_); refine goesL_ (some 46) rfl rfl Tryd.func12 (by kernel_rfl) rfl #[] rfl (by (try simp only [List.map_toArray, List.map_cons, List.map_nil]); first | done | rfl | (simp only [List.length_drop, List.length_take]; rfl)) ?_; (with_reducible refine (lw_awake.calls kj23 tg0 true _ ?side1 A34.1).mono ?_); (case side1 => exact (bk_ BK16)); rintro e w38 ⟨rfl, hb⟩; refine ⟨_, rfl, ?_⟩; replace BK16 := bg0 (t := tg0) (bk_ BK16) hb; replace HB := hs_ HB hb; (try clear hb); (try clear hb2); (try clear hk); (try clear hi)) | (go_at_call 18; (with_reducible refine (rf_Cost.calls kj23 _ _ l0 _ _ l1 t436 _ ?side1 ?side2 ?side3 ?side4 A37.1).mono ?_); (case side1 => repeat (first | exact (Kd.C_below HR0.1 HB.1) | (with_reducible refine Kd.C_alloc ?_ _) | (with_reducible refine Kd.C_drewN ?_ _) | (with_reducible refine Kd.C_drew ?_))); (case side2 => exact HC0.1); (case side3 => repeat (first | exact (Kd.C_below HR1.1 HB.1) | (with_reducible refine Kd.C_alloc ?_ _) | (with_reducible refine Kd.C_drewN ?_ _) | (with_reducible refine Kd.C_drew ?_))); (case side4 => exact HC1.1); rintro e w39 ⟨rfl, hb⟩; replace BK16 := bg0 (t := tg0) (bk_ BK16) hb; replace HB := hs_ HB hb; (try clear hb); (try clear hb2); (try clear hk); (try clear hi)))); refine Met.intro ?_; (go_step); refine meetU_ ?rel
           case rel => exact ⟨_, ((x5_10 == t436)), (by first | rfl | (simp; done) | (simp [*]; done)), H', ⟨by have := HJ3.1; have := HJ6.1; have := HJ10.1; have := HJ16.1; have := HJ18.1; have := HJ21.1; have := HJ23.1; first | omega | exact Nat.le_refl _⟩, ⟨bk_ BK16⟩, ⟨hb_ HB⟩⟩
          rw [if_neg c36] at H
          have c36b0 := beq_eq_false_iff_ne.mpr c36; have c36b1 := bne_iff_ne.mpr c36; ((first | rw [c36b0] | (simp only [i64_w, i32_w]; rw [c36b0]) | skip)); have H' := ak H; clear H; (go_wp2_with (first | ((with_reducible refine gate_callee (f := 12) rfl ?_); refine goesL_ (some 46) rfl rfl Tryd.func12 (by kernel_rfl) rfl #[] rfl (by (try simp only [List.map_toArray, List.map_cons, List.map_nil]); first | done | rfl | (simp only [List.length_drop, List.length_take]; rfl)) ?_; (with_reducible refine (lw_awake.calls kj23 tg0 true _ ?side1 A34.1).mono ?_); (case side1 => exact (bk_ BK16)); rintro e w40 ⟨rfl, hb⟩; refine ⟨_, rfl, ?_⟩; replace BK16 := bg0 (t := tg0) (bk_ BK16) hb; replace HB := hs_ HB hb; (try clear hb); (try clear hb2); (try clear hk); (try clear hi)))); refine Met.intro ?_; (go_step); refine meetU_ ?rel
          case rel => exact ⟨_, (false), (by first | rfl | (simp; done) | (simp [*]; done)), H', ⟨by have := HJ3.1; have := HJ6.1; have := HJ10.1; have := HJ16.1; have := HJ18.1; have := HJ21.1; have := HJ23.1; first | omega | exact Nat.le_refl _⟩, ⟨bk_ BK16⟩, ⟨hb_ HB⟩⟩
         replace c35 := Bool.eq_false_iff.mpr c35
         subst c35; (replace H : (lw_BookmatchCosts.j8 kj23 false) = some r := by rw [if_neg (show ¬ (false = true) by decide)] at H; exact H); have H' := ak H; clear H; (go_wp2_with (first | ((with_reducible refine gate_callee (f := 12) rfl ?_); refine goesL_ (some 46) rfl rfl Tryd.func12 (by kernel_rfl) rfl #[] rfl (by (try simp only [List.map_toArray, List.map_cons, List.map_nil]); first | done | rfl | (simp only [List.length_drop, List.length_take]; rfl)) ?_; (with_reducible refine (lw_awake.calls kj23 tg0 false _ ?side1 A34.1).mono ?_); (case side1 => exact (bk_ BK16)); rintro e w41 ⟨rfl, hb⟩; refine ⟨_, rfl, ?_⟩; replace BK16 := bg0 (t := tg0) (bk_ BK16) hb; replace HB := hs_ HB hb; (try clear hb); (try clear hb2); (try clear hk); (try clear hi)))); refine Met.intro ?_; (go_step); refine meetU_ ?rel
         case rel => exact ⟨_, (false), (by first | rfl | (simp; done) | (simp [*]; done)), H', ⟨by have := HJ3.1; have := HJ6.1; have := HJ10.1; have := HJ16.1; have := HJ18.1; have := HJ21.1; have := HJ23.1; first | omega | exact Nat.le_refl _⟩, ⟨bk_ BK16⟩, ⟨hb_ HB⟩⟩
        clear HC33; (try clear c1); (try clear c2); (try clear p2); (try clear c3); (try clear c6); (try clear c8); (try clear c9); (try clear c11); (try clear c12); (try clear c14); (try clear c20); (try clear c20b0); (try clear c20b1); (try clear c23); (try clear c25); (try clear c25b0); (try clear c25b1); (try clear c28); (try clear c29); (try clear c29b0); (try clear c29b1); (try clear c31); (try clear c35); (try clear c36); (try clear c36b0); (try clear c36b1); (try clear p2); obtain ⟨kq, x4_32, rfl, HA, HJ32, BK16, HB⟩ := hcut
        cases kq with
        | zero => exact absurd HA.1 (by simp [lw_BookmatchCosts.j8])
        | succ kj32 =>
         have H := HA.1; clear HA; simp only [lw_BookmatchCosts.j8] at H; obtain rfl := Option.some.inj H; (go_wp2); (go_ret); (exact ⟨by first | rfl | (simp [errW_none, errW_some] <;> rfl) | (simp [*, errW_none, errW_some] <;> rfl), hb_ HB⟩)

/-- THE ONE PURE STATEMENT of lw_BookmatchCosts. -/
def lw_BookmatchCosts.Pure : Prop := ∀ (l0 : List (S62)) (l1 : List (S68)), (gSl g62) l0 → (gSl g68) l1 → ∃ k, lw_BookmatchCosts.f k l0 l1 = some true
theorem lw_BookmatchCosts.walk (P : lw_BookmatchCosts.Pure) (A0 : Option Addr) (c0 : Nat) (l0 : List (S62)) (A1 : Option Addr) (c1 : Nat) (l1 : List (S68)) (tg0 : TypeId) (w : World) (w0 : (gSl g62) l0) (w1 : (gSl g68) l1) (hr0 : Kd.C k62 w A0 l0.length l0) (hc0 : l0.length ≤ c0) (hr1 : Kd.C k68 w A1 l1.length l1) (hc1 : l1.length ≤ c1) (hb16 : w.heap[0]? = some (.cells #[.bool false, .bool true] tg0 (0, 0))) :
  Calls Tryd.prog 9 #[.slice A0 l0.length c0, .slice A1 l1.length c1] w fun e w' => e = .returned (.bool true) ∧ Below w.heap.size w w' := by
 obtain ⟨k, h⟩ := P l0 l1 w0 w1
 refine (lw_BookmatchCosts.calls k _ _ l0 _ _ l1 tg0 true w hr0 hc0 hr1 hc1 hb16 h).mono ?_
 rintro e w' ⟨rfl, hd⟩
 exact ⟨rfl, hd⟩

end Go.Proofs.YtglkcinmohjblaaDoor.XA
