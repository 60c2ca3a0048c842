import Derived.Test.YtglkcinmohjblaaDoorXAx3
import Derived.Test.YtglkcinmohjblaaDoorXAx4
import Derived.Test.YtglkcinmohjblaaDoorXAx32
import Derived.Test.YtglkcinmohjblaaDoorXAx46
import Derived.Test.YtglkcinmohjblaaDoorXAx47
namespace Go.Proofs.YtglkcinmohjblaaDoor.XA
open Flat Go.RowKit Opens YtglkcinmohjblaaDoorW.PrintWords YtglkcinmohjblaaDoorW.PrintLast YtglkcinmohjblaaDoorW.PrintMore
attribute [local go_sem] max2_int min2_int max_two min_two max_three min_three max_four min_four cell_some cell_same
set_option linter.unusedVariables false
set_option linter.unusedSimpArgs false

mutual
def lw_BookmatchProofs.j0 : Nat → List (S62) → Int → List (S51) → Bool → Option (Bool)
 | 0, _, _, _, _ => none
 | k + 1, x0, x1, x2, x19 => if x19 = true then ((lw_awake.f k).bind fun t523 => (some t523)) else (lw_BookmatchProofs.j1 k x0 x1 x2)
def lw_BookmatchProofs.j1 : Nat → List (S62) → Int → List (S51) → Option (Bool)
 | 0, _, _, _ => none
 | k + 1, x0, x1, x2 => (m_Proof.f k x0).bind fun bt524 => (lw_BookmatchProofs.j2 k x0 x1 x2 bt524.1 bt524.2)
def lw_BookmatchProofs.j2 : Nat → List (S62) → Int → List (S51) → List (S51) → Int → Option (Bool)
 | 0, _, _, _, _, _ => none
 | k + 1, x0, x1, x2, x7, x8 => (m_Proves.f k x0 x1 x2).bind fun t528 => ((rf_Proves.f k x0 x1 x2).bind fun t529 => (lw_BookmatchProofs.j3 k x0 x7 x8 (t528 != t529)))
def lw_BookmatchProofs.j3 : Nat → List (S62) → List (S51) → Int → Bool → Option (Bool)
 | 0, _, _, _, _ => none
 | k + 1, x0, x7, x8, x34 => if x34 = true then (some false) else (lw_BookmatchProofs.j4 k x0 x7 x8)
def lw_BookmatchProofs.j4 : Nat → List (S62) → List (S51) → Int → Option (Bool)
 | 0, _, _, _ => none
 | k + 1, x0, x7, x8 => (rf_Check.f k x0).bind fun t530 => (lw_BookmatchProofs.j5 k x0 x7 x8 t530)
def lw_BookmatchProofs.j5 : Nat → List (S62) → List (S51) → Int → Int → Option (Bool)
 | 0, _, _, _, _ => none
 | k + 1, x0, x7, x8, x9 => if x9 = 0 then (lw_BookmatchProofs.j7 k x0 x7 x8) else ((lw_awake.f k).bind fun t531 => (if t531 = true then (if x8 = x9 then (lw_BookmatchProofs.j6 k ((x7.length : Int) == 0)) else (lw_BookmatchProofs.j6 k false)) else (lw_BookmatchProofs.j6 k false)))
def lw_BookmatchProofs.j7 : Nat → List (S62) → List (S51) → Int → Option (Bool)
 | 0, _, _, _ => none
 | k + 1, x0, x7, x8 => (rf_Proof.f k x0).bind fun t532 => (lw_BookmatchProofs.j8 k x7 x8 t532)
def lw_BookmatchProofs.j8 : Nat → List (S51) → Int → List (S51) → Option (Bool)
 | 0, _, _, _ => none
 | k + 1, x7, x8, x10 => if x8 = 0 then (lw_BookmatchProofs.j9 k x7 x10 ((x7.length : Int) != (x10.length : Int))) else (lw_BookmatchProofs.j9 k x7 x10 true)
def lw_BookmatchProofs.j9 : Nat → List (S51) → List (S51) → Bool → Option (Bool)
 | 0, _, _, _ => none
 | k + 1, x7, x10, x60 => if x60 = true then (some false) else (lw_BookmatchProofs.j10 k x7 x10)
def lw_BookmatchProofs.j10 : Nat → List (S51) → List (S51) → Option (Bool)
 | 0, _, _ => none
 | k + 1, x7, x10 => lw_BookmatchProofs.l0 k x7 x10 0
def lw_BookmatchProofs.l0 : Nat → List (S51) → List (S51) → Int → Option (Bool)
 | 0, _, _, _ => none
 | k + 1, x7, x10, x11 => if x11 < (x7.length : Int) then (lw_BookmatchProofs.j12 k x7 x10 x11) else ((lw_awake.f k).bind fun t539 => (some t539))
def lw_BookmatchProofs.j12 : Nat → List (S51) → List (S51) → Int → Option (Bool)
 | 0, _, _, _ => none
 | k + 1, x7, x10, x11 => if 0 ≤ x11 then (if x11 < (x7.length : Int) then (if x11 < (x10.length : Int) then (if ((rd_T51 x7 x11).f0) = ((rd_T51 x10 x11).f0) then (lw_BookmatchProofs.j13 k x7 x10 x11 (((rd_T51 x7 x11).f1) != ((rd_T51 x10 x11).f1))) else (lw_BookmatchProofs.j13 k x7 x10 x11 true)) else (none)) else (none)) else (none)
def lw_BookmatchProofs.j13 : Nat → List (S51) → List (S51) → Int → Bool → Option (Bool)
 | 0, _, _, _, _ => none
 | k + 1, x7, x10, x11, x90 => if x90 = true then (some false) else (lw_BookmatchProofs.l0 k x7 x10 (wrap64 (x11 + 1)))
def lw_BookmatchProofs.j6 : Nat → Bool → Option (Bool)
 | 0, _ => none
 | k + 1, x6 => some x6
end
def lw_BookmatchProofs.f (k : Nat) (l0 : List (S62)) (a1 : Int) (l2 : List (S51))  : Option (Bool) := (rf_Few.f k l0 20).bind fun t522 => (if t522 = true then (lw_BookmatchProofs.j0 k l0 a1 l2 (decide ((l2.length : Int) > 70))) else (lw_BookmatchProofs.j0 k l0 a1 l2 true))
theorem lw_BookmatchProofs.mono_l : ∀ k, (∀ y0 y1 y2 y3, LeO (lw_BookmatchProofs.j0 k y0 y1 y2 y3) (lw_BookmatchProofs.j0 (k + 1) y0 y1 y2 y3)) ∧ (∀ y0 y1 y2, LeO (lw_BookmatchProofs.j1 k y0 y1 y2) (lw_BookmatchProofs.j1 (k + 1) y0 y1 y2)) ∧ (∀ y0 y1 y2 y3 y4, LeO (lw_BookmatchProofs.j2 k y0 y1 y2 y3 y4) (lw_BookmatchProofs.j2 (k + 1) y0 y1 y2 y3 y4)) ∧ (∀ y0 y1 y2 y3, LeO (lw_BookmatchProofs.j3 k y0 y1 y2 y3) (lw_BookmatchProofs.j3 (k + 1) y0 y1 y2 y3)) ∧ (∀ y0 y1 y2, LeO (lw_BookmatchProofs.j4 k y0 y1 y2) (lw_BookmatchProofs.j4 (k + 1) y0 y1 y2)) ∧ (∀ y0 y1 y2 y3, LeO (lw_BookmatchProofs.j5 k y0 y1 y2 y3) (lw_BookmatchProofs.j5 (k + 1) y0 y1 y2 y3)) ∧ (∀ y0 y1 y2, LeO (lw_BookmatchProofs.j7 k y0 y1 y2) (lw_BookmatchProofs.j7 (k + 1) y0 y1 y2)) ∧ (∀ y0 y1 y2, LeO (lw_BookmatchProofs.j8 k y0 y1 y2) (lw_BookmatchProofs.j8 (k + 1) y0 y1 y2)) ∧ (∀ y0 y1 y2, LeO (lw_BookmatchProofs.j9 k y0 y1 y2) (lw_BookmatchProofs.j9 (k + 1) y0 y1 y2)) ∧ (∀ y0 y1, LeO (lw_BookmatchProofs.j10 k y0 y1) (lw_BookmatchProofs.j10 (k + 1) y0 y1)) ∧ (∀ y0 y1 y2, LeO (lw_BookmatchProofs.l0 k y0 y1 y2) (lw_BookmatchProofs.l0 (k + 1) y0 y1 y2)) ∧ (∀ y0 y1 y2, LeO (lw_BookmatchProofs.j12 k y0 y1 y2) (lw_BookmatchProofs.j12 (k + 1) y0 y1 y2)) ∧ (∀ y0 y1 y2 y3, LeO (lw_BookmatchProofs.j13 k y0 y1 y2 y3) (lw_BookmatchProofs.j13 (k + 1) y0 y1 y2 y3)) ∧ (∀ y0, LeO (lw_BookmatchProofs.j6 k y0) (lw_BookmatchProofs.j6 (k + 1) y0))
 | 0 => ⟨fun _ _ _ _ r h => by simp [lw_BookmatchProofs.j0] at h, fun _ _ _ r h => by simp [lw_BookmatchProofs.j1] at h, fun _ _ _ _ _ r h => by simp [lw_BookmatchProofs.j2] at h, fun _ _ _ _ r h => by simp [lw_BookmatchProofs.j3] at h, fun _ _ _ r h => by simp [lw_BookmatchProofs.j4] at h, fun _ _ _ _ r h => by simp [lw_BookmatchProofs.j5] at h, fun _ _ _ r h => by simp [lw_BookmatchProofs.j7] at h, fun _ _ _ r h => by simp [lw_BookmatchProofs.j8] at h, fun _ _ _ r h => by simp [lw_BookmatchProofs.j9] at h, fun _ _ r h => by simp [lw_BookmatchProofs.j10] at h, fun _ _ _ r h => by simp [lw_BookmatchProofs.l0] at h, fun _ _ _ r h => by simp [lw_BookmatchProofs.j12] at h, fun _ _ _ _ r h => by simp [lw_BookmatchProofs.j13] at h, fun _ r h => by simp [lw_BookmatchProofs.j6] at h⟩
 | k + 1 => by
  obtain ⟨ih0, ih1, ih2, ih3, ih4, ih5, ih6, ih7, ih8, ih9, ih10, ih11, ih12, ih13⟩ := lw_BookmatchProofs.mono_l k; refine ⟨?_, ?_, ?_, ?_, ?_, ?_, ?_, ?_, ?_, ?_, ?_, ?_, ?_, ?_⟩; (all_goals (intros; (first | unfold lw_BookmatchProofs.j0 | unfold lw_BookmatchProofs.j1 | unfold lw_BookmatchProofs.j2 | unfold lw_BookmatchProofs.j3 | unfold lw_BookmatchProofs.j4 | unfold lw_BookmatchProofs.j5 | unfold lw_BookmatchProofs.j7 | unfold lw_BookmatchProofs.j8 | unfold lw_BookmatchProofs.j9 | unfold lw_BookmatchProofs.j10 | unfold lw_BookmatchProofs.l0 | unfold lw_BookmatchProofs.j12 | unfold lw_BookmatchProofs.j13 | unfold lw_BookmatchProofs.j6)))
  all_goals (repeat' first
   | (with_reducible exact ih0 _ _ _ _)
   | (with_reducible exact ih1 _ _ _)
   | (with_reducible exact ih2 _ _ _ _ _)
   | (with_reducible exact ih3 _ _ _ _)
   | (with_reducible exact ih4 _ _ _)
   | (with_reducible exact ih5 _ _ _ _)
   | (with_reducible exact ih6 _ _ _)
   | (with_reducible exact ih7 _ _ _)
   | (with_reducible exact ih8 _ _ _)
   | (with_reducible exact ih9 _ _)
   | (with_reducible exact ih10 _ _ _)
   | (with_reducible exact ih11 _ _ _)
   | (with_reducible exact ih12 _ _ _ _)
   | (with_reducible exact ih13 _)
   | (with_reducible exact m_Proof.mono _ _)
   | (with_reducible exact m_Proves.mono _ _ _ _)
   | (with_reducible exact lw_awake.mono _)
   | (with_reducible exact rf_Check.mono _ _)
   | (with_reducible exact rf_Few.mono _ _ _)
   | (with_reducible exact rf_Proof.mono _ _)
   | (with_reducible exact rf_Proves.mono _ _ _ _)
   | (with_reducible exact LeO.refl _)
   | (with_reducible exact LeO.none _)
   | (with_reducible refine LeO.ite ?_ ?_)
   | (with_reducible refine LeO.bind ?_ (fun _ => ?_))
   | exact ih0 _ _ _ _
   | exact ih1 _ _ _
   | exact ih2 _ _ _ _ _
   | exact ih3 _ _ _ _
   | exact ih4 _ _ _
   | exact ih5 _ _ _ _
   | exact ih6 _ _ _
   | exact ih7 _ _ _
   | exact ih8 _ _ _
   | exact ih9 _ _
   | exact ih10 _ _ _
   | exact ih11 _ _ _
   | exact ih12 _ _ _ _
   | exact ih13 _
   | exact m_Proof.mono _ _
   | exact m_Proves.mono _ _ _ _
   | exact lw_awake.mono _
   | exact rf_Check.mono _ _
   | exact rf_Few.mono _ _ _
   | exact rf_Proof.mono _ _
   | exact rf_Proves.mono _ _ _ _
   | exact LeO.none _
   | refine LeO.ite ?_ ?_
   | refine LeO.bind ?_ (fun _ => ?_))
theorem lw_BookmatchProofs.mono : ∀ a0 a1 a2 k, LeO (lw_BookmatchProofs.f k a0 a1 a2) (lw_BookmatchProofs.f (k + 1) a0 a1 a2) := by
 intro a0 a1 a2 k
 obtain ⟨ih0, ih1, ih2, ih3, ih4, ih5, ih6, ih7, ih8, ih9, ih10, ih11, ih12, ih13⟩ := lw_BookmatchProofs.mono_l k
 unfold lw_BookmatchProofs.f
 repeat' first
   | (with_reducible exact ih0 _ _ _ _)
   | (with_reducible exact ih1 _ _ _)
   | (with_reducible exact ih2 _ _ _ _ _)
   | (with_reducible exact ih3 _ _ _ _)
   | (with_reducible exact ih4 _ _ _)
   | (with_reducible exact ih5 _ _ _ _)
   | (with_reducible exact ih6 _ _ _)
   | (with_reducible exact ih7 _ _ _)
   | (with_reducible exact ih8 _ _ _)
   | (with_reducible exact ih9 _ _)
   | (with_reducible exact ih10 _ _ _)
   | (with_reducible exact ih11 _ _ _)
   | (with_reducible exact ih12 _ _ _ _)
   | (with_reducible exact ih13 _)
   | (with_reducible exact m_Proof.mono _ _)
   | (with_reducible exact m_Proves.mono _ _ _ _)
   | (with_reducible exact lw_awake.mono _)
   | (with_reducible exact rf_Check.mono _ _)
   | (with_reducible exact rf_Few.mono _ _ _)
   | (with_reducible exact rf_Proof.mono _ _)
   | (with_reducible exact rf_Proves.mono _ _ _ _)
   | (with_reducible exact LeO.refl _)
   | (with_reducible exact LeO.none _)
   | (with_reducible refine LeO.ite ?_ ?_)
   | (with_reducible refine LeO.bind ?_ (fun _ => ?_))
   | exact ih0 _ _ _ _
   | exact ih1 _ _ _
   | exact ih2 _ _ _ _ _
   | exact ih3 _ _ _ _
   | exact ih4 _ _ _
   | exact ih5 _ _ _ _
   | exact ih6 _ _ _
   | exact ih7 _ _ _
   | exact ih8 _ _ _
   | exact ih9 _ _
   | exact ih10 _ _ _
   | exact ih11 _ _ _
   | exact ih12 _ _ _ _
   | exact ih13 _
   | exact m_Proof.mono _ _
   | exact m_Proves.mono _ _ _ _
   | exact lw_awake.mono _
   | exact rf_Check.mono _ _
   | exact rf_Few.mono _ _ _
   | exact rf_Proof.mono _ _
   | exact rf_Proves.mono _ _ _ _
   | exact LeO.none _
   | refine LeO.ite ?_ ?_
   | refine LeO.bind ?_ (fun _ => ?_)
set_option maxHeartbeats 8000000 in
set_option maxRecDepth 100000 in
theorem lw_BookmatchProofs.calls (k : Nat) (A0 : Option Addr) (c0 : Nat) (l0 : List (S62)) (a1 : Int) (A2 : Option Addr) (c2 : Nat) (l2 : List (S51)) (tg0 : TypeId) (r : Bool) (w : World) (hr0 : Kd.C k62 w A0 l0.length l0) (hc0 : l0.length ≤ c0) (hr2 : Kd.C k51 w A2 l2.length l2) (hc2 : l2.length ≤ c2) (hb24 : w.heap[0]? = some (.cells #[.bool false, .bool true] tg0 (0, 0))) (h : lw_BookmatchProofs.f k l0 a1 l2 = some r) :
  Calls Tryd.prog 6 #[.slice A0 l0.length c0, .int .i64 a1, .slice A2 l2.length c2] w fun e w' => e = .returned (.bool r) ∧ Below w.heap.size w w' := by
 have hu51 := Tryd.underlying51
 have HR0 := ak hr0
 have HC0 := ak hc0
 clear hr0 hc0
 have HR2 := ak hr2
 have HC2 := ak hc2
 clear hr2 hc2
 have GL24 := blk_lt hb24
 have BK24 := ak hb24
 clear hb24
 have HB := ak (Below.refl w.heap.size w)
 have H : ((rf_Few.f k l0 20).bind fun t522 => (if t522 = true then (lw_BookmatchProofs.j0 k l0 a1 l2 (decide ((l2.length : Int) > 70))) else (lw_BookmatchProofs.j0 k l0 a1 l2 true))) = some r := h
 clear h
 have HC5 := ak H
 clear H
 go_enter Tryd.func6, Tryd.ntmps6
 go_upto_region 1 with (fail)
 repeat (go_quiet (fail); go_upto_region 1 with (fail))
 refine cutU_ [none, none, none, none, none, none, none, none, none, none, none, none, some 12, some 13, some 14, some 15, some 16, some 17, some 18, some 19, some 20, some 21, some 22, some 23, some 24, some 25, some 26, some 27, some 28, some 29, some 30, some 31, some 32, some 33, some 34, some 35, some 36, some 37, some 38, some 39, some 40, some 41, some 42, some 43, some 44, some 45, some 46, some 47, some 48, some 49, some 50, some 51, some 52, some 53, some 54, some 55, some 56, some 57, some 58, some 59, some 60, some 61, some 62, some 63, some 64, some 65, some 66, some 67, some 68, some 69, some 70, some 71, some 72, some 73, some 74, some 75, some 76, some 77, some 78, some 79, some 80, some 81, some 82, some 83, some 84, some 85, some 86, some 87, some 88, some 89, some 90, some 91] (fun u_ wc_ => (fun v19 wc => ∃ (kq : Nat) (x19_4 : Bool), v19 = .bool x19_4 ∧ Aside0 (lw_BookmatchProofs.j0 kq l0 a1 l2 x19_4 = some r) ∧ Aside0 (kq ≤ k) ∧ Aside0 (wc.heap[0]? = some (.cells #[.bool false, .bool true] tg0 (0, 0))) ∧ Aside0 (Below w.heap.size w wc)) (u_ 19) wc_) ?rest0 ?first0
 case' rest0 => (intro u_ wc hcut; dsimp only [fg_, List.toList_toArray] at hcut ⊢; generalize u_ 19 = u19 at hcut ⊢)
 case' first0 => (intro _ _ _ _)
 case first0 =>
  have H := HC5.1; clear HC5; obtain ⟨t522, A60, H⟩ := obs_ H; (replace H : (if t522 = true then (lw_BookmatchProofs.j0 k l0 a1 l2 (decide ((l2.length : Int) > 70))) else (lw_BookmatchProofs.j0 k l0 a1 l2 true)) = some r := H); have A6 := ak A60; clear A60; (by_cases c7 : t522 = true)
  ·subst c7
   (replace H : (lw_BookmatchProofs.j0 k l0 a1 l2 (decide ((l2.length : Int) > 70))) = some r := by rw [if_pos rfl] at H; exact H); have H' := ak H; clear H; (iterate 2 ((try go_quiet (first | (go_at_call 11; (with_reducible refine (rf_Few.calls k _ _ l0 20 true _ ?side1 ?side2 A6.1).mono ?_); (case side1 => repeat (first | exact (Kd.C_below HR0.1 HB.1) | (with_reducible refine Kd.C_alloc ?_ _) | (with_reducible refine Kd.C_drewN ?_ _) | (with_reducible refine Kd.C_drew ?_))); (case side2 => exact HC0.1); rintro e w' ⟨rfl, ⟨nd, rfl⟩⟩; (try first | exact ⟨rfl, _, World.drewN_drewN _ _ _⟩ | exact ⟨rfl, _, Eq.trans (World.drewN_drewN _ _ _) (congrArg (World.drewN _) (Nat.add_assoc _ _ _))⟩)))); go_wp2_with (first | (go_at_call 11; (with_reducible refine (rf_Few.calls k _ _ l0 20 true _ ?side1 ?side2 A6.1).mono ?_); (case side1 => repeat (first | exact (Kd.C_below HR0.1 HB.1) | (with_reducible refine Kd.C_alloc ?_ _) | (with_reducible refine Kd.C_drewN ?_ _) | (with_reducible refine Kd.C_drew ?_))); (case side2 => exact HC0.1); rintro e w' ⟨rfl, ⟨nd, rfl⟩⟩; (try first | exact ⟨rfl, _, World.drewN_drewN _ _ _⟩ | exact ⟨rfl, _, Eq.trans (World.drewN_drewN _ _ _) (congrArg (World.drewN _) (Nat.add_assoc _ _ _))⟩))))); refine Met.intro ?_; (go_step); refine meetU_ ?rel
   case rel => exact ⟨_, (decide ((l2.length : Int) > 70)), (by first | rfl | (simp; done) | (simp [*]; done)), H', ⟨by first | omega | exact Nat.le_refl _⟩, ⟨bk_ BK24⟩, ⟨hb_ HB⟩⟩
  replace c7 := Bool.eq_false_iff.mpr c7
  subst c7; (replace H : (lw_BookmatchProofs.j0 k l0 a1 l2 true) = some r := by rw [if_neg (show ¬ (false = true) by decide)] at H; exact H); have H' := ak H; clear H; (iterate 2 ((try go_quiet (first | (go_at_call 11; (with_reducible refine (rf_Few.calls k _ _ l0 20 false _ ?side1 ?side2 A6.1).mono ?_); (case side1 => repeat (first | exact (Kd.C_below HR0.1 HB.1) | (with_reducible refine Kd.C_alloc ?_ _) | (with_reducible refine Kd.C_drewN ?_ _) | (with_reducible refine Kd.C_drew ?_))); (case side2 => exact HC0.1); rintro e w' ⟨rfl, ⟨nd, rfl⟩⟩; (try first | exact ⟨rfl, _, World.drewN_drewN _ _ _⟩ | exact ⟨rfl, _, Eq.trans (World.drewN_drewN _ _ _) (congrArg (World.drewN _) (Nat.add_assoc _ _ _))⟩)))); go_wp2_with (first | (go_at_call 11; (with_reducible refine (rf_Few.calls k _ _ l0 20 false _ ?side1 ?side2 A6.1).mono ?_); (case side1 => repeat (first | exact (Kd.C_below HR0.1 HB.1) | (with_reducible refine Kd.C_alloc ?_ _) | (with_reducible refine Kd.C_drewN ?_ _) | (with_reducible refine Kd.C_drew ?_))); (case side2 => exact HC0.1); rintro e w' ⟨rfl, ⟨nd, rfl⟩⟩; (try first | exact ⟨rfl, _, World.drewN_drewN _ _ _⟩ | exact ⟨rfl, _, Eq.trans (World.drewN_drewN _ _ _) (congrArg (World.drewN _) (Nat.add_assoc _ _ _))⟩))))); refine Met.intro ?_; (go_step); refine meetU_ ?rel
  case rel => exact ⟨_, (true), (by first | rfl | (simp; done) | (simp [*]; done)), H', ⟨by first | omega | exact Nat.le_refl _⟩, ⟨bk_ BK24⟩, ⟨hb_ HB⟩⟩
 clear HC5; (try clear c2); (try clear p2); (try clear c6); (try clear c7); obtain ⟨kq, x19_4, rfl, HA, HJ4, BK24, HB⟩ := hcut
 cases kq with
 | zero => exact absurd HA.1 (by simp [lw_BookmatchProofs.j0])
 | succ kj4 =>
  have H := HA.1; clear HA; simp only [lw_BookmatchProofs.j0] at H; have HC8 := ak H; clear H; (go_upto_if 19 with (fail)); (repeat (go_quiet (fail); go_upto_if 19 with (fail))); (refine cutU_ [none, none, none, none, none, none, some 6, none, none, none, none, none, some 12, some 13, some 14, some 15, some 16, some 17, some 18, some 19, some 20, some 21, some 22, some 23, some 24, some 25, some 26, some 27, some 28, some 29, some 30, some 31, some 32, some 33, some 34, some 35, some 36, some 37, some 38, some 39, some 40, some 41, some 42, some 43, some 44, some 45, some 46, some 47, some 48, some 49, some 50, some 51, some 52, some 53, some 54, some 55, some 56, some 57, some 58, some 59, some 60, some 61, some 62, some 63, some 64, some 65, some 66, some 67, some 68, some 69, some 70, some 71, some 72, some 73, some 74, some 75, some 76, some 77, some 78, some 79, some 80, some 81, some 82, some 83, some 84, some 85, some 86, some 87, some 88, some 89, some 90, some 91] (fun u_ wc_ => (fun wc => ∃ (kq : Nat), Aside0 (lw_BookmatchProofs.j1 kq l0 a1 l2 = some r) ∧ Aside0 (kq ≤ kj4) ∧ Aside0 (wc.heap[0]? = some (.cells #[.bool false, .bool true] tg0 (0, 0))) ∧ Aside0 (Below w.heap.size w wc))  wc_) ?rest1 ?first1); (case' rest1 => (intro u_ wc hcut; dsimp only [fg_, List.toList_toArray] at hcut ⊢)); (case' first1 => (intro _ _ _ _))
  case first1 =>
   have H := HC8.1; clear HC8; (by_cases c9 : x19_4 = true)
   ·subst c9; (replace H : ((lw_awake.f kj4).bind fun t523 => (some t523)) = some r := by rw [if_pos rfl] at H; exact H); obtain ⟨t523, A100, H⟩ := obs_ H; replace H : (some t523) = some r := H; have A10 := ak A100; clear A100; obtain rfl := Option.some.inj H; (iterate 2 ((try go_quiet (first | (go_at_call 12; (with_reducible refine (lw_awake.calls kj4 tg0 t523 _ ?side1 A10.1).mono ?_); (case side1 => exact (bk_ BK24)); rintro e w11 ⟨rfl, hb⟩; replace BK24 := bg0 (t := tg0) (bk_ BK24) hb; replace HB := hs_ HB hb; (try clear hb); (try clear hb2); (try clear hk); (try clear hi)))); go_wp2_with (first | (go_at_call 12; (with_reducible refine (lw_awake.calls kj4 tg0 t523 _ ?side1 A10.1).mono ?_); (case side1 => exact (bk_ BK24)); rintro e w11 ⟨rfl, hb⟩; replace BK24 := bg0 (t := tg0) (bk_ BK24) hb; replace HB := hs_ HB hb; (try clear hb); (try clear hb2); (try clear hk); (try clear hi))))); (go_ret); (exact ⟨by first | rfl | (simp [errW_none, errW_some] <;> rfl) | (simp [*, errW_none, errW_some] <;> rfl), hb_ HB⟩)
   replace c9 := Bool.eq_false_iff.mpr c9
   subst c9; (replace H : (lw_BookmatchProofs.j1 kj4 l0 a1 l2) = some r := by rw [if_neg (show ¬ (false = true) by decide)] at H; exact H); have H' := ak H; clear H; (go_wp2); (repeat (go_quiet (fail); try go_wp2)); refine Met.intro ?_; (go_step); refine meetU_ ?rel
   case rel => exact ⟨_, H', ⟨by have := HJ4.1; first | omega | exact Nat.le_refl _⟩, ⟨bk_ BK24⟩, ⟨hb_ HB⟩⟩
  clear HC8; (try clear c2); (try clear p2); (try clear c6); (try clear c7); (try clear c9); (try clear p2); obtain ⟨kq, HA, HJ7, BK24, HB⟩ := hcut
  cases kq with
  | zero => exact absurd HA.1 (by simp [lw_BookmatchProofs.j1])
  | succ kj7 =>
   have H := HA.1; clear HA; simp only [lw_BookmatchProofs.j1] at H; have HC12 := ak H; clear H; (go_upto_region 3 with (fail)); (repeat (go_quiet (fail); go_upto_region 3 with (fail))); (refine cutU_ [none, none, none, none, none, none, none, some 7, some 8, none, none, none, some 12, some 13, some 14, some 15, some 16, some 17, some 18, some 19, some 20, some 21, some 22, some 23, some 24, some 25, some 26, some 27, some 28, some 29, some 30, some 31, some 32, some 33, some 34, some 35, some 36, some 37, some 38, some 39, some 40, some 41, some 42, some 43, some 44, some 45, some 46, some 47, some 48, some 49, some 50, some 51, some 52, some 53, some 54, some 55, some 56, some 57, some 58, some 59, some 60, some 61, some 62, some 63, some 64, some 65, some 66, some 67, some 68, some 69, some 70, some 71, some 72, some 73, some 74, some 75, some 76, some 77, some 78, some 79, some 80, some 81, some 82, some 83, some 84, some 85, some 86, some 87, some 88, some 89, some 90, some 91] (fun u_ wc_ => (fun v7 v8 wc => ∃ (kq : Nat) (x7_11 : List (S51)) (x8_11 : Int), v8 = .int .i64 x8_11 ∧ Aside0 (lw_BookmatchProofs.j2 kq l0 a1 l2 x7_11 x8_11 = some r) ∧ Aside0 (kq ≤ kj7) ∧ Aside0 (Kd.R k51 51 wc w.heap.size (fun _ => True) v7 x7_11) ∧ Aside0 (wc.heap[0]? = some (.cells #[.bool false, .bool true] tg0 (0, 0))) ∧ Aside0 (Below w.heap.size w wc)) (u_ 7) (u_ 8) wc_) ?rest2 ?first2); (case' rest2 => (intro u_ wc hcut; dsimp only [fg_, List.toList_toArray] at hcut ⊢; generalize u_ 7 = u7 at hcut ⊢; generalize u_ 8 = u8 at hcut ⊢)); (case' first2 => (intro _ _ _ _))
   case first2 =>
    have H := HC12.1; clear HC12; obtain ⟨⟨t524, t525⟩, A130, H⟩ := obs_ H; replace H : (lw_BookmatchProofs.j2 kj7 l0 a1 l2 t524 t525) = some r := H; have A13 := ak A130; clear A130; have H' := ak H; clear H; (iterate 2 ((try go_quiet (first | (go_at_call 25; (with_reducible refine (m_Proof.calls kj7 _ _ l0 tg0 t524 t525 _ ?side1 ?side2 ?side3 A13.1).mono ?_); (case side1 => repeat (first | exact (Kd.C_below HR0.1 HB.1) | (with_reducible refine Kd.C_alloc ?_ _) | (with_reducible refine Kd.C_drewN ?_ _) | (with_reducible refine Kd.C_drew ?_))); (case side2 => exact HC0.1); (case side3 => exact (bk_ BK24)); rintro e w14 ⟨v526, rfl, ho0, hb⟩; have HO527 := ak (Kd.R_lower ho0 (below_size (hb_ HB))); replace BK24 := bg0 (t := tg0) (bk_ BK24) hb; replace HB := hs_ HB hb; (try clear hb); (try clear hb2); (try clear hk); (try clear hi); (try clear ho0)))); go_wp2_with (first | (go_at_call 25; (with_reducible refine (m_Proof.calls kj7 _ _ l0 tg0 t524 t525 _ ?side1 ?side2 ?side3 A13.1).mono ?_); (case side1 => repeat (first | exact (Kd.C_below HR0.1 HB.1) | (with_reducible refine Kd.C_alloc ?_ _) | (with_reducible refine Kd.C_drewN ?_ _) | (with_reducible refine Kd.C_drew ?_))); (case side2 => exact HC0.1); (case side3 => exact (bk_ BK24)); rintro e w14 ⟨v526, rfl, ho0, hb⟩; have HO527 := ak (Kd.R_lower ho0 (below_size (hb_ HB))); replace BK24 := bg0 (t := tg0) (bk_ BK24) hb; replace HB := hs_ HB hb; (try clear hb); (try clear hb2); (try clear hk); (try clear hi); (try clear ho0))))); refine Met.intro ?_; (go_step); refine meetU_ ?rel
    case rel => exact ⟨_, (t524), (t525), (by first | rfl | (simp; done) | (simp [*]; done)), H', ⟨by have := HJ4.1; have := HJ7.1; first | omega | exact Nat.le_refl _⟩, ⟨by (with_reducible repeat (first | apply Kd.R_alloc | apply Kd.R_drewN | apply Kd.R_drew)); exact HO527.1⟩, ⟨bk_ BK24⟩, ⟨hb_ HB⟩⟩
   clear HC12; (try clear c2); (try clear p2); (try clear c6); (try clear c7); (try clear c9); (try clear p2); obtain ⟨kq, x7_11, x8_11, rfl, HA, HJ11, HO_7, BK24, HB⟩ := hcut
   cases kq with
   | zero => exact absurd HA.1 (by simp [lw_BookmatchProofs.j2])
   | succ kj11 =>
    have H := HA.1; clear HA; simp only [lw_BookmatchProofs.j2] at H; have HC15 := ak H; clear H; (go_upto_region 4 with (fail)); (repeat (go_quiet (fail); go_upto_region 4 with (fail))); (refine cutU_ [none, none, none, none, none, none, none, none, none, none, none, none, some 12, some 13, some 14, some 15, some 16, some 17, some 18, some 19, some 20, some 21, some 22, some 23, some 24, some 25, some 26, some 27, some 28, some 29, some 30, some 31, some 32, some 33, some 34, some 35, some 36, some 37, some 38, some 39, some 40, some 41, some 42, some 43, some 44, some 45, some 46, some 47, some 48, some 49, some 50, some 51, some 52, some 53, some 54, some 55, some 56, some 57, some 58, some 59, some 60, some 61, some 62, some 63, some 64, some 65, some 66, some 67, some 68, some 69, some 70, some 71, some 72, some 73, some 74, some 75, some 76, some 77, some 78, some 79, some 80, some 81, some 82, some 83, some 84, some 85, some 86, some 87, some 88, some 89, some 90, some 91] (fun u_ wc_ => (fun v34 wc => ∃ (kq : Nat) (x34_14 : Bool), v34 = .bool x34_14 ∧ Aside0 (lw_BookmatchProofs.j3 kq l0 x7_11 x8_11 x34_14 = some r) ∧ Aside0 (kq ≤ kj11) ∧ Aside0 (Kd.R k51 51 wc w.heap.size (fun _ => True) u7 x7_11) ∧ Aside0 (wc.heap[0]? = some (.cells #[.bool false, .bool true] tg0 (0, 0))) ∧ Aside0 (Below w.heap.size w wc)) (u_ 34) wc_) ?rest3 ?first3); (case' rest3 => (intro u_ wc hcut; dsimp only [fg_, List.toList_toArray] at hcut ⊢; generalize u_ 34 = u34 at hcut ⊢)); (case' first3 => (intro _ _ _ _))
    case first3 =>
     have H := HC15.1; clear HC15; obtain ⟨t528, A160, H⟩ := obs_ H; (replace H : ((rf_Proves.f kj11 l0 a1 l2).bind fun t529 => (lw_BookmatchProofs.j3 kj11 l0 x7_11 x8_11 (t528 != t529))) = some r := H); have A16 := ak A160; clear A160; obtain ⟨t529, A170, H⟩ := obs_ H; replace H : (lw_BookmatchProofs.j3 kj11 l0 x7_11 x8_11 (t528 != t529)) = some r := H; have A17 := ak A170; clear A170; have H' := ak H; clear H; (iterate 2 ((try go_quiet (first | (go_at_call 26; (with_reducible refine (m_Proves.calls kj11 _ _ l0 a1 _ _ l2 tg0 t528 _ ?side1 ?side2 ?side3 ?side4 ?side5 A16.1).mono ?_); (case side1 => repeat (first | exact (Kd.C_below HR0.1 HB.1) | (with_reducible refine Kd.C_alloc ?_ _) | (with_reducible refine Kd.C_drewN ?_ _) | (with_reducible refine Kd.C_drew ?_))); (case side2 => exact HC0.1); (case side3 => repeat (first | exact (Kd.C_below HR2.1 HB.1) | (with_reducible refine Kd.C_alloc ?_ _) | (with_reducible refine Kd.C_drewN ?_ _) | (with_reducible refine Kd.C_drew ?_))); (case side4 => exact HC2.1); (case side5 => exact (bk_ BK24)); rintro e w18 ⟨rfl, hb⟩; replace HO_7 := rb_ HO_7 hb; replace BK24 := bg0 (t := tg0) (bk_ BK24) hb; replace HB := hs_ HB hb; (try clear hb); (try clear hb2); (try clear hk); (try clear hi)) | (go_at_call 27; (with_reducible refine (rf_Proves.calls kj11 _ _ l0 a1 _ _ l2 t529 _ ?side1 ?side2 ?side3 ?side4 A17.1).mono ?_); (case side1 => repeat (first | exact (Kd.C_below HR0.1 HB.1) | (with_reducible refine Kd.C_alloc ?_ _) | (with_reducible refine Kd.C_drewN ?_ _) | (with_reducible refine Kd.C_drew ?_))); (case side2 => exact HC0.1); (case side3 => repeat (first | exact (Kd.C_below HR2.1 HB.1) | (with_reducible refine Kd.C_alloc ?_ _) | (with_reducible refine Kd.C_drewN ?_ _) | (with_reducible refine Kd.C_drew ?_))); (case side4 => exact HC2.1); rintro e w19 ⟨rfl, hb⟩; replace HO_7 := rb_ HO_7 hb; replace BK24 := bg0 (t := tg0) (bk_ BK24) hb; replace HB := hs_ HB hb; (try clear hb); (try clear hb2); (try clear hk); (try clear hi)))); go_wp2_with (first | (go_at_call 26; (with_reducible refine (m_Proves.calls kj11 _ _ l0 a1 _ _ l2 tg0 t528 _ ?side1 ?side2 ?side3 ?side4 ?side5 A16.1).mono ?_); (case side1 => repeat (first | exact (Kd.C_below HR0.1 HB.1) | (with_reducible refine Kd.C_alloc ?_ _) | (with_reducible refine Kd.C_drewN ?_ _) | (with_reducible refine Kd.C_drew ?_))); (case side2 => exact HC0.1); (case side3 => repeat (first | exact (Kd.C_below HR2.1 HB.1) | (with_reducible refine Kd.C_alloc ?_ _) | (with_reducible refine Kd.C_drewN ?_ _) | (with_reducible refine Kd.C_drew ?_))); (case side4 => exact HC2.1); (case side5 => exact (bk_ BK24)); rintro e w18 ⟨rfl, hb⟩; replace HO_7 := rb_ HO_7 hb; replace BK24 := bg0 (t := tg0) (bk_ BK24) hb; replace HB := hs_ HB hb; (try clear hb); (try clear hb2); (try clear hk); (try clear hi)) | (go_at_call 27; (with_reducible refine (rf_Proves.calls kj11 _ _ l0 a1 _ _ l2 t529 _ ?side1 ?side2 ?side3 ?side4 A17.1).mono ?_); (case side1 => repeat (first | exact (Kd.C_below HR0.1 HB.1) | (with_reducible refine Kd.C_alloc ?_ _) | (with_reducible refine Kd.C_drewN ?_ _) | (with_reducible refine Kd.C_drew ?_))); (case side2 => exact HC0.1); (case side3 => repeat (first | exact (Kd.C_below HR2.1 HB.1) | (with_reducible refine Kd.C_alloc ?_ _) | (with_reducible refine Kd.C_drewN ?_ _) | (with_reducible refine Kd.C_drew ?_))); (case side4 => exact HC2.1); rintro e w19 ⟨rfl, hb⟩; replace HO_7 := rb_ HO_7 hb; replace BK24 := bg0 (t := tg0) (bk_ BK24) hb; replace HB := hs_ HB hb; (try clear hb); (try clear hb2); (try clear hk); (try clear hi)))))
     refine Met.intro ?_; (go_step); refine meetU_ ?rel
     case rel => exact ⟨_, ((t528 != t529)), (by first | rfl | (simp; done) | (simp [*]; done)), H', ⟨by have := HJ4.1; have := HJ7.1; have := HJ11.1; first | omega | exact Nat.le_refl _⟩, ⟨by (with_reducible repeat (first | apply Kd.R_alloc | apply Kd.R_drewN | apply Kd.R_drew)); exact HO_7.1⟩, ⟨bk_ BK24⟩, ⟨hb_ HB⟩⟩
    clear HC15; (try clear c2); (try clear p2); (try clear c6); (try clear c7); (try clear c9); (try clear p2); obtain ⟨kq, x34_14, rfl, HA, HJ14, HO_7, BK24, HB⟩ := hcut
    cases kq with
    | zero => exact absurd HA.1 (by simp [lw_BookmatchProofs.j3])
    | succ kj14 =>
     have H := HA.1; clear HA; simp only [lw_BookmatchProofs.j3] at H; have HC20 := ak H; clear H; (go_upto_if 34 with (fail)); (repeat (go_quiet (fail); go_upto_if 34 with (fail))); (refine cutU_ [none, none, none, none, none, none, some 6, none, none, none, none, none, some 12, some 13, some 14, some 15, some 16, some 17, some 18, some 19, some 20, some 21, some 22, some 23, some 24, some 25, some 26, some 27, some 28, some 29, some 30, some 31, some 32, some 33, some 34, some 35, some 36, some 37, some 38, some 39, some 40, some 41, some 42, some 43, some 44, some 45, some 46, some 47, some 48, some 49, some 50, some 51, some 52, some 53, some 54, some 55, some 56, some 57, some 58, some 59, some 60, some 61, some 62, some 63, some 64, some 65, some 66, some 67, some 68, some 69, some 70, some 71, some 72, some 73, some 74, some 75, some 76, some 77, some 78, some 79, some 80, some 81, some 82, some 83, some 84, some 85, some 86, some 87, some 88, some 89, some 90, some 91] (fun u_ wc_ => (fun wc => ∃ (kq : Nat), Aside0 (lw_BookmatchProofs.j4 kq l0 x7_11 x8_11 = some r) ∧ Aside0 (kq ≤ kj14) ∧ Aside0 (Kd.R k51 51 wc w.heap.size (fun _ => True) u7 x7_11) ∧ Aside0 (wc.heap[0]? = some (.cells #[.bool false, .bool true] tg0 (0, 0))) ∧ Aside0 (Below w.heap.size w wc))  wc_) ?rest4 ?first4); (case' rest4 => (intro u_ wc hcut; dsimp only [fg_, List.toList_toArray] at hcut ⊢)); (case' first4 => (intro _ _ _ _))
     case first4 =>
      have H := HC20.1; clear HC20; (by_cases c21 : x34_14 = true)
      ·subst c21; (replace H : (some false) = some r := by rw [if_pos rfl] at H; exact H); obtain rfl := Option.some.inj H; (go_wp2); (repeat (go_quiet (fail); try go_wp2)); (go_ret); (exact ⟨by first | rfl | (simp [errW_none, errW_some] <;> rfl) | (simp [*, errW_none, errW_some] <;> rfl), hb_ HB⟩)
      replace c21 := Bool.eq_false_iff.mpr c21
      subst c21; (replace H : (lw_BookmatchProofs.j4 kj14 l0 x7_11 x8_11) = some r := by rw [if_neg (show ¬ (false = true) by decide)] at H; exact H); have H' := ak H; clear H; (go_wp2); (repeat (go_quiet (fail); try go_wp2)); refine Met.intro ?_; (go_step); refine meetU_ ?rel
      case rel => exact ⟨_, H', ⟨by have := HJ4.1; have := HJ7.1; have := HJ11.1; have := HJ14.1; first | omega | exact Nat.le_refl _⟩, ⟨by (with_reducible repeat (first | apply Kd.R_alloc | apply Kd.R_drewN | apply Kd.R_drew)); exact HO_7.1⟩, ⟨bk_ BK24⟩, ⟨hb_ HB⟩⟩
     clear HC20; (try clear c2); (try clear p2); (try clear c6); (try clear c7); (try clear c9); (try clear c21); (try clear p2); obtain ⟨kq, HA, HJ19, HO_7, BK24, HB⟩ := hcut
     cases kq with
     | zero => exact absurd HA.1 (by simp [lw_BookmatchProofs.j4])
     | succ kj19 =>
      have H := HA.1; clear HA; simp only [lw_BookmatchProofs.j4] at H; have HC22 := ak H; clear H; (go_upto_region 6 with (fail)); (repeat (go_quiet (fail); go_upto_region 6 with (fail))); (refine cutU_ [none, none, none, none, none, none, none, none, none, some 9, none, none, some 12, some 13, some 14, some 15, some 16, some 17, some 18, some 19, some 20, some 21, some 22, some 23, some 24, some 25, some 26, some 27, some 28, some 29, some 30, some 31, some 32, some 33, some 34, some 35, some 36, some 37, some 38, some 39, some 40, some 41, some 42, some 43, some 44, some 45, some 46, some 47, some 48, some 49, some 50, some 51, some 52, some 53, some 54, some 55, some 56, some 57, some 58, some 59, some 60, some 61, some 62, some 63, some 64, some 65, some 66, some 67, some 68, some 69, some 70, some 71, some 72, some 73, some 74, some 75, some 76, some 77, some 78, some 79, some 80, some 81, some 82, some 83, some 84, some 85, some 86, some 87, some 88, some 89, some 90, some 91] (fun u_ wc_ => (fun v9 wc => ∃ (kq : Nat) (x9_21 : Int), v9 = .int .i64 x9_21 ∧ Aside0 (lw_BookmatchProofs.j5 kq l0 x7_11 x8_11 x9_21 = some r) ∧ Aside0 (kq ≤ kj19) ∧ Aside0 (Kd.R k51 51 wc w.heap.size (fun _ => True) u7 x7_11) ∧ Aside0 (wc.heap[0]? = some (.cells #[.bool false, .bool true] tg0 (0, 0))) ∧ Aside0 (Below w.heap.size w wc)) (u_ 9) wc_) ?rest5 ?first5); (case' rest5 => (intro u_ wc hcut; dsimp only [fg_, List.toList_toArray] at hcut ⊢; generalize u_ 9 = u9 at hcut ⊢)); (case' first5 => (intro _ _ _ _))
      case first5 =>
       have H := HC22.1; clear HC22; obtain ⟨t530, A230, H⟩ := obs_ H; replace H : (lw_BookmatchProofs.j5 kj19 l0 x7_11 x8_11 t530) = some r := H; have A23 := ak A230; clear A230; have H' := ak H; clear H; (iterate 2 ((try go_quiet (first | (go_at_call 14; (with_reducible refine (rf_Check.calls kj19 _ _ l0 t530 _ ?side1 ?side2 A23.1).mono ?_); (case side1 => repeat (first | exact (Kd.C_below HR0.1 HB.1) | (with_reducible refine Kd.C_alloc ?_ _) | (with_reducible refine Kd.C_drewN ?_ _) | (with_reducible refine Kd.C_drew ?_))); (case side2 => exact HC0.1); rintro e w' ⟨rfl, ⟨nd, rfl⟩⟩; (try first | exact ⟨rfl, _, World.drewN_drewN _ _ _⟩ | exact ⟨rfl, _, Eq.trans (World.drewN_drewN _ _ _) (congrArg (World.drewN _) (Nat.add_assoc _ _ _))⟩)))); go_wp2_with (first | (go_at_call 14; (with_reducible refine (rf_Check.calls kj19 _ _ l0 t530 _ ?side1 ?side2 A23.1).mono ?_); (case side1 => repeat (first | exact (Kd.C_below HR0.1 HB.1) | (with_reducible refine Kd.C_alloc ?_ _) | (with_reducible refine Kd.C_drewN ?_ _) | (with_reducible refine Kd.C_drew ?_))); (case side2 => exact HC0.1); rintro e w' ⟨rfl, ⟨nd, rfl⟩⟩; (try first | exact ⟨rfl, _, World.drewN_drewN _ _ _⟩ | exact ⟨rfl, _, Eq.trans (World.drewN_drewN _ _ _) (congrArg (World.drewN _) (Nat.add_assoc _ _ _))⟩))))); refine Met.intro ?_; (go_step); refine meetU_ ?rel
       case rel => exact ⟨_, (t530), (by first | rfl | (simp; done) | (simp [*]; done)), H', ⟨by have := HJ4.1; have := HJ7.1; have := HJ11.1; have := HJ14.1; have := HJ19.1; first | omega | exact Nat.le_refl _⟩, ⟨by (with_reducible repeat (first | apply Kd.R_alloc | apply Kd.R_drewN | apply Kd.R_drew)); exact HO_7.1⟩, ⟨bk_ BK24⟩, ⟨hb_ HB⟩⟩
      clear HC22; (try clear c2); (try clear p2); (try clear c6); (try clear c7); (try clear c9); (try clear c21); (try clear p2); obtain ⟨kq, x9_21, rfl, HA, HJ21, HO_7, BK24, HB⟩ := hcut
      cases kq with
      | zero => exact absurd HA.1 (by simp [lw_BookmatchProofs.j5])
      | succ kj21 =>
       have H := HA.1; clear HA; simp only [lw_BookmatchProofs.j5] at H; have HC24 := ak H; clear H; (go_upto_if 38 with (fail)); (repeat (go_quiet (fail); go_upto_if 38 with (fail))); (refine cutU_ [none, none, none, none, none, none, some 6, none, none, none, none, none, some 12, some 13, some 14, some 15, some 16, some 17, some 18, some 19, some 20, some 21, some 22, some 23, some 24, some 25, some 26, some 27, some 28, some 29, some 30, some 31, some 32, some 33, some 34, some 35, some 36, some 37, some 38, some 39, some 40, some 41, some 42, some 43, some 44, some 45, some 46, some 47, some 48, some 49, some 50, some 51, some 52, some 53, some 54, some 55, some 56, some 57, some 58, some 59, some 60, some 61, some 62, some 63, some 64, some 65, some 66, some 67, some 68, some 69, some 70, some 71, some 72, some 73, some 74, some 75, some 76, some 77, some 78, some 79, some 80, some 81, some 82, some 83, some 84, some 85, some 86, some 87, some 88, some 89, some 90, some 91] (fun u_ wc_ => (fun wc => ∃ (kq : Nat), Aside0 (lw_BookmatchProofs.j7 kq l0 x7_11 x8_11 = some r) ∧ Aside0 (kq ≤ kj21) ∧ Aside0 (Kd.R k51 51 wc w.heap.size (fun _ => True) u7 x7_11) ∧ Aside0 (wc.heap[0]? = some (.cells #[.bool false, .bool true] tg0 (0, 0))) ∧ Aside0 (Below w.heap.size w wc))  wc_) ?rest6 ?first6); (case' rest6 => (intro u_ wc hcut; dsimp only [fg_, List.toList_toArray] at hcut ⊢)); (case' first6 => (intro _ _ _ _))
       case first6 =>
        have H := HC24.1; clear HC24; (by_cases c25 : x9_21 = 0)
        ·rw [if_pos c25] at H
         have c25b0 := beq_iff_eq.mpr c25; have c25b1 := bne_eq_false_iff_eq.mpr c25; clear c25; ((first | rw [c25b0] | (simp only [i64_w, i32_w]; rw [c25b0]) | skip)); have H' := ak H; clear H; (go_wp2); (repeat (go_quiet (fail); try go_wp2)); refine Met.intro ?_; (go_step); refine meetU_ ?rel
         case rel => exact ⟨_, H', ⟨by have := HJ4.1; have := HJ7.1; have := HJ11.1; have := HJ14.1; have := HJ19.1; have := HJ21.1; first | omega | exact Nat.le_refl _⟩, ⟨by (with_reducible repeat (first | apply Kd.R_alloc | apply Kd.R_drewN | apply Kd.R_drew)); exact HO_7.1⟩, ⟨bk_ BK24⟩, ⟨hb_ HB⟩⟩
        rw [if_neg c25] at H
        have c25b0 := beq_eq_false_iff_ne.mpr c25; have c25b1 := bne_iff_ne.mpr c25; ((first | rw [c25b0] | (simp only [i64_w, i32_w]; rw [c25b0]) | skip)); have HC26 := ak H; clear H; (go_upto_region 8 with (fail)); (repeat (go_quiet (fail); go_upto_region 8 with (fail))); (refine cutU_ [none, none, none, none, none, none, some 6, none, none, none, none, none, some 12, some 13, some 14, some 15, some 16, some 17, some 18, some 19, some 20, some 21, some 22, some 23, some 24, some 25, some 26, some 27, some 28, some 29, some 30, some 31, some 32, some 33, some 34, some 35, some 36, some 37, some 38, some 39, some 40, some 41, some 42, some 43, some 44, some 45, some 46, some 47, some 48, some 49, some 50, some 51, some 52, some 53, some 54, some 55, some 56, some 57, some 58, some 59, some 60, some 61, some 62, some 63, some 64, some 65, some 66, some 67, some 68, some 69, some 70, some 71, some 72, some 73, some 74, some 75, some 76, some 77, some 78, some 79, some 80, some 81, some 82, some 83, some 84, some 85, some 86, some 87, some 88, some 89, some 90, some 91] (fun u_ wc_ => (fun v6 wc => ∃ (kq : Nat) (x6_25 : Bool), v6 = .bool x6_25 ∧ Aside0 (lw_BookmatchProofs.j6 kq x6_25 = some r) ∧ Aside0 (kq ≤ kj21) ∧ Aside0 (wc.heap[0]? = some (.cells #[.bool false, .bool true] tg0 (0, 0))) ∧ Aside0 (Below w.heap.size w wc)) (u_ 6) wc_) ?rest7 ?first7); (case' rest7 => (intro u_ wc hcut; dsimp only [fg_, List.toList_toArray] at hcut ⊢; generalize u_ 6 = u6 at hcut ⊢)); (case' first7 => (intro _ _ _ _))
        case first7 =>
         have H := HC26.1; clear HC26; obtain ⟨t531, A270, H⟩ := obs_ H; (replace H : (if t531 = true then (if x8_11 = x9_21 then (lw_BookmatchProofs.j6 kj21 ((x7_11.length : Int) == 0)) else (lw_BookmatchProofs.j6 kj21 false)) else (lw_BookmatchProofs.j6 kj21 false)) = some r := H); have A27 := ak A270; clear A270; (by_cases c28 : t531 = true)
         ·subst c28
          (replace H : (if x8_11 = x9_21 then (lw_BookmatchProofs.j6 kj21 ((x7_11.length : Int) == 0)) else (lw_BookmatchProofs.j6 kj21 false)) = some r := by rw [if_pos rfl] at H; exact H); (by_cases c29 : x8_11 = x9_21)
          ·rw [if_pos c29] at H
           have c29b0 := beq_iff_eq.mpr c29; have c29b1 := bne_eq_false_iff_eq.mpr c29; clear c29; ((first | rw [c29b0] | (simp only [i64_w, i32_w]; rw [c29b0]) | skip)); have H' := ak H; clear H; (iterate 2 ((try go_quiet (first | (go_at_call 12; (with_reducible refine (lw_awake.calls kj21 tg0 true _ ?side1 A27.1).mono ?_); (case side1 => exact (bk_ BK24)); rintro e w30 ⟨rfl, hb⟩; replace HO_7 := rb_ HO_7 hb; replace BK24 := bg0 (t := tg0) (bk_ BK24) hb; replace HB := hs_ HB hb; (try clear hb); (try clear hb2); (try clear hk); (try clear hi); obtain ⟨Ao31, co31, eo31⟩ := Kd.R_slice HO_7.1; subst eo31))); go_wp2_with (first | (go_at_call 12; (with_reducible refine (lw_awake.calls kj21 tg0 true _ ?side1 A27.1).mono ?_); (case side1 => exact (bk_ BK24)); rintro e w30 ⟨rfl, hb⟩; replace HO_7 := rb_ HO_7 hb; replace BK24 := bg0 (t := tg0) (bk_ BK24) hb; replace HB := hs_ HB hb; (try clear hb); (try clear hb2); (try clear hk); (try clear hi); obtain ⟨Ao31, co31, eo31⟩ := Kd.R_slice HO_7.1; subst eo31)))); refine Met.intro ?_; (go_step); refine meetU_ ?rel
           case rel => exact ⟨_, (((x7_11.length : Int) == 0)), (by first | rfl | (simp; done) | (simp [*]; done)), H', ⟨by have := HJ4.1; have := HJ7.1; have := HJ11.1; have := HJ14.1; have := HJ19.1; have := HJ21.1; first | omega | exact Nat.le_refl _⟩, ⟨bk_ BK24⟩, ⟨hb_ HB⟩⟩
          rw [if_neg c29] at H
          have c29b0 := beq_eq_false_iff_ne.mpr c29; have c29b1 := bne_iff_ne.mpr c29; ((first | rw [c29b0] | (simp only [i64_w, i32_w]; rw [c29b0]) | skip)); have H' := ak H; clear H; (iterate 2 ((try go_quiet (first | (go_at_call 12; (with_reducible refine (lw_awake.calls kj21 tg0 true _ ?side1 A27.1).mono ?_); (case side1 => exact (bk_ BK24)); rintro e w32 ⟨rfl, hb⟩; replace HO_7 := rb_ HO_7 hb; replace BK24 := bg0 (t := tg0) (bk_ BK24) hb; replace HB := hs_ HB hb; (try clear hb); (try clear hb2); (try clear hk); (try clear hi)))); go_wp2_with (first | (go_at_call 12; (with_reducible refine (lw_awake.calls kj21 tg0 true _ ?side1 A27.1).mono ?_); (case side1 => exact (bk_ BK24)); rintro e w32 ⟨rfl, hb⟩; replace HO_7 := rb_ HO_7 hb; replace BK24 := bg0 (t := tg0) (bk_ BK24) hb; replace HB := hs_ HB hb; (try clear hb); (try clear hb2); (try clear hk); (try clear hi))))); refine Met.intro ?_; (go_step); refine meetU_ ?rel
          case rel => exact ⟨_, (false), (by first | rfl | (simp; done) | (simp [*]; done)), H', ⟨by have := HJ4.1; have := HJ7.1; have := HJ11.1; have := HJ14.1; have := HJ19.1; have := HJ21.1; first | omega | exact Nat.le_refl _⟩, ⟨bk_ BK24⟩, ⟨hb_ HB⟩⟩
         replace c28 := Bool.eq_false_iff.mpr c28
         subst c28; (replace H : (lw_BookmatchProofs.j6 kj21 false) = some r := by rw [if_neg (show ¬ (false = true) by decide)] at H; exact H); have H' := ak H; clear H; (iterate 2 ((try go_quiet (first | (go_at_call 12; (with_reducible refine (lw_awake.calls kj21 tg0 false _ ?side1 A27.1).mono ?_); (case side1 => exact (bk_ BK24)); rintro e w33 ⟨rfl, hb⟩; replace HO_7 := rb_ HO_7 hb; replace BK24 := bg0 (t := tg0) (bk_ BK24) hb; replace HB := hs_ HB hb; (try clear hb); (try clear hb2); (try clear hk); (try clear hi)))); go_wp2_with (first | (go_at_call 12; (with_reducible refine (lw_awake.calls kj21 tg0 false _ ?side1 A27.1).mono ?_); (case side1 => exact (bk_ BK24)); rintro e w33 ⟨rfl, hb⟩; replace HO_7 := rb_ HO_7 hb; replace BK24 := bg0 (t := tg0) (bk_ BK24) hb; replace HB := hs_ HB hb; (try clear hb); (try clear hb2); (try clear hk); (try clear hi))))); refine Met.intro ?_; (go_step); refine meetU_ ?rel
         case rel => exact ⟨_, (false), (by first | rfl | (simp; done) | (simp [*]; done)), H', ⟨by have := HJ4.1; have := HJ7.1; have := HJ11.1; have := HJ14.1; have := HJ19.1; have := HJ21.1; first | omega | exact Nat.le_refl _⟩, ⟨bk_ BK24⟩, ⟨hb_ HB⟩⟩
        clear HC26; (try clear c2); (try clear p2); (try clear c6); (try clear c7); (try clear c9); (try clear c21); (try clear c25); (try clear c25b0); (try clear c25b1); (try clear c28); (try clear c29); (try clear c29b0); (try clear c29b1); (try clear p2); obtain ⟨kq, x6_25, rfl, HA, HJ25, BK24, HB⟩ := hcut
        cases kq with
        | zero => exact absurd HA.1 (by simp [lw_BookmatchProofs.j6])
        | succ kj25 =>
         have H := HA.1; clear HA; simp only [lw_BookmatchProofs.j6] at H; obtain rfl := Option.some.inj H; (go_wp2); (repeat (go_quiet (fail); try go_wp2)); (go_ret); (exact ⟨by first | rfl | (simp [errW_none, errW_some] <;> rfl) | (simp [*, errW_none, errW_some] <;> rfl), hb_ HB⟩)
       clear HC24; (try clear c2); (try clear p2); (try clear c6); (try clear c7); (try clear c9); (try clear c21); (try clear c25); (try clear c25b0); (try clear c25b1); (try clear c28); (try clear c29); (try clear c29b0); (try clear c29b1); (try clear p2); obtain ⟨kq, HA, HJ23, HO_7, BK24, HB⟩ := hcut
       cases kq with
       | zero => exact absurd HA.1 (by simp [lw_BookmatchProofs.j7])
       | succ kj23 =>
        have H := HA.1; clear HA; simp only [lw_BookmatchProofs.j7] at H; have HC34 := ak H; clear H; (go_upto_region 9 with (fail)); (repeat (go_quiet (fail); go_upto_region 9 with (fail))); (refine cutU_ [none, none, none, none, none, none, none, none, none, none, some 10, none, some 12, some 13, some 14, some 15, some 16, some 17, some 18, some 19, some 20, some 21, some 22, some 23, some 24, some 25, some 26, some 27, some 28, some 29, some 30, some 31, some 32, some 33, some 34, some 35, some 36, some 37, some 38, some 39, some 40, some 41, some 42, some 43, some 44, some 45, some 46, some 47, some 48, some 49, some 50, some 51, some 52, some 53, some 54, some 55, some 56, some 57, some 58, some 59, some 60, some 61, some 62, some 63, some 64, some 65, some 66, some 67, some 68, some 69, some 70, some 71, some 72, some 73, some 74, some 75, some 76, some 77, some 78, some 79, some 80, some 81, some 82, some 83, some 84, some 85, some 86, some 87, some 88, some 89, some 90, some 91] (fun u_ wc_ => (fun v10 wc => ∃ (kq : Nat) (x10_33 : List (S51)), Aside0 (lw_BookmatchProofs.j8 kq x7_11 x8_11 x10_33 = some r) ∧ Aside0 (kq ≤ kj23) ∧ Aside0 (Kd.R k51 51 wc w.heap.size (fun k_ => some k_ ≠ (v10 : Value).ownBlock) u7 x7_11) ∧ Aside0 (Kd.R k51 51 wc w.heap.size (fun k_ => some k_ ≠ (u7 : Value).ownBlock) v10 x10_33) ∧ Aside0 (wc.heap[0]? = some (.cells #[.bool false, .bool true] tg0 (0, 0))) ∧ Aside0 (Below w.heap.size w wc)) (u_ 10) wc_) ?rest8 ?first8); (case' rest8 => (intro u_ wc hcut; dsimp only [fg_, List.toList_toArray] at hcut ⊢; generalize u_ 10 = u10 at hcut ⊢)); (case' first8 => (intro _ _ _ _))
        case first8 =>
         have H := HC34.1; clear HC34; obtain ⟨t532, A350, H⟩ := obs_ H; replace H : (lw_BookmatchProofs.j8 kj23 x7_11 x8_11 t532) = some r := H; have A35 := ak A350; clear A350; have H' := ak H; clear H; (iterate 2 ((try go_quiet (first | (go_at_call 28; (with_reducible refine (rf_Proof.calls kj23 _ _ l0 t532 _ ?side1 ?side2 A35.1).mono ?_); (case side1 => repeat (first | exact (Kd.C_below HR0.1 HB.1) | (with_reducible refine Kd.C_alloc ?_ _) | (with_reducible refine Kd.C_drewN ?_ _) | (with_reducible refine Kd.C_drew ?_))); (case side2 => exact HC0.1); rintro e w36 ⟨v533, rfl, ho0, hb⟩; have HO534 := ak (Kd.R_lower (Kd.R_new' ho0 (Kd.R_lt (rk_ HO_7))) (below_size (hb_ HB))); replace HO_7 := ak (Kd.R_elder' (rk_ HO_7) (Kd.R_base ho0) hb); replace BK24 := bg0 (t := tg0) (bk_ BK24) hb; replace HB := hs_ HB hb; (try clear hb); (try clear hb2); (try clear hk); (try clear hi); (try clear ho0)))); go_wp2_with (first | (go_at_call 28; (with_reducible refine (rf_Proof.calls kj23 _ _ l0 t532 _ ?side1 ?side2 A35.1).mono ?_); (case side1 => repeat (first | exact (Kd.C_below HR0.1 HB.1) | (with_reducible refine Kd.C_alloc ?_ _) | (with_reducible refine Kd.C_drewN ?_ _) | (with_reducible refine Kd.C_drew ?_))); (case side2 => exact HC0.1); rintro e w36 ⟨v533, rfl, ho0, hb⟩; have HO534 := ak (Kd.R_lower (Kd.R_new' ho0 (Kd.R_lt (rk_ HO_7))) (below_size (hb_ HB))); replace HO_7 := ak (Kd.R_elder' (rk_ HO_7) (Kd.R_base ho0) hb); replace BK24 := bg0 (t := tg0) (bk_ BK24) hb; replace HB := hs_ HB hb; (try clear hb); (try clear hb2); (try clear hk); (try clear hi); (try clear ho0))))); refine Met.intro ?_; (go_step); refine meetU_ ?rel
         case rel => exact ⟨_, (t532), H', ⟨by have := HJ4.1; have := HJ7.1; have := HJ11.1; have := HJ14.1; have := HJ19.1; have := HJ21.1; have := HJ23.1; first | omega | exact Nat.le_refl _⟩, ⟨by (with_reducible repeat (first | apply Kd.R_alloc | apply Kd.R_drewN | apply Kd.R_drew)); exact Kd.R_mono HO_7.1 (fun _ hk => hk.2)⟩, ⟨by (with_reducible repeat (first | apply Kd.R_alloc | apply Kd.R_drewN | apply Kd.R_drew)); exact Kd.R_mono HO534.1 (fun _ hk => hk.2)⟩, ⟨bk_ BK24⟩, ⟨hb_ HB⟩⟩
        clear HC34; (try clear c2); (try clear p2); (try clear c6); (try clear c7); (try clear c9); (try clear c21); (try clear c25); (try clear c25b0); (try clear c25b1); (try clear c28); (try clear c29); (try clear c29b0); (try clear c29b1); (try clear p2); obtain ⟨kq, x10_33, HA, HJ33, HO_7, HO_10, BK24, HB⟩ := hcut
        cases kq with
        | zero => exact absurd HA.1 (by simp [lw_BookmatchProofs.j8])
        | succ kj33 =>
         have H := HA.1; clear HA; simp only [lw_BookmatchProofs.j8] at H; have HC37 := ak H; clear H; (go_upto_region 10 with (fail)); (repeat (go_quiet (fail); go_upto_region 10 with (fail))); (refine cutU_ [none, none, none, none, none, none, none, none, none, none, none, none, some 12, some 13, some 14, some 15, some 16, some 17, some 18, some 19, some 20, some 21, some 22, some 23, some 24, some 25, some 26, some 27, some 28, some 29, some 30, some 31, some 32, some 33, some 34, some 35, some 36, some 37, some 38, some 39, some 40, some 41, some 42, some 43, some 44, some 45, some 46, some 47, some 48, some 49, some 50, some 51, some 52, some 53, some 54, some 55, some 56, some 57, some 58, some 59, some 60, some 61, some 62, some 63, some 64, some 65, some 66, some 67, some 68, some 69, some 70, some 71, some 72, some 73, some 74, some 75, some 76, some 77, some 78, some 79, some 80, some 81, some 82, some 83, some 84, some 85, some 86, some 87, some 88, some 89, some 90, some 91] (fun u_ wc_ => (fun v60 wc => ∃ (kq : Nat) (x60_36 : Bool), v60 = .bool x60_36 ∧ Aside0 (lw_BookmatchProofs.j9 kq x7_11 x10_33 x60_36 = some r) ∧ Aside0 (kq ≤ kj33) ∧ Aside0 (Kd.R k51 51 wc w.heap.size (fun k_ => some k_ ≠ (u10 : Value).ownBlock) u7 x7_11) ∧ Aside0 (Kd.R k51 51 wc w.heap.size (fun k_ => some k_ ≠ (u7 : Value).ownBlock) u10 x10_33) ∧ Aside0 (wc.heap[0]? = some (.cells #[.bool false, .bool true] tg0 (0, 0))) ∧ Aside0 (Below w.heap.size w wc)) (u_ 60) wc_) ?rest9 ?first9); (case' rest9 => (intro u_ wc hcut; dsimp only [fg_, List.toList_toArray] at hcut ⊢; generalize u_ 60 = u60 at hcut ⊢)); (case' first9 => (intro _ _ _ _))
         case first9 =>
          have H := HC37.1; clear HC37; (by_cases c38 : x8_11 = 0)
          ·rw [if_pos c38] at H
           have c38b0 := beq_iff_eq.mpr c38; have c38b1 := bne_eq_false_iff_eq.mpr c38; clear c38; ((first | rw [c38b0] | (simp only [i64_w, i32_w]; rw [c38b0]) | skip)); have H' := ak H; clear H; obtain ⟨Ao39, co39, eo39⟩ := Kd.R_slice HO_7.1; subst eo39; obtain ⟨Ao40, co40, eo40⟩ := Kd.R_slice HO_10.1; subst eo40; (go_wp2); (repeat (go_quiet (fail); try go_wp2)); refine Met.intro ?_; (go_step); refine meetU_ ?rel
           case rel => exact ⟨_, (((x7_11.length : Int) != (x10_33.length : Int))), (by first | rfl | (simp; done) | (simp [*]; done)), H', ⟨by have := HJ4.1; have := HJ7.1; have := HJ11.1; have := HJ14.1; have := HJ19.1; have := HJ21.1; have := HJ23.1; have := HJ33.1; first | omega | exact Nat.le_refl _⟩, ⟨by (with_reducible repeat (first | apply Kd.R_alloc | apply Kd.R_drewN | apply Kd.R_drew)); exact HO_7.1⟩, ⟨by (with_reducible repeat (first | apply Kd.R_alloc | apply Kd.R_drewN | apply Kd.R_drew)); exact HO_10.1⟩, ⟨bk_ BK24⟩, ⟨hb_ HB⟩⟩
          rw [if_neg c38] at H
          have c38b0 := beq_eq_false_iff_ne.mpr c38; have c38b1 := bne_iff_ne.mpr c38; ((first | rw [c38b0] | (simp only [i64_w, i32_w]; rw [c38b0]) | skip)); have H' := ak H; clear H; (go_wp2); (repeat (go_quiet (fail); try go_wp2)); refine Met.intro ?_; (go_step); refine meetU_ ?rel
          case rel => exact ⟨_, (true), (by first | rfl | (simp; done) | (simp [*]; done)), H', ⟨by have := HJ4.1; have := HJ7.1; have := HJ11.1; have := HJ14.1; have := HJ19.1; have := HJ21.1; have := HJ23.1; have := HJ33.1; first | omega | exact Nat.le_refl _⟩, ⟨by (with_reducible repeat (first | apply Kd.R_alloc | apply Kd.R_drewN | apply Kd.R_drew)); exact HO_7.1⟩, ⟨by (with_reducible repeat (first | apply Kd.R_alloc | apply Kd.R_drewN | apply Kd.R_drew)); exact HO_10.1⟩, ⟨bk_ BK24⟩, ⟨hb_ HB⟩⟩
         clear HC37; (try clear c2); (try clear p2); (try clear c3); (try clear c6); (try clear c7); (try clear c9); (try clear c21); (try clear c25); (try clear c25b0); (try clear c25b1); (try clear c28); (try clear c29); (try clear c29b0); (try clear c29b1); (try clear c38); (try clear c38b0); (try clear c38b1); (try clear p2); obtain ⟨kq, x60_36, rfl, HA, HJ36, HO_7, HO_10, BK24, HB⟩ := hcut
         cases kq with
         | zero => exact absurd HA.1 (by simp [lw_BookmatchProofs.j9])
         | succ kj36 =>
          have H := HA.1; clear HA; simp only [lw_BookmatchProofs.j9] at H; have HC41 := ak H; clear H; (go_upto_if 60 with (fail)); (repeat (go_quiet (fail); go_upto_if 60 with (fail))); (refine cutU_ [none, none, none, none, none, none, some 6, none, none, none, none, none, some 12, some 13, some 14, some 15, some 16, some 17, some 18, some 19, some 20, some 21, some 22, some 23, some 24, some 25, some 26, some 27, some 28, some 29, some 30, some 31, some 32, some 33, some 34, some 35, some 36, some 37, some 38, some 39, some 40, some 41, some 42, some 43, some 44, some 45, some 46, some 47, some 48, some 49, some 50, some 51, some 52, some 53, some 54, some 55, some 56, some 57, some 58, some 59, some 60, some 61, some 62, some 63, some 64, some 65, some 66, some 67, some 68, some 69, some 70, some 71, some 72, some 73, some 74, some 75, some 76, some 77, some 78, some 79, some 80, some 81, some 82, some 83, some 84, some 85, some 86, some 87, some 88, some 89, some 90, some 91] (fun u_ wc_ => (fun wc => ∃ (kq : Nat), Aside0 (lw_BookmatchProofs.j10 kq x7_11 x10_33 = some r) ∧ Aside0 (kq ≤ kj36) ∧ Aside0 (Kd.R k51 51 wc w.heap.size (fun k_ => some k_ ≠ (u10 : Value).ownBlock) u7 x7_11) ∧ Aside0 (Kd.R k51 51 wc w.heap.size (fun k_ => some k_ ≠ (u7 : Value).ownBlock) u10 x10_33) ∧ Aside0 (wc.heap[0]? = some (.cells #[.bool false, .bool true] tg0 (0, 0))) ∧ Aside0 (Below w.heap.size w wc))  wc_) ?rest10 ?first10); (case' rest10 => (intro u_ wc hcut; dsimp only [fg_, List.toList_toArray] at hcut ⊢)); (case' first10 => (intro _ _ _ _))
          case first10 =>
           have H := HC41.1; clear HC41; (by_cases c42 : x60_36 = true)
           ·subst c42; (replace H : (some false) = some r := by rw [if_pos rfl] at H; exact H); obtain rfl := Option.some.inj H; (go_wp2); (repeat (go_quiet (fail); try go_wp2)); (go_ret); (exact ⟨by first | rfl | (simp [errW_none, errW_some] <;> rfl) | (simp [*, errW_none, errW_some] <;> rfl), hb_ HB⟩)
           replace c42 := Bool.eq_false_iff.mpr c42
           subst c42; (replace H : (lw_BookmatchProofs.j10 kj36 x7_11 x10_33) = some r := by rw [if_neg (show ¬ (false = true) by decide)] at H; exact H); have H' := ak H; clear H; (go_wp2); (repeat (go_quiet (fail); try go_wp2)); refine Met.intro ?_; (go_step); refine meetU_ ?rel
           case rel => exact ⟨_, H', ⟨by have := HJ4.1; have := HJ7.1; have := HJ11.1; have := HJ14.1; have := HJ19.1; have := HJ21.1; have := HJ23.1; have := HJ33.1; have := HJ36.1; first | omega | exact Nat.le_refl _⟩, ⟨by (with_reducible repeat (first | apply Kd.R_alloc | apply Kd.R_drewN | apply Kd.R_drew)); exact HO_7.1⟩, ⟨by (with_reducible repeat (first | apply Kd.R_alloc | apply Kd.R_drewN | apply Kd.R_drew)); exact HO_10.1⟩, ⟨bk_ BK24⟩, ⟨hb_ HB⟩⟩
          clear HC41; (try clear c2); (try clear p2); (try clear c3); (try clear c4); (try clear c6); (try clear c7); (try clear c9); (try clear c21); (try clear c25); (try clear c25b0); (try clear c25b1); (try clear c28); (try clear c29); (try clear c29b0); (try clear c29b1); (try clear c38); (try clear c38b0); (try clear c38b1); (try clear c42); (try clear p2); obtain ⟨kq, HA, HJ40, HO_7, HO_10, BK24, HB⟩ := hcut
          cases kq with
          | zero => exact absurd HA.1 (by simp [lw_BookmatchProofs.j10])
          | succ kj40 =>
           have H := HA.1; clear HA; simp only [lw_BookmatchProofs.j10] at H; have H' := ak H; clear H; (go_wp2); (repeat (go_quiet (fail); try go_wp2)); (go_loopg [11] kj40 (fun kq v11 w' => ∃ (x11_11 : Int), v11 = .int .i64 x11_11 ∧ Aside0 (lw_BookmatchProofs.l0 kq x7_11 x10_33 x11_11 = some r) ∧ Aside0 (kq ≤ kj40) ∧ Aside0 (Kd.R k51 51 w' w.heap.size (fun k_ => some k_ ≠ (u10 : Value).ownBlock) u7 x7_11) ∧ Aside0 (Kd.R k51 51 w' w.heap.size (fun k_ => some k_ ≠ (u7 : Value).ownBlock) u10 x10_33) ∧ Aside0 (w'.heap[0]? = some (.cells #[.bool false, .bool true] tg0 (0, 0))) ∧ Aside0 (Below w.heap.size w w')))
           case atStart => exact ⟨(0), (by first | rfl | (simp; done) | (simp [*]; done)), H', ⟨Nat.le_refl _⟩, ⟨by (with_reducible repeat (first | apply Kd.R_alloc | apply Kd.R_drewN | apply Kd.R_drew)); exact HO_7.1⟩, ⟨by (with_reducible repeat (first | apply Kd.R_alloc | apply Kd.R_drewN | apply Kd.R_drew)); exact HO_10.1⟩, ⟨bk_ BK24⟩, ⟨hb_ HB⟩⟩
           clear H'; (try clear c2); (try clear p2); (try clear c3); (try clear c4); (try clear c6); (try clear c7); (try clear c9); (try clear c21); (try clear c25); (try clear c25b0); (try clear c25b1); (try clear c28); (try clear c29); (try clear c29b0); (try clear c29b1); (try clear c38); (try clear c38b0); (try clear c38b1); (try clear c42); (try clear p2); obtain ⟨x11_11, rfl, HA, HK11, HO_7, HO_10, BK24, HB⟩ := hrel
           cases gk with
           | zero => exact absurd HA.1 (by simp [lw_BookmatchProofs.l0])
           | succ k11 =>
            have H := HA.1; clear HA; simp only [lw_BookmatchProofs.l0] at H; have HC43 := ak H; clear H; obtain ⟨Ao44, co44, eo44⟩ := Kd.R_slice HO_7.1; subst eo44; (go_upto_if 64 with (fail)); (repeat (go_quiet (fail); go_upto_if 64 with (fail))); (refine cutU_ [none, none, none, none, none, none, none, none, none, none, none, none, none, none, none, none, none, none, none, none, none, none, none, none, none, none, none, none, none, none, none, none, none, none, none, none, none, none, none, none, none, none, none, none, none, none, none, none, none, none, none, none, none, none, none, none, none, none, none, none, none, some 61, some 62, some 63, some 64, some 65, some 66, some 67, some 68, some 69, some 70, some 71, some 72, some 73, some 74, some 75, some 76, some 77, some 78, some 79, some 80, some 81, some 82, some 83, some 84, some 85, some 86, some 87, some 88, some 89, some 90, none] (fun u_ wc_ => (fun wc => ∃ (kq : Nat), Aside0 (lw_BookmatchProofs.j12 kq x7_11 x10_33 x11_11 = some r) ∧ Aside0 (kq ≤ k11) ∧ Aside0 (Kd.R k51 51 wc w.heap.size (fun k_ => some k_ ≠ (u10 : Value).ownBlock) (.slice Ao44 x7_11.length co44) x7_11) ∧ Aside0 (Kd.R k51 51 wc w.heap.size (fun k_ => some k_ ≠ ((.slice Ao44 x7_11.length co44) : Value).ownBlock) u10 x10_33) ∧ Aside0 (wc.heap[0]? = some (.cells #[.bool false, .bool true] tg0 (0, 0))) ∧ Aside0 (Below w.heap.size w wc))  wc_) ?rest11 ?first11); (case' rest11 => (intro u_ wc hcut; dsimp only [fg_, List.toList_toArray] at hcut ⊢)); (case' first11 => (intro _ _ _ _))
            case first11 =>
             have H := HC43.1; clear HC43; (by_cases c45 : x11_11 < (x7_11.length : Int))
             ·rw [if_pos c45] at H
              have c45b0 := decide_eq_true c45; clear c45; ((first | rw [c45b0] | (simp only [i64_w, i32_w]; rw [c45b0]) | skip)); have H' := ak H; clear H; (go_wp2); (repeat (go_quiet (fail); try go_wp2)); refine Met.intro ?_; (go_step); refine meetU_ ?rel
              case rel => exact ⟨_, H', ⟨by have := HJ4.1; have := HJ7.1; have := HJ11.1; have := HJ14.1; have := HJ19.1; have := HJ21.1; have := HJ23.1; have := HJ33.1; have := HJ36.1; have := HJ40.1; have := HK11.1; first | omega | exact Nat.le_refl _⟩, ⟨by (with_reducible repeat (first | apply Kd.R_alloc | apply Kd.R_drewN | apply Kd.R_drew)); exact HO_7.1⟩, ⟨by (with_reducible repeat (first | apply Kd.R_alloc | apply Kd.R_drewN | apply Kd.R_drew)); exact HO_10.1⟩, ⟨bk_ BK24⟩, ⟨hb_ HB⟩⟩
             rw [if_neg c45] at H; have c45b0 := decide_eq_false c45; clear c45; ((first | rw [c45b0] | (simp only [i64_w, i32_w]; rw [c45b0]) | skip)); obtain ⟨t539, A460, H⟩ := obs_ H; replace H : (some t539) = some r := H; have A46 := ak A460; clear A460; obtain rfl := Option.some.inj H; (iterate 2 ((try go_quiet (first | (go_at_call 12; (with_reducible refine (lw_awake.calls k11 tg0 t539 _ ?side1 A46.1).mono ?_); (case side1 => exact (bk_ BK24)); rintro e w47 ⟨rfl, hb⟩; replace HO_7 := rb_ HO_7 hb; replace HO_10 := rb_ HO_10 hb; replace BK24 := bg0 (t := tg0) (bk_ BK24) hb; replace HB := hs_ HB hb; (try clear hb); (try clear hb2); (try clear hk); (try clear hi)))); go_wp2_with (first | (go_at_call 12; (with_reducible refine (lw_awake.calls k11 tg0 t539 _ ?side1 A46.1).mono ?_); (case side1 => exact (bk_ BK24)); rintro e w47 ⟨rfl, hb⟩; replace HO_7 := rb_ HO_7 hb; replace HO_10 := rb_ HO_10 hb; replace BK24 := bg0 (t := tg0) (bk_ BK24) hb; replace HB := hs_ HB hb; (try clear hb); (try clear hb2); (try clear hk); (try clear hi))))); (go_ret); (exact ⟨by first | rfl | (simp [errW_none, errW_some] <;> rfl) | (simp [*, errW_none, errW_some] <;> rfl), hb_ HB⟩)
            clear HC43; (try clear c2); (try clear p2); (try clear c3); (try clear c4); (try clear c6); (try clear c7); (try clear c9); (try clear c21); (try clear c25); (try clear c25b0); (try clear c25b1); (try clear c28); (try clear c29); (try clear c29b0); (try clear c29b1); (try clear c38); (try clear c38b0); (try clear c38b1); (try clear c42); (try clear c45); (try clear c45b0); (try clear p2); obtain ⟨kq, HA, HJ42, HO_7, HO_10, BK24, HB⟩ := hcut
            cases kq with
            | zero => exact absurd HA.1 (by simp [lw_BookmatchProofs.j12])
            | succ kj42 =>
             have H := HA.1; clear HA; simp only [lw_BookmatchProofs.j12] at H; have HC48 := ak H; clear H; (go_upto_region 15 with (fail)); (repeat (go_quiet (fail); go_upto_region 15 with (fail))); (refine cutU_ [none, none, none, none, none, none, none, none, none, none, none, none, none, none, none, none, none, none, none, none, none, none, none, none, none, none, none, none, none, none, none, none, none, none, none, none, none, none, none, none, none, none, none, none, none, none, none, none, none, none, none, none, none, none, none, none, none, none, none, none, none, some 61, some 62, some 63, some 64, some 65, some 66, some 67, some 68, some 69, some 70, some 71, some 72, some 73, some 74, some 75, some 76, some 77, some 78, some 79, some 80, some 81, some 82, some 83, some 84, some 85, some 86, some 87, some 88, some 89, some 90, none] (fun u_ wc_ => (fun v90 wc => ∃ (kq : Nat) (x90_47 : Bool), v90 = .bool x90_47 ∧ Aside0 (lw_BookmatchProofs.j13 kq x7_11 x10_33 x11_11 x90_47 = some r) ∧ Aside0 (kq ≤ kj42) ∧ Aside0 (Kd.R k51 51 wc w.heap.size (fun k_ => some k_ ≠ (u10 : Value).ownBlock) (.slice Ao44 x7_11.length co44) x7_11) ∧ Aside0 (Kd.R k51 51 wc w.heap.size (fun k_ => some k_ ≠ ((.slice Ao44 x7_11.length co44) : Value).ownBlock) u10 x10_33) ∧ Aside0 (wc.heap[0]? = some (.cells #[.bool false, .bool true] tg0 (0, 0))) ∧ Aside0 (Below w.heap.size w wc)) (u_ 90) wc_) ?rest12 ?first12); (case' rest12 => (intro u_ wc hcut; dsimp only [fg_, List.toList_toArray] at hcut ⊢; generalize u_ 90 = u90 at hcut ⊢)); (case' first12 => (intro _ _ _ _))
             case first12 =>
              have H := HC48.1; clear HC48; (by_cases c49 : 0 ≤ x11_11)
              ·rw [if_pos c49] at H
               have c49b0 := decide_eq_true c49; clear c49; ((first | rw [c49b0] | (simp only [i64_w, i32_w]; rw [c49b0]) | skip)); (by_cases c50 : x11_11 < (x7_11.length : Int))
               ·rw [if_pos c50] at H
                have c50b0 := decide_eq_true c50; clear c50; (by_cases c51 : x11_11 < (x10_33.length : Int))
                ·rw [if_pos c51] at H
                 have c51b0 := decide_eq_true c51; clear c51; (by_cases c52 : ((rd_T51 x7_11 x11_11).f0) = ((rd_T51 x10_33 x11_11).f0))
                 ·rw [if_pos c52] at H
                  have c52b0 := beq_iff_eq.mpr c52; have c52b1 := bne_eq_false_iff_eq.mpr c52; clear c52; have H' := ak H; clear H; (have p535 : 0 ≤ (x11_11 : Int) := of_decide_eq_true (by first | (with_reducible assumption) | assumption)); (have q535 : x11_11 < (x7_11.length : Int) := of_decide_eq_true (by first | (with_reducible assumption) | assumption)); obtain ⟨ad535, e535, hx535_0, hx535_1⟩ := at_T51 (Kd.R_reads' HO_7.1).2.2 x11_11 p535 q535; (cases e535); replace p535 := eq_true p535; replace q535 := eq_true q535; obtain ⟨Ao53, co53, eo53⟩ := Kd.R_slice HO_10.1; subst eo53; (have p536 : 0 ≤ (x11_11 : Int) := of_decide_eq_true (by first | (with_reducible assumption) | assumption)); (have q536 : x11_11 < (x10_33.length : Int) := of_decide_eq_true (by first | (with_reducible assumption) | assumption)); obtain ⟨ad536, e536, hx536_0, hx536_1⟩ := at_T51 (Kd.R_reads' HO_10.1).2.2 x11_11 p536 q536; (cases e536); replace p536 := eq_true p536; replace q536 := eq_true q536; (have p537 : 0 ≤ (x11_11 : Int) := of_decide_eq_true (by first | (with_reducible assumption) | assumption)); (have q537 : x11_11 < (x7_11.length : Int) := of_decide_eq_true (by first | (with_reducible assumption) | assumption)); obtain ⟨ad537, e537, hx537_0, hx537_1⟩ := at_T51 (Kd.R_reads' HO_7.1).2.2 x11_11 p537 q537; (obtain rfl : ad535 = ad537 := (by injection e537)); replace p537 := eq_true p537; replace q537 := eq_true q537; (have p538 : 0 ≤ (x11_11 : Int) := of_decide_eq_true (by first | (with_reducible assumption) | assumption)); (have q538 : x11_11 < (x10_33.length : Int) := of_decide_eq_true (by first | (with_reducible assumption) | assumption)); obtain ⟨ad538, e538, hx538_0, hx538_1⟩ := at_T51 (Kd.R_reads' HO_10.1).2.2 x11_11 p538 q538; (obtain rfl : ad536 = ad538 := (by injection e538)); replace p538 := eq_true p538; replace q538 := eq_true q538; (go_wp2); (repeat (go_quiet (fail); try go_wp2)); refine Met.intro ?_; (go_step); refine meetU_ ?rel
                  case rel => exact ⟨_, ((((rd_T51 x7_11 x11_11).f1) != ((rd_T51 x10_33 x11_11).f1))), (by first | rfl | (simp; done) | (simp [*]; done)), H', ⟨by have := HJ4.1; have := HJ7.1; have := HJ11.1; have := HJ14.1; have := HJ19.1; have := HJ21.1; have := HJ23.1; have := HJ33.1; have := HJ36.1; have := HJ40.1; have := HK11.1; have := HJ42.1; first | omega | exact Nat.le_refl _⟩, ⟨by (with_reducible repeat (first | apply Kd.R_alloc | apply Kd.R_drewN | apply Kd.R_drew)); exact HO_7.1⟩, ⟨by (with_reducible repeat (first | apply Kd.R_alloc | apply Kd.R_drewN | apply Kd.R_drew)); exact HO_10.1⟩, ⟨bk_ BK24⟩, ⟨hb_ HB⟩⟩
                 rw [if_neg c52] at H
                 have c52b0 := beq_eq_false_iff_ne.mpr c52; have c52b1 := bne_iff_ne.mpr c52; have H' := ak H; clear H; (have p535 : 0 ≤ (x11_11 : Int) := of_decide_eq_true (by first | (with_reducible assumption) | assumption)); (have q535 : x11_11 < (x7_11.length : Int) := of_decide_eq_true (by first | (with_reducible assumption) | assumption)); obtain ⟨ad535, e535, hx535_0, hx535_1⟩ := at_T51 (Kd.R_reads' HO_7.1).2.2 x11_11 p535 q535; (cases e535); replace p535 := eq_true p535; replace q535 := eq_true q535; obtain ⟨Ao54, co54, eo54⟩ := Kd.R_slice HO_10.1; subst eo54; (have p536 : 0 ≤ (x11_11 : Int) := of_decide_eq_true (by first | (with_reducible assumption) | assumption)); (have q536 : x11_11 < (x10_33.length : Int) := of_decide_eq_true (by first | (with_reducible assumption) | assumption)); obtain ⟨ad536, e536, hx536_0, hx536_1⟩ := at_T51 (Kd.R_reads' HO_10.1).2.2 x11_11 p536 q536; (cases e536); replace p536 := eq_true p536; replace q536 := eq_true q536; (go_wp2); (repeat (go_quiet (fail); try go_wp2)); refine Met.intro ?_; (go_step); refine meetU_ ?rel
                 case rel => exact ⟨_, (true), (by first | rfl | (simp; done) | (simp [*]; done)), H', ⟨by have := HJ4.1; have := HJ7.1; have := HJ11.1; have := HJ14.1; have := HJ19.1; have := HJ21.1; have := HJ23.1; have := HJ33.1; have := HJ36.1; have := HJ40.1; have := HK11.1; have := HJ42.1; first | omega | exact Nat.le_refl _⟩, ⟨by (with_reducible repeat (first | apply Kd.R_alloc | apply Kd.R_drewN | apply Kd.R_drew)); exact HO_7.1⟩, ⟨by (with_reducible repeat (first | apply Kd.R_alloc | apply Kd.R_drewN | apply Kd.R_drew)); exact HO_10.1⟩, ⟨bk_ BK24⟩, ⟨hb_ HB⟩⟩
                rw [if_neg c51] at H; (exact absurd H (by simp))
               rw [if_neg c50] at H; (exact absurd H (by simp))
              rw [if_neg c49] at H; (exact absurd H (by simp))
             clear HC48; (try clear c2); (try clear p2); (try clear c3); (try clear c4); (try clear c5); (try clear p5); (try clear q5); (try clear hx5); (try clear c6); (try clear c7); (try clear c9); (try clear c21); (try clear c25); (try clear c25b0); (try clear c25b1); (try clear c28); (try clear c29); (try clear c29b0); (try clear c29b1); (try clear c38); (try clear c38b0); (try clear c38b1); (try clear c42); (try clear c45); (try clear c45b0); (try clear c49); (try clear c49b0); (try clear c50); (try clear c50b0); (try clear c51); (try clear c51b0); (try clear c52); (try clear c52b0); (try clear c52b1); (try clear p53); (try clear q53); (try clear hx53); (try clear hx535_0); (try clear hx535_1); (try clear hx536_0); (try clear hx536_1); (try clear hx537_0); (try clear hx537_1); (try clear hx538_0); (try clear hx538_1); (try clear p2); (try clear p535); (try clear p536); (try clear p537); (try clear p538); (try clear q535); (try clear q536); (try clear q537); (try clear q538); obtain ⟨kq, x90_47, rfl, HA, HJ47, HO_7, HO_10, BK24, HB⟩ := hcut
             cases kq with
             | zero => exact absurd HA.1 (by simp [lw_BookmatchProofs.j13])
             | succ kj47 =>
              have H := HA.1; clear HA; simp only [lw_BookmatchProofs.j13] at H; (by_cases c55 : x90_47 = true)
              ·subst c55; (replace H : (some false) = some r := by rw [if_pos rfl] at H; exact H); obtain rfl := Option.some.inj H; (go_wp2); (repeat (go_quiet (fail); try go_wp2)); (go_ret); (exact ⟨by first | rfl | (simp [errW_none, errW_some] <;> rfl) | (simp [*, errW_none, errW_some] <;> rfl), hb_ HB⟩)
              replace c55 := Bool.eq_false_iff.mpr c55
              subst c55; (replace H : (lw_BookmatchProofs.l0 kj47 x7_11 x10_33 (wrap64 (x11_11 + 1))) = some r := by rw [if_neg (show ¬ (false = true) by decide)] at H; exact H); have H' := ak H; clear H; (go_wp2); (repeat (go_quiet (fail); try go_wp2)); (go_roundg kj47)
              case measure => have := HJ4.1; have := HJ7.1; have := HJ11.1; have := HJ14.1; have := HJ19.1; have := HJ21.1; have := HJ23.1; have := HJ33.1; have := HJ36.1; have := HJ40.1; have := HK11.1; have := HJ42.1; have := HJ47.1; omega
              case rel => exact ⟨(wrap64 (x11_11 + 1)), (by first | (simp only [i64_w, i32_w]; done) | (simp only [i64_w, i32_w]; rfl) | rfl | (simp; done) | (simp [*]; done)), H', ⟨by have := HJ4.1; have := HJ7.1; have := HJ11.1; have := HJ14.1; have := HJ19.1; have := HJ21.1; have := HJ23.1; have := HJ33.1; have := HJ36.1; have := HJ40.1; have := HK11.1; have := HJ42.1; have := HJ47.1; omega⟩, ⟨by (with_reducible repeat (first | apply Kd.R_alloc | apply Kd.R_drewN | apply Kd.R_drew)); exact HO_7.1⟩, ⟨by (with_reducible repeat (first | apply Kd.R_alloc | apply Kd.R_drewN | apply Kd.R_drew)); exact HO_10.1⟩, ⟨bk_ BK24⟩, ⟨hb_ HB⟩⟩

/-- THE ONE PURE STATEMENT of lw_BookmatchProofs. -/
def lw_BookmatchProofs.Pure : Prop := ∀ (l0 : List (S62)) (a1 : Int) (l2 : List (S51)), (gSl g62) l0 → (gInt .i64) a1 → (gSl g51) l2 → ∃ k, lw_BookmatchProofs.f k l0 a1 l2 = some true
theorem lw_BookmatchProofs.walk (P : lw_BookmatchProofs.Pure) (A0 : Option Addr) (c0 : Nat) (l0 : List (S62)) (a1 : Int) (A2 : Option Addr) (c2 : Nat) (l2 : List (S51)) (tg0 : TypeId) (w : World) (w0 : (gSl g62) l0) (w1 : (gInt .i64) a1) (w2 : (gSl g51) l2) (hr0 : Kd.C k62 w A0 l0.length l0) (hc0 : l0.length ≤ c0) (hr2 : Kd.C k51 w A2 l2.length l2) (hc2 : l2.length ≤ c2) (hb24 : w.heap[0]? = some (.cells #[.bool false, .bool true] tg0 (0, 0))) :
  Calls Tryd.prog 6 #[.slice A0 l0.length c0, .int .i64 a1, .slice A2 l2.length c2] w fun e w' => e = .returned (.bool true) ∧ Below w.heap.size w w' := by
 obtain ⟨k, h⟩ := P l0 a1 l2 w0 w1 w2
 refine (lw_BookmatchProofs.calls k _ _ l0 a1 _ _ l2 tg0 true w hr0 hc0 hr2 hc2 hb24 h).mono ?_
 rintro e w' ⟨rfl, hd⟩
 exact ⟨rfl, hd⟩

end Go.Proofs.YtglkcinmohjblaaDoor.XA
