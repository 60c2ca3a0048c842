-- written by xprint.py, this project's own program (wip/), over the words of print.sh
import Derived.Test.YtglkcinmohjblaaDoorXAx0
import Derived.Test.YtglkcinmohjblaaDoorXAx3
import Derived.Test.YtglkcinmohjblaaDoorXAx4
import Derived.Test.YtglkcinmohjblaaDoorXAx5
import Derived.Test.YtglkcinmohjblaaDoorXAx6
import Derived.Test.YtglkcinmohjblaaDoorXAx32
import Derived.Test.YtglkcinmohjblaaDoorXAx34
import Derived.Test.YtglkcinmohjblaaDoorXAx37
import Derived.Test.YtglkcinmohjblaaDoorXAx47
import Derived.Test.YtglkcinmohjblaaDoorXAx48
import Derived.Test.YtglkcinmohjblaaDoorFlat
namespace Go.Proofs.YtglkcinmohjblaaDoor.XA
open Go.Proofs.YtglkcinmohjblaaDoor.Flat Go.RowKit Go.Proofs.YtglkcinmohjblaaDoor.Opens Go.Proofs.YtglkcinmohjblaaDoorW.PrintWords Go.Proofs.YtglkcinmohjblaaDoorW.PrintLast Go.Proofs.YtglkcinmohjblaaDoorW.PrintMore
attribute [local go_sem] max2_int min2_int max_two min_two max_three min_three max_four min_four cell_some cell_same   -- for this text's walks alone
set_option linter.unusedVariables false
set_option linter.unusedSimpArgs false

/-! ### lw_BookmatchBest: function 3 -/
mutual
def lw_BookmatchBest.j0 : Nat → List (S62) → Int → Bool → Option (Bool)
 | 0, _, _, _ => none
 | k + 1, x0, x1, x12 => if x12 = true then ((lw_awake.f k).bind fun t579 => (some t579)) else (lw_BookmatchBest.j1 k x0 x1)
def lw_BookmatchBest.j1 : Nat → List (S62) → Int → Option (Bool)
 | 0, _, _ => none
 | k + 1, x0, x1 => (bookmatch_Best.f k x0 x1).bind fun bt580 => (lw_BookmatchBest.j2 k x0 x1 bt580.1 bt580.2.1 bt580.2.2)
def lw_BookmatchBest.j2 : Nat → List (S62) → Int → List (S39) → Int → Int → Option (Bool)
 | 0, _, _, _, _, _ => none
 | k + 1, x0, x1, x5, x6, x7 => (rf_Check.f k x0).bind fun t585 => (lw_BookmatchBest.j3 k x0 x1 x5 x6 x7 t585)
def lw_BookmatchBest.j3 : Nat → List (S62) → Int → List (S39) → Int → Int → Int → Option (Bool)
 | 0, _, _, _, _, _, _ => none
 | k + 1, x0, x1, x5, x6, x7, x8 => if x8 = 0 then (if x1 < 1 then (lw_BookmatchBest.j4 k x0 x1 x5 x6 x7 x8 true) else (lw_BookmatchBest.j4 k x0 x1 x5 x6 x7 x8 (decide (x1 > (x0.length : Int))))) else (lw_BookmatchBest.j4 k x0 x1 x5 x6 x7 x8 false)
def lw_BookmatchBest.j4 : Nat → List (S62) → Int → List (S39) → Int → Int → Int → Bool → Option (Bool)
 | 0, _, _, _, _, _, _, _ => none
 | k + 1, x0, x1, x5, x6, x7, x8, x34 => if x34 = true then (lw_BookmatchBest.j5 k x0 x1 x5 x6 x7 1) else (lw_BookmatchBest.j5 k x0 x1 x5 x6 x7 x8)
def lw_BookmatchBest.j5 : Nat → List (S62) → Int → List (S39) → Int → Int → Int → Option (Bool)
 | 0, _, _, _, _, _, _ => none
 | k + 1, x0, x1, x5, x6, x7, x8 => if x8 = 0 then (lw_BookmatchBest.j7 k x0 x1 x5 x6 x7) else ((lw_awake.f k).bind fun t586 => (if t586 = true then (if x7 = x8 then (if (x5.length : Int) = 0 then (lw_BookmatchBest.j6 k (x6 == 0)) else (lw_BookmatchBest.j6 k false)) else (lw_BookmatchBest.j6 k false)) else (lw_BookmatchBest.j6 k false)))
def lw_BookmatchBest.j7 : Nat → List (S62) → Int → List (S39) → Int → Int → Option (Bool)
 | 0, _, _, _, _, _ => none
 | k + 1, x0, x1, x5, x6, x7 => (rf_Best.f k x0 x1).bind fun t587 => (lw_BookmatchBest.j8 k x0 x5 x6 x7 t587)
def lw_BookmatchBest.j8 : Nat → List (S62) → List (S39) → Int → Int → List (S68) → Option (Bool)
 | 0, _, _, _, _, _ => none
 | k + 1, x0, x5, x6, x7, x9 => (lw_awake.f k).bind fun t590 => (if t590 = true then (if x7 = 0 then ((lw_theirs.f k x5).bind fun t591 => ((rf_Same.f k t591 x9).bind fun t594 => (if t594 = true then ((rf_Cost.f k x0 x9).bind fun t595 => (lw_BookmatchBest.j9 k (x6 == t595))) else (lw_BookmatchBest.j9 k false)))) else (lw_BookmatchBest.j9 k false)) else (lw_BookmatchBest.j9 k false))
def lw_BookmatchBest.j9 : Nat → Bool → Option (Bool)
 | 0, _ => none
 | k + 1, x4 => some x4
def lw_BookmatchBest.j6 : Nat → Bool → Option (Bool)
 | 0, _ => none
 | k + 1, x4 => some x4
end
def lw_BookmatchBest.f (k : Nat) (l0 : List (S62)) (a1 : Int)  : Option (Bool) := (rf_Few.f k l0 16).bind fun t578 => (lw_BookmatchBest.j0 k l0 a1 (!t578))
theorem lw_BookmatchBest.mono_l : ∀ k, (∀ y0 y1 y2, LeO (lw_BookmatchBest.j0 k y0 y1 y2) (lw_BookmatchBest.j0 (k + 1) y0 y1 y2)) ∧ (∀ y0 y1, LeO (lw_BookmatchBest.j1 k y0 y1) (lw_BookmatchBest.j1 (k + 1) y0 y1)) ∧ (∀ y0 y1 y2 y3 y4, LeO (lw_BookmatchBest.j2 k y0 y1 y2 y3 y4) (lw_BookmatchBest.j2 (k + 1) y0 y1 y2 y3 y4)) ∧ (∀ y0 y1 y2 y3 y4 y5, LeO (lw_BookmatchBest.j3 k y0 y1 y2 y3 y4 y5) (lw_BookmatchBest.j3 (k + 1) y0 y1 y2 y3 y4 y5)) ∧ (∀ y0 y1 y2 y3 y4 y5 y6, LeO (lw_BookmatchBest.j4 k y0 y1 y2 y3 y4 y5 y6) (lw_BookmatchBest.j4 (k + 1) y0 y1 y2 y3 y4 y5 y6)) ∧ (∀ y0 y1 y2 y3 y4 y5, LeO (lw_BookmatchBest.j5 k y0 y1 y2 y3 y4 y5) (lw_BookmatchBest.j5 (k + 1) y0 y1 y2 y3 y4 y5)) ∧ (∀ y0 y1 y2 y3 y4, LeO (lw_BookmatchBest.j7 k y0 y1 y2 y3 y4) (lw_BookmatchBest.j7 (k + 1) y0 y1 y2 y3 y4)) ∧ (∀ y0 y1 y2 y3 y4, LeO (lw_BookmatchBest.j8 k y0 y1 y2 y3 y4) (lw_BookmatchBest.j8 (k + 1) y0 y1 y2 y3 y4)) ∧ (∀ y0, LeO (lw_BookmatchBest.j9 k y0) (lw_BookmatchBest.j9 (k + 1) y0)) ∧ (∀ y0, LeO (lw_BookmatchBest.j6 k y0) (lw_BookmatchBest.j6 (k + 1) y0))
 | 0 => ⟨fun _ _ _ r h => by simp [lw_BookmatchBest.j0] at h, fun _ _ r h => by simp [lw_BookmatchBest.j1] at h, fun _ _ _ _ _ r h => by simp [lw_BookmatchBest.j2] at h, fun _ _ _ _ _ _ r h => by simp [lw_BookmatchBest.j3] at h, fun _ _ _ _ _ _ _ r h => by simp [lw_BookmatchBest.j4] at h, fun _ _ _ _ _ _ r h => by simp [lw_BookmatchBest.j5] at h, fun _ _ _ _ _ r h => by simp [lw_BookmatchBest.j7] at h, fun _ _ _ _ _ r h => by simp [lw_BookmatchBest.j8] at h, fun _ r h => by simp [lw_BookmatchBest.j9] at h, fun _ r h => by simp [lw_BookmatchBest.j6] at h⟩
 | k + 1 => by
  obtain ⟨ih0, ih1, ih2, ih3, ih4, ih5, ih6, ih7, ih8, ih9⟩ := lw_BookmatchBest.mono_l k; refine ⟨?_, ?_, ?_, ?_, ?_, ?_, ?_, ?_, ?_, ?_⟩; (all_goals (intros; (first | unfold lw_BookmatchBest.j0 | unfold lw_BookmatchBest.j1 | unfold lw_BookmatchBest.j2 | unfold lw_BookmatchBest.j3 | unfold lw_BookmatchBest.j4 | unfold lw_BookmatchBest.j5 | unfold lw_BookmatchBest.j7 | unfold lw_BookmatchBest.j8 | unfold lw_BookmatchBest.j9 | unfold lw_BookmatchBest.j6)))
  all_goals (repeat' first
   | (with_reducible exact ih1 _ _)
   | (with_reducible exact ih2 _ _ _ _ _)
   | (with_reducible exact ih3 _ _ _ _ _ _)
   | (with_reducible exact ih4 _ _ _ _ _ _ _)
   | (with_reducible exact ih5 _ _ _ _ _ _)
   | (with_reducible exact ih6 _ _ _ _ _)
   | (with_reducible exact ih7 _ _ _ _ _)
   | (with_reducible exact ih8 _)
   | (with_reducible exact ih9 _)
   | (with_reducible exact bookmatch_Best.mono _ _ _)
   | (with_reducible exact lw_awake.mono _)
   | (with_reducible exact lw_theirs.mono _ _)
   | (with_reducible exact rf_Best.mono _ _ _)
   | (with_reducible exact rf_Check.mono _ _)
   | (with_reducible exact rf_Cost.mono _ _ _)
   | (with_reducible exact rf_Same.mono _ _ _)
   | (with_reducible exact LeO.refl _)
   | (with_reducible refine LeO.ite ?_ ?_)
   | (with_reducible refine LeO.bind ?_ (fun _ => ?_))
   )
theorem lw_BookmatchBest.mono : ∀ a0 a1 k, LeO (lw_BookmatchBest.f k a0 a1) (lw_BookmatchBest.f (k + 1) a0 a1) := by
 intro a0 a1 k
 obtain ⟨ih0, ih1, ih2, ih3, ih4, ih5, ih6, ih7, ih8, ih9⟩ := lw_BookmatchBest.mono_l k
 unfold lw_BookmatchBest.f
 repeat' first
   | (with_reducible exact ih0 _ _ _)
   | (with_reducible exact rf_Few.mono _ _ _)
   | (with_reducible refine LeO.bind ?_ (fun _ => ?_))
   
set_option maxHeartbeats 8000000 in
set_option maxRecDepth 100000 in
theorem lw_BookmatchBest.calls (k : Nat) (A0 : Option Addr) (c0 : Nat) (l0 : List (S62)) (a1 : Int) (tg0 : TypeId) (r : Bool) (w : World) (hr0 : Kd.C k62 w A0 l0.length l0) (hc0 : l0.length ≤ c0) (hb16 : w.heap[0]? = some (.cells #[.bool false, .bool true] tg0 (0, 0))) (h : lw_BookmatchBest.f k l0 a1 = some r) :
  Calls Tryd.prog 3 #[.slice A0 l0.length c0, .int .i64 a1] w fun e w' => e = .returned (.bool r) ∧ Below w.heap.size w w' := by
 have HR0 := ak hr0
 have HC0 := ak hc0
 clear hr0 hc0
 have GL16 := blk_lt hb16
 have BK16 := ak hb16
 clear hb16
 have HB := ak (Below.refl w.heap.size w)
 have H : ((rf_Few.f k l0 16).bind fun t578 => (lw_BookmatchBest.j0 k l0 a1 (!t578))) = some r := h
 clear h
 have HC4 := ak H
 clear H
 go_enter Tryd.func3, Tryd.ntmps3
 go_upto_region 1 with (fail)
 refine cutU_ [none, none, none, none, none, none, none, none, none, none, some 10, some 11, some 12, some 13, some 14, some 15, some 16, some 17, some 18, some 19, some 20, some 21, some 22, some 23, some 24, some 25, some 26, some 27, some 28, some 29, some 30, some 31, some 32, some 33, some 34, some 35, some 36, some 37, some 38, some 39, some 40, some 41, some 42, some 43, some 44, some 45, some 46, some 47, some 48, some 49, some 50, some 51, some 52, some 53, some 54, some 55, some 56, some 57, some 58, some 59, some 60, some 61, some 62, some 63, some 64, some 65, some 66, some 67, some 68, some 69, some 70, some 71, some 72] (fun u_ wc_ => (fun v12 wc => ∃ (kq : Nat) (x12_3 : Bool), v12 = .bool x12_3 ∧ Aside0 (lw_BookmatchBest.j0 kq l0 a1 x12_3 = some r) ∧ Aside0 (kq ≤ k) ∧ Aside0 (wc.heap[0]? = some (.cells #[.bool false, .bool true] tg0 (0, 0))) ∧ Aside0 (Below w.heap.size w wc)) (u_ 12) wc_) ?rest0 ?first0
 case' rest0 => (intro u_ wc hcut; dsimp only [fg_, List.toList_toArray] at hcut ⊢; generalize u_ 12 = u12 at hcut ⊢)
 case' first0 => (intro _ _ _ _)
 case first0 =>
  have H := HC4.1; clear HC4; replace H := Option.bind_eq_some_iff.mp H; obtain ⟨t578, A50, H⟩ := H; replace H : (lw_BookmatchBest.j0 k l0 a1 (!t578)) = some r := H; have A5 := ak A50; clear A50; have H' := ak H; clear H; (go_wp2_with (first | ((with_reducible refine gate_callee (f := 11) rfl ?_); refine goesL_ (some 11) rfl rfl Tryd.func11 (by kernel_rfl) rfl #[.slice A0 l0.length c0, .int .i64 16] rfl am_ ?_; (with_reducible refine (rf_Few.calls k _ _ l0 16 t578 _ ?side1 ?side2 A5.1).mono ?_); (case side1 => exact (Kd.C_below HR0.1 HB.1)); (case side2 => exact HC0.1); rintro e w' ⟨rfl, ⟨nd, rfl⟩⟩; refine ⟨_, rfl, ?_⟩))); refine Met.intro ?_; (go_step); refine meetU_ ?rel
  case rel => exact ⟨_, (!t578), (by rfl), H', ⟨by omega⟩, ⟨bk_ BK16⟩, ⟨hb_ HB⟩⟩
 clear HC4; obtain ⟨kq, x12_3, rfl, HA, HJ3, BK16, HB⟩ := hcut
 cases kq with
 | zero => exact absurd HA.1 (by simp [lw_BookmatchBest.j0])
 | succ kj3 =>
  have H := HA.1; clear HA; simp only [lw_BookmatchBest.j0] at H; have HC6 := ak H; clear H; (go_upto_if 12 with (fail)); (refine cutU_ [none, none, none, none, some 4, none, none, none, none, none, some 10, some 11, some 12, some 13, some 14, some 15, some 16, some 17, some 18, some 19, some 20, some 21, some 22, some 23, some 24, some 25, some 26, some 27, some 28, some 29, some 30, some 31, some 32, some 33, some 34, some 35, some 36, some 37, some 38, some 39, some 40, some 41, some 42, some 43, some 44, some 45, some 46, some 47, some 48, some 49, some 50, some 51, some 52, some 53, some 54, some 55, some 56, some 57, some 58, some 59, some 60, some 61, some 62, some 63, some 64, some 65, some 66, some 67, some 68, some 69, some 70, some 71, some 72] (fun u_ wc_ => (fun wc => ∃ (kq : Nat), Aside0 (lw_BookmatchBest.j1 kq l0 a1 = some r) ∧ Aside0 (kq ≤ kj3) ∧ Aside0 (wc.heap[0]? = some (.cells #[.bool false, .bool true] tg0 (0, 0))) ∧ Aside0 (Below w.heap.size w wc))  wc_) ?rest1 ?first1); (case' rest1 => (intro u_ wc hcut; dsimp only [fg_, List.toList_toArray] at hcut ⊢)); (case' first1 => (intro _ _ _ _))
  case first1 =>
   have H := HC6.1; clear HC6; (by_cases c7 : x12_3 = true)
   ·subst c7; (have H1 : ((lw_awake.f kj3).bind fun t579 => (some t579)) = some r := by rw [if_pos rfl] at H; exact H); clear H; have H := H1; clear H1; replace H := Option.bind_eq_some_iff.mp H; obtain ⟨t579, A80, H⟩ := H; replace H : (some t579) = some r := H; have A8 := ak A80; clear A80; obtain rfl := Option.some.inj H; (go_wp2_with (first | ((with_reducible refine gate_callee (f := 12) rfl ?_); refine goesL_ (some 13) rfl rfl Tryd.func12 (by kernel_rfl) rfl #[] rfl am_ ?_; (with_reducible refine (lw_awake.calls kj3 tg0 t579 _ ?side1 A8.1).mono ?_); (case side1 => exact (bk_ BK16)); rintro e w9 ⟨rfl, hb⟩; refine ⟨_, rfl, ?_⟩; replace BK16 := ak (blk_below (g := 0) (o := .cells #[.bool false, .bool true] tg0 (0, 0)) (bk_ BK16) hb); replace HB := hs_ HB hb; (try clear hb)))); (go_ret); (exact ⟨by rfl, hb_ HB⟩)
   replace c7 := Bool.eq_false_iff.mpr c7
   subst c7; (have H1 : (lw_BookmatchBest.j1 kj3 l0 a1) = some r := by rw [if_neg (show ¬ (false = true) by decide)] at H; exact H); clear H; have H := H1; clear H1; have H' := ak H; clear H; (go_wp2); refine Met.intro ?_; (go_step); refine meetU_ ?rel
   case rel => exact ⟨_, H', ⟨by have := HJ3.1; omega⟩, ⟨bk_ BK16⟩, ⟨hb_ HB⟩⟩
  clear HC6; obtain ⟨kq, HA, HJ5, BK16, HB⟩ := hcut
  cases kq with
  | zero => exact absurd HA.1 (by simp [lw_BookmatchBest.j1])
  | succ kj5 =>
   have H := HA.1; clear HA; simp only [lw_BookmatchBest.j1] at H; have HC10 := ak H; clear H; (go_upto_region 3 with (fail)); (refine cutU_ [none, none, none, none, none, some 5, some 6, some 7, none, none, some 10, some 11, some 12, some 13, some 14, some 15, some 16, some 17, some 18, some 19, some 20, some 21, some 22, some 23, some 24, some 25, some 26, some 27, some 28, some 29, some 30, some 31, some 32, some 33, some 34, some 35, some 36, some 37, some 38, some 39, some 40, some 41, some 42, some 43, some 44, some 45, some 46, some 47, some 48, some 49, some 50, some 51, some 52, some 53, some 54, some 55, some 56, some 57, some 58, some 59, some 60, some 61, some 62, some 63, some 64, some 65, some 66, some 67, some 68, some 69, some 70, some 71, some 72] (fun u_ wc_ => (fun v5 v6 v7 wc => ∃ (kq : Nat) (x5_9 : List (S39)) (x6_9 : Int) (x7_9 : Int), v6 = .int .i64 x6_9 ∧ v7 = .int .i64 x7_9 ∧ Aside0 (lw_BookmatchBest.j2 kq l0 a1 x5_9 x6_9 x7_9 = some r) ∧ Aside0 (kq ≤ kj5) ∧ Aside0 (Kd.R k39 39 wc w.heap.size (fun _ => True) v5 x5_9) ∧ Aside0 (wc.heap[0]? = some (.cells #[.bool false, .bool true] tg0 (0, 0))) ∧ Aside0 (Below w.heap.size w wc)) (u_ 5) (u_ 6) (u_ 7) wc_) ?rest2 ?first2); (case' rest2 => (intro u_ wc hcut; dsimp only [fg_, List.toList_toArray] at hcut ⊢; generalize u_ 5 = u5 at hcut ⊢; generalize u_ 6 = u6 at hcut ⊢; generalize u_ 7 = u7 at hcut ⊢)); (case' first2 => (intro _ _ _ _))
   case first2 =>
    have H := HC10.1; clear HC10; replace H := Option.bind_eq_some_iff.mp H; obtain ⟨⟨t580, t581, t582⟩, A110, H⟩ := H; replace H : (lw_BookmatchBest.j2 kj5 l0 a1 t580 t581 t582) = some r := H; have A11 := ak A110; clear A110; have H' := ak H; clear H; (go_wp2_with (first | ((with_reducible refine gate_callee (f := 13) rfl ?_); refine goesL_ (some 17) rfl rfl Tryd.func13 (by kernel_rfl) rfl #[.slice A0 l0.length c0, .int .i64 a1] rfl am_ ?_; (with_reducible refine (bookmatch_Best.calls kj5 _ _ l0 a1 tg0 t580 t581 t582 _ ?side1 ?side2 ?side3 A11.1).mono ?_); (case side1 => exact (Kd.C_below HR0.1 HB.1)); (case side2 => exact HC0.1); (case side3 => exact (bk_ BK16)); rintro e w12 ⟨v583, rfl, ho0, hb⟩; refine ⟨_, rfl, ?_⟩; have HO584 := ak (Kd.R_lower ho0 (below_size (hb_ HB))); replace BK16 := ak (blk_below (g := 0) (o := .cells #[.bool false, .bool true] tg0 (0, 0)) (bk_ BK16) hb); replace HB := hs_ HB hb; (try clear hb); (try clear ho0)))); refine Met.intro ?_; (go_step); refine meetU_ ?rel
    case rel => exact ⟨_, (t580), (t581), (t582), (by rfl), (by rfl), H', ⟨by have := HJ3.1; have := HJ5.1; omega⟩, ⟨by exact HO584.1⟩, ⟨bk_ BK16⟩, ⟨hb_ HB⟩⟩
   clear HC10; obtain ⟨kq, x5_9, x6_9, x7_9, rfl, rfl, HA, HJ9, HO_5, BK16, HB⟩ := hcut
   cases kq with
   | zero => exact absurd HA.1 (by simp [lw_BookmatchBest.j2])
   | succ kj9 =>
    have H := HA.1; clear HA; simp only [lw_BookmatchBest.j2] at H; have HC13 := ak H; clear H; (go_upto_region 4 with (fail)); (refine cutU_ [none, none, none, none, none, none, none, none, some 8, none, some 10, some 11, some 12, some 13, some 14, some 15, some 16, some 17, some 18, some 19, some 20, some 21, some 22, some 23, some 24, some 25, some 26, some 27, some 28, some 29, some 30, some 31, some 32, some 33, some 34, some 35, some 36, some 37, some 38, some 39, some 40, some 41, some 42, some 43, some 44, some 45, some 46, some 47, some 48, some 49, some 50, some 51, some 52, some 53, some 54, some 55, some 56, some 57, some 58, some 59, some 60, some 61, some 62, some 63, some 64, some 65, some 66, some 67, some 68, some 69, some 70, some 71, some 72] (fun u_ wc_ => (fun v8 wc => ∃ (kq : Nat) (x8_12 : Int), v8 = .int .i64 x8_12 ∧ Aside0 (lw_BookmatchBest.j3 kq l0 a1 x5_9 x6_9 x7_9 x8_12 = some r) ∧ Aside0 (kq ≤ kj9) ∧ Aside0 (Kd.R k39 39 wc w.heap.size (fun _ => True) u5 x5_9) ∧ Aside0 (wc.heap[0]? = some (.cells #[.bool false, .bool true] tg0 (0, 0))) ∧ Aside0 (Below w.heap.size w wc)) (u_ 8) wc_) ?rest3 ?first3); (case' rest3 => (intro u_ wc hcut; dsimp only [fg_, List.toList_toArray] at hcut ⊢; generalize u_ 8 = u8 at hcut ⊢)); (case' first3 => (intro _ _ _ _))
    case first3 =>
     have H := HC13.1; clear HC13; replace H := Option.bind_eq_some_iff.mp H; obtain ⟨t585, A140, H⟩ := H; replace H : (lw_BookmatchBest.j3 kj9 l0 a1 x5_9 x6_9 x7_9 t585) = some r := H; have A14 := ak A140; clear A140; have H' := ak H; clear H; (go_wp2_with (first | ((with_reducible refine gate_callee (f := 14) rfl ?_); refine goesL_ (some 22) rfl rfl Tryd.func14 (by kernel_rfl) rfl #[.slice A0 l0.length c0] rfl am_ ?_; (with_reducible refine (rf_Check.calls kj9 _ _ l0 t585 _ ?side1 ?side2 A14.1).mono ?_); (case side1 => exact (Kd.C_below HR0.1 HB.1)); (case side2 => exact HC0.1); rintro e w' ⟨rfl, ⟨nd, rfl⟩⟩; refine ⟨_, rfl, ?_⟩))); refine Met.intro ?_; (go_step); refine meetU_ ?rel
     case rel => exact ⟨_, (t585), (by rfl), H', ⟨by have := HJ3.1; have := HJ5.1; have := HJ9.1; omega⟩, ⟨by (with_reducible repeat (apply Kd.R_drewN)); exact HO_5.1⟩, ⟨bk_ BK16⟩, ⟨hb_ HB⟩⟩
    clear HC13; obtain ⟨kq, x8_12, rfl, HA, HJ12, HO_5, BK16, HB⟩ := hcut
    cases kq with
    | zero => exact absurd HA.1 (by simp [lw_BookmatchBest.j3])
    | succ kj12 =>
     have H := HA.1; clear HA; simp only [lw_BookmatchBest.j3] at H; have HC15 := ak H; clear H; (go_upto_region 5 with (fail)); (refine cutU_ [none, none, none, none, none, none, none, none, none, none, some 10, some 11, some 12, some 13, some 14, some 15, some 16, some 17, some 18, some 19, some 20, some 21, some 22, some 23, some 24, some 25, some 26, some 27, some 28, some 29, some 30, some 31, some 32, some 33, some 34, some 35, some 36, some 37, some 38, some 39, some 40, some 41, some 42, some 43, some 44, some 45, some 46, some 47, some 48, some 49, some 50, some 51, some 52, some 53, some 54, some 55, some 56, some 57, some 58, some 59, some 60, some 61, some 62, some 63, some 64, some 65, some 66, some 67, some 68, some 69, some 70, some 71, some 72] (fun u_ wc_ => (fun v34 wc => ∃ (kq : Nat) (x34_14 : Bool), v34 = .bool x34_14 ∧ Aside0 (lw_BookmatchBest.j4 kq l0 a1 x5_9 x6_9 x7_9 x8_12 x34_14 = some r) ∧ Aside0 (kq ≤ kj12) ∧ Aside0 (Kd.R k39 39 wc w.heap.size (fun _ => True) u5 x5_9) ∧ Aside0 (wc.heap[0]? = some (.cells #[.bool false, .bool true] tg0 (0, 0))) ∧ Aside0 (Below w.heap.size w wc)) (u_ 34) wc_) ?rest4 ?first4); (case' rest4 => (intro u_ wc hcut; dsimp only [fg_, List.toList_toArray] at hcut ⊢; generalize u_ 34 = u34 at hcut ⊢)); (case' first4 => (intro _ _ _ _))
     case first4 =>
      have H := HC15.1; clear HC15; (by_cases c16 : x8_12 = 0)
      ·rw [if_pos c16] at H
       have c16b0 := beq_iff_eq.mpr c16; have c16b1 := bne_eq_false_iff_eq.mpr c16; clear c16; (by_cases c17 : a1 < 1)
       ·rw [if_pos c17] at H
        have c17b0 := decide_eq_true c17; clear c17; have H' := ak H; clear H; (go_wp2); refine Met.intro ?_; (go_step); refine meetU_ ?rel
        case rel => exact ⟨_, (true), (by rfl), H', ⟨by have := HJ3.1; have := HJ5.1; have := HJ9.1; have := HJ12.1; omega⟩, ⟨by exact HO_5.1⟩, ⟨bk_ BK16⟩, ⟨hb_ HB⟩⟩
       rw [if_neg c17] at H
       have c17b0 := decide_eq_false c17; clear c17; have H' := ak H; clear H; (go_wp2); refine Met.intro ?_; (go_step); refine meetU_ ?rel
       case rel => exact ⟨_, (decide (a1 > (l0.length : Int))), (by rfl), H', ⟨by have := HJ3.1; have := HJ5.1; have := HJ9.1; have := HJ12.1; omega⟩, ⟨by exact HO_5.1⟩, ⟨bk_ BK16⟩, ⟨hb_ HB⟩⟩
      rw [if_neg c16] at H
      have c16b0 := beq_eq_false_iff_ne.mpr c16; have c16b1 := bne_iff_ne.mpr c16; have H' := ak H; clear H; (go_wp2); refine Met.intro ?_; (go_step); refine meetU_ ?rel
      case rel => exact ⟨_, (false), (by rfl), H', ⟨by have := HJ3.1; have := HJ5.1; have := HJ9.1; have := HJ12.1; omega⟩, ⟨by exact HO_5.1⟩, ⟨bk_ BK16⟩, ⟨hb_ HB⟩⟩
     clear HC15; obtain ⟨kq, x34_14, rfl, HA, HJ14, HO_5, BK16, HB⟩ := hcut
     cases kq with
     | zero => exact absurd HA.1 (by simp [lw_BookmatchBest.j4])
     | succ kj14 =>
      have H := HA.1; clear HA; simp only [lw_BookmatchBest.j4] at H; have HC18 := ak H; clear H; (go_upto_if 34 with (fail)); (refine cutU_ [none, none, none, none, none, none, none, none, some 8, none, some 10, some 11, some 12, some 13, some 14, some 15, some 16, some 17, some 18, some 19, some 20, some 21, some 22, some 23, some 24, some 25, some 26, some 27, some 28, some 29, some 30, some 31, some 32, some 33, some 34, some 35, some 36, some 37, some 38, some 39, some 40, some 41, some 42, some 43, some 44, some 45, some 46, some 47, some 48, some 49, some 50, some 51, some 52, some 53, some 54, some 55, some 56, some 57, some 58, some 59, some 60, some 61, some 62, some 63, some 64, some 65, some 66, some 67, some 68, some 69, some 70, some 71, some 72] (fun u_ wc_ => (fun v8 wc => ∃ (kq : Nat) (x8_17 : Int), v8 = .int .i64 x8_17 ∧ Aside0 (lw_BookmatchBest.j5 kq l0 a1 x5_9 x6_9 x7_9 x8_17 = some r) ∧ Aside0 (kq ≤ kj14) ∧ Aside0 (Kd.R k39 39 wc w.heap.size (fun _ => True) u5 x5_9) ∧ Aside0 (wc.heap[0]? = some (.cells #[.bool false, .bool true] tg0 (0, 0))) ∧ Aside0 (Below w.heap.size w wc)) (u_ 8) wc_) ?rest5 ?first5); (case' rest5 => (intro u_ wc hcut; dsimp only [fg_, List.toList_toArray] at hcut ⊢; generalize u_ 8 = u8 at hcut ⊢)); (case' first5 => (intro _ _ _ _))
      case first5 =>
       have H := HC18.1; clear HC18; (by_cases c19 : x34_14 = true)
       ·subst c19
        (have H1 : (lw_BookmatchBest.j5 kj14 l0 a1 x5_9 x6_9 x7_9 1) = some r := by rw [if_pos rfl] at H; exact H); clear H; have H := H1; clear H1; have H' := ak H; clear H; (go_wp2); refine Met.intro ?_; (go_step); refine meetU_ ?rel
        case rel => exact ⟨_, (1), (by rfl), H', ⟨by have := HJ3.1; have := HJ5.1; have := HJ9.1; have := HJ12.1; have := HJ14.1; omega⟩, ⟨by exact HO_5.1⟩, ⟨bk_ BK16⟩, ⟨hb_ HB⟩⟩
       replace c19 := Bool.eq_false_iff.mpr c19
       subst c19; (have H1 : (lw_BookmatchBest.j5 kj14 l0 a1 x5_9 x6_9 x7_9 x8_12) = some r := by rw [if_neg (show ¬ (false = true) by decide)] at H; exact H); clear H; have H := H1; clear H1; have H' := ak H; clear H; (go_wp2); refine Met.intro ?_; (go_step); refine meetU_ ?rel
       case rel => exact ⟨_, (x8_12), (by rfl), H', ⟨by have := HJ3.1; have := HJ5.1; have := HJ9.1; have := HJ12.1; have := HJ14.1; omega⟩, ⟨by exact HO_5.1⟩, ⟨bk_ BK16⟩, ⟨hb_ HB⟩⟩
      clear HC18; obtain ⟨kq, x8_17, rfl, HA, HJ17, HO_5, BK16, HB⟩ := hcut
      cases kq with
      | zero => exact absurd HA.1 (by simp [lw_BookmatchBest.j5])
      | succ kj17 =>
       have H := HA.1; clear HA; simp only [lw_BookmatchBest.j5] at H; have HC20 := ak H; clear H; (go_upto_if 36 with (fail)); (refine cutU_ [none, none, none, none, some 4, none, none, none, none, none, some 10, some 11, some 12, some 13, some 14, some 15, some 16, some 17, some 18, some 19, some 20, some 21, some 22, some 23, some 24, some 25, some 26, some 27, some 28, some 29, some 30, some 31, some 32, some 33, some 34, some 35, some 36, some 37, some 38, some 39, some 40, some 41, some 42, some 43, some 44, some 45, some 46, some 47, some 48, some 49, some 50, some 51, some 52, some 53, some 54, some 55, some 56, some 57, some 58, some 59, some 60, some 61, some 62, some 63, some 64, some 65, some 66, some 67, some 68, some 69, some 70, some 71, some 72] (fun u_ wc_ => (fun wc => ∃ (kq : Nat), Aside0 (lw_BookmatchBest.j7 kq l0 a1 x5_9 x6_9 x7_9 = some r) ∧ Aside0 (kq ≤ kj17) ∧ Aside0 (Kd.R k39 39 wc w.heap.size (fun _ => True) u5 x5_9) ∧ Aside0 (wc.heap[0]? = some (.cells #[.bool false, .bool true] tg0 (0, 0))) ∧ Aside0 (Below w.heap.size w wc))  wc_) ?rest6 ?first6); (case' rest6 => (intro u_ wc hcut; dsimp only [fg_, List.toList_toArray] at hcut ⊢)); (case' first6 => (intro _ _ _ _))
       case first6 =>
        have H := HC20.1; clear HC20; (by_cases c21 : x8_17 = 0)
        ·rw [if_pos c21] at H
         have c21b0 := beq_iff_eq.mpr c21; have c21b1 := bne_eq_false_iff_eq.mpr c21; clear c21; have H' := ak H; clear H; (go_wp2); refine Met.intro ?_; (go_step); refine meetU_ ?rel
         case rel => exact ⟨_, H', ⟨by have := HJ3.1; have := HJ5.1; have := HJ9.1; have := HJ12.1; have := HJ14.1; have := HJ17.1; omega⟩, ⟨by exact HO_5.1⟩, ⟨bk_ BK16⟩, ⟨hb_ HB⟩⟩
        rw [if_neg c21] at H
        have c21b0 := beq_eq_false_iff_ne.mpr c21; have c21b1 := bne_iff_ne.mpr c21; have HC22 := ak H; clear H; (go_upto_region 8 with (fail)); (refine cutU_ [none, none, none, none, some 4, none, none, none, none, none, some 10, some 11, some 12, some 13, some 14, some 15, some 16, some 17, some 18, some 19, some 20, some 21, some 22, some 23, some 24, some 25, some 26, some 27, some 28, some 29, some 30, some 31, some 32, some 33, some 34, some 35, some 36, some 37, some 38, some 39, some 40, some 41, some 42, some 43, some 44, some 45, some 46, some 47, some 48, some 49, some 50, some 51, some 52, some 53, some 54, some 55, some 56, some 57, some 58, some 59, some 60, some 61, some 62, some 63, some 64, some 65, some 66, some 67, some 68, some 69, some 70, some 71, some 72] (fun u_ wc_ => (fun v4 wc => ∃ (kq : Nat) (x4_21 : Bool), v4 = .bool x4_21 ∧ Aside0 (lw_BookmatchBest.j6 kq x4_21 = some r) ∧ Aside0 (kq ≤ kj17) ∧ Aside0 (wc.heap[0]? = some (.cells #[.bool false, .bool true] tg0 (0, 0))) ∧ Aside0 (Below w.heap.size w wc)) (u_ 4) wc_) ?rest7 ?first7); (case' rest7 => (intro u_ wc hcut; dsimp only [fg_, List.toList_toArray] at hcut ⊢; generalize u_ 4 = u4 at hcut ⊢)); (case' first7 => (intro _ _ _ _))
        case first7 =>
         have H := HC22.1; clear HC22; replace H := Option.bind_eq_some_iff.mp H; obtain ⟨t586, A230, H⟩ := H; (replace H : (if t586 = true then (if x7_9 = x8_17 then (if (x5_9.length : Int) = 0 then (lw_BookmatchBest.j6 kj17 (x6_9 == 0)) else (lw_BookmatchBest.j6 kj17 false)) else (lw_BookmatchBest.j6 kj17 false)) else (lw_BookmatchBest.j6 kj17 false)) = some r := H); have A23 := ak A230; clear A230; (by_cases c24 : t586 = true)
         ·subst c24
          (have H1 : (if x7_9 = x8_17 then (if (x5_9.length : Int) = 0 then (lw_BookmatchBest.j6 kj17 (x6_9 == 0)) else (lw_BookmatchBest.j6 kj17 false)) else (lw_BookmatchBest.j6 kj17 false)) = some r := by rw [if_pos rfl] at H; exact H); clear H; have H := H1; clear H1; (by_cases c25 : x7_9 = x8_17)
          ·rw [if_pos c25] at H
           have c25b0 := beq_iff_eq.mpr c25; have c25b1 := bne_eq_false_iff_eq.mpr c25; clear c25; (by_cases c26 : (x5_9.length : Int) = 0)
           ·rw [if_pos c26] at H
            have c26b0 := beq_iff_eq.mpr c26; have c26b1 := bne_eq_false_iff_eq.mpr c26; clear c26; have H' := ak H; clear H; (go_wp2_with (first | ((with_reducible refine gate_callee (f := 12) rfl ?_); refine goesL_ (some 37) rfl rfl Tryd.func12 (by kernel_rfl) rfl #[] rfl am_ ?_; (with_reducible refine (lw_awake.calls kj17 tg0 true _ ?side1 A23.1).mono ?_); (case side1 => exact (bk_ BK16)); rintro e w27 ⟨rfl, hb⟩; refine ⟨_, rfl, ?_⟩; replace HO_5 := rb_ HO_5 hb; replace BK16 := ak (blk_below (g := 0) (o := .cells #[.bool false, .bool true] tg0 (0, 0)) (bk_ BK16) hb); replace HB := hs_ HB hb; (try clear hb); obtain ⟨Ao28, co28, eo28⟩ := Kd.R_slice HO_5.1; subst eo28))); refine Met.intro ?_; (go_step); refine meetU_ ?rel
            case rel => exact ⟨_, ((x6_9 == 0)), (by rfl), H', ⟨by have := HJ3.1; have := HJ5.1; have := HJ9.1; have := HJ12.1; have := HJ14.1; have := HJ17.1; omega⟩, ⟨bk_ BK16⟩, ⟨hb_ HB⟩⟩
           rw [if_neg c26] at H
           have c26b0 := beq_eq_false_iff_ne.mpr c26; have c26b1 := bne_iff_ne.mpr c26; (have c26b2 : ¬ (x5_9 = []) := fun h_ => c26 (by rw [h_]; rfl)); have H' := ak H; clear H; (go_wp2_with (first | ((with_reducible refine gate_callee (f := 12) rfl ?_); refine goesL_ (some 37) rfl rfl Tryd.func12 (by kernel_rfl) rfl #[] rfl am_ ?_; (with_reducible refine (lw_awake.calls kj17 tg0 true _ ?side1 A23.1).mono ?_); (case side1 => exact (bk_ BK16)); rintro e w29 ⟨rfl, hb⟩; refine ⟨_, rfl, ?_⟩; replace HO_5 := rb_ HO_5 hb; replace BK16 := ak (blk_below (g := 0) (o := .cells #[.bool false, .bool true] tg0 (0, 0)) (bk_ BK16) hb); replace HB := hs_ HB hb; (try clear hb); obtain ⟨Ao30, co30, eo30⟩ := Kd.R_slice HO_5.1; subst eo30))); refine Met.intro ?_; (go_step); refine meetU_ ?rel
           case rel => exact ⟨_, (false), (by rfl), H', ⟨by have := HJ3.1; have := HJ5.1; have := HJ9.1; have := HJ12.1; have := HJ14.1; have := HJ17.1; omega⟩, ⟨bk_ BK16⟩, ⟨hb_ HB⟩⟩
          rw [if_neg c25] at H
          have c25b0 := beq_eq_false_iff_ne.mpr c25; have c25b1 := bne_iff_ne.mpr c25; have H' := ak H; clear H; (go_wp2_with (first | ((with_reducible refine gate_callee (f := 12) rfl ?_); refine goesL_ (some 37) rfl rfl Tryd.func12 (by kernel_rfl) rfl #[] rfl am_ ?_; (with_reducible refine (lw_awake.calls kj17 tg0 true _ ?side1 A23.1).mono ?_); (case side1 => exact (bk_ BK16)); rintro e w31 ⟨rfl, hb⟩; refine ⟨_, rfl, ?_⟩; replace HO_5 := rb_ HO_5 hb; replace BK16 := ak (blk_below (g := 0) (o := .cells #[.bool false, .bool true] tg0 (0, 0)) (bk_ BK16) hb); replace HB := hs_ HB hb; (try clear hb)))); refine Met.intro ?_; (go_step); refine meetU_ ?rel
          case rel => exact ⟨_, (false), (by rfl), H', ⟨by have := HJ3.1; have := HJ5.1; have := HJ9.1; have := HJ12.1; have := HJ14.1; have := HJ17.1; omega⟩, ⟨bk_ BK16⟩, ⟨hb_ HB⟩⟩
         replace c24 := Bool.eq_false_iff.mpr c24
         subst c24; (have H1 : (lw_BookmatchBest.j6 kj17 false) = some r := by rw [if_neg (show ¬ (false = true) by decide)] at H; exact H); clear H; have H := H1; clear H1; have H' := ak H; clear H; (go_wp2_with (first | ((with_reducible refine gate_callee (f := 12) rfl ?_); refine goesL_ (some 37) rfl rfl Tryd.func12 (by kernel_rfl) rfl #[] rfl am_ ?_; (with_reducible refine (lw_awake.calls kj17 tg0 false _ ?side1 A23.1).mono ?_); (case side1 => exact (bk_ BK16)); rintro e w32 ⟨rfl, hb⟩; refine ⟨_, rfl, ?_⟩; replace HO_5 := rb_ HO_5 hb; replace BK16 := ak (blk_below (g := 0) (o := .cells #[.bool false, .bool true] tg0 (0, 0)) (bk_ BK16) hb); replace HB := hs_ HB hb; (try clear hb)))); refine Met.intro ?_; (go_step); refine meetU_ ?rel
         case rel => exact ⟨_, (false), (by rfl), H', ⟨by have := HJ3.1; have := HJ5.1; have := HJ9.1; have := HJ12.1; have := HJ14.1; have := HJ17.1; omega⟩, ⟨bk_ BK16⟩, ⟨hb_ HB⟩⟩
        clear HC22; (try clear c21); (try clear c21b0); (try clear c21b1); obtain ⟨kq, x4_21, rfl, HA, HJ21, BK16, HB⟩ := hcut
        cases kq with
        | zero => exact absurd HA.1 (by simp [lw_BookmatchBest.j6])
        | succ kj21 =>
         have H := HA.1; clear HA; simp only [lw_BookmatchBest.j6] at H; obtain rfl := Option.some.inj H; (go_wp2); (go_ret); (exact ⟨by rfl, hb_ HB⟩)
       clear HC20; obtain ⟨kq, HA, HJ19, HO_5, BK16, HB⟩ := hcut
       cases kq with
       | zero => exact absurd HA.1 (by simp [lw_BookmatchBest.j7])
       | succ kj19 =>
        have H := HA.1; clear HA; simp only [lw_BookmatchBest.j7] at H; have HC33 := ak H; clear H; (go_upto_region 9 with (fail)); (refine cutU_ [none, none, none, none, none, none, none, none, none, some 9, some 10, some 11, some 12, some 13, some 14, some 15, some 16, some 17, some 18, some 19, some 20, some 21, some 22, some 23, some 24, some 25, some 26, some 27, some 28, some 29, some 30, some 31, some 32, some 33, some 34, some 35, some 36, some 37, some 38, some 39, some 40, some 41, some 42, some 43, some 44, some 45, some 46, some 47, some 48, some 49, some 50, some 51, some 52, some 53, some 54, some 55, some 56, some 57, some 58, some 59, some 60, some 61, some 62, some 63, some 64, some 65, some 66, some 67, some 68, some 69, some 70, some 71, some 72] (fun u_ wc_ => (fun v9 wc => ∃ (kq : Nat) (x9_32 : List (S68)), Aside0 (lw_BookmatchBest.j8 kq l0 x5_9 x6_9 x7_9 x9_32 = some r) ∧ Aside0 (kq ≤ kj19) ∧ Aside0 (Kd.R k39 39 wc w.heap.size (fun _ => True) u5 x5_9) ∧ Aside0 (Kd.R k68 68 wc w.heap.size (fun _ => True) v9 x9_32) ∧ Aside0 (wc.heap[0]? = some (.cells #[.bool false, .bool true] tg0 (0, 0))) ∧ Aside0 (Below w.heap.size w wc)) (u_ 9) wc_) ?rest8 ?first8); (case' rest8 => (intro u_ wc hcut; dsimp only [fg_, List.toList_toArray] at hcut ⊢; generalize u_ 9 = u9 at hcut ⊢)); (case' first8 => (intro _ _ _ _))
        case first8 =>
         have H := HC33.1; clear HC33; replace H := Option.bind_eq_some_iff.mp H; obtain ⟨t587, A340, H⟩ := H; replace H : (lw_BookmatchBest.j8 kj19 l0 x5_9 x6_9 x7_9 t587) = some r := H; have A34 := ak A340; clear A340; have H' := ak H; clear H; (go_wp2_with (first | ((with_reducible refine gate_callee (f := 15) rfl ?_); refine goesL_ (some 54) rfl rfl Tryd.func15 (by kernel_rfl) rfl #[.slice A0 l0.length c0, .int .i64 a1] rfl am_ ?_; (with_reducible refine (rf_Best.calls kj19 _ _ l0 a1 t587 _ ?side1 ?side2 A34.1).mono ?_); (case side1 => exact (Kd.C_below HR0.1 HB.1)); (case side2 => exact HC0.1); rintro e w35 ⟨v588, rfl, ho0, hb⟩; refine ⟨_, rfl, ?_⟩; replace HO_5 := rb_ HO_5 hb; have HO589 := ak (Kd.R_lower ho0 (below_size (hb_ HB))); replace BK16 := ak (blk_below (g := 0) (o := .cells #[.bool false, .bool true] tg0 (0, 0)) (bk_ BK16) hb); replace HB := hs_ HB hb; (try clear hb); (try clear ho0)))); refine Met.intro ?_; (go_step); refine meetU_ ?rel
         case rel => exact ⟨_, (t587), H', ⟨by have := HJ3.1; have := HJ5.1; have := HJ9.1; have := HJ12.1; have := HJ14.1; have := HJ17.1; have := HJ19.1; omega⟩, ⟨by exact HO_5.1⟩, ⟨by exact HO589.1⟩, ⟨bk_ BK16⟩, ⟨hb_ HB⟩⟩
        clear HC33; obtain ⟨kq, x9_32, HA, HJ32, HO_5, HO_9, BK16, HB⟩ := hcut
        cases kq with
        | zero => exact absurd HA.1 (by simp [lw_BookmatchBest.j8])
        | succ kj32 =>
         have H := HA.1; clear HA; simp only [lw_BookmatchBest.j8] at H; have HC36 := ak H; clear H; (go_upto_region 10 with (fail)); (refine cutU_ [none, none, none, none, some 4, none, none, none, none, none, some 10, some 11, some 12, some 13, some 14, some 15, some 16, some 17, some 18, some 19, some 20, some 21, some 22, some 23, some 24, some 25, some 26, some 27, some 28, some 29, some 30, some 31, some 32, some 33, some 34, some 35, some 36, some 37, some 38, some 39, some 40, some 41, some 42, some 43, some 44, some 45, some 46, some 47, some 48, some 49, some 50, some 51, some 52, some 53, some 54, some 55, some 56, some 57, some 58, some 59, some 60, some 61, some 62, some 63, some 64, some 65, some 66, some 67, some 68, some 69, some 70, some 71, some 72] (fun u_ wc_ => (fun v4 wc => ∃ (kq : Nat) (x4_35 : Bool), v4 = .bool x4_35 ∧ Aside0 (lw_BookmatchBest.j9 kq x4_35 = some r) ∧ Aside0 (kq ≤ kj32) ∧ Aside0 (wc.heap[0]? = some (.cells #[.bool false, .bool true] tg0 (0, 0))) ∧ Aside0 (Below w.heap.size w wc)) (u_ 4) wc_) ?rest9 ?first9); (case' rest9 => (intro u_ wc hcut; dsimp only [fg_, List.toList_toArray] at hcut ⊢; generalize u_ 4 = u4 at hcut ⊢)); (case' first9 => (intro _ _ _ _))
         case first9 =>
          have H := HC36.1; clear HC36; replace H := Option.bind_eq_some_iff.mp H; obtain ⟨t590, A370, H⟩ := H; (replace H : (if t590 = true then (if x7_9 = 0 then ((lw_theirs.f kj32 x5_9).bind fun t591 => ((rf_Same.f kj32 t591 x9_32).bind fun t594 => (if t594 = true then ((rf_Cost.f kj32 l0 x9_32).bind fun t595 => (lw_BookmatchBest.j9 kj32 (x6_9 == t595))) else (lw_BookmatchBest.j9 kj32 false)))) else (lw_BookmatchBest.j9 kj32 false)) else (lw_BookmatchBest.j9 kj32 false)) = some r := H); have A37 := ak A370; clear A370; (by_cases c38 : t590 = true)
          ·subst c38
           (have H1 : (if x7_9 = 0 then ((lw_theirs.f kj32 x5_9).bind fun t591 => ((rf_Same.f kj32 t591 x9_32).bind fun t594 => (if t594 = true then ((rf_Cost.f kj32 l0 x9_32).bind fun t595 => (lw_BookmatchBest.j9 kj32 (x6_9 == t595))) else (lw_BookmatchBest.j9 kj32 false)))) else (lw_BookmatchBest.j9 kj32 false)) = some r := by rw [if_pos rfl] at H; exact H); clear H; have H := H1; clear H1; (by_cases c39 : x7_9 = 0)
           ·rw [if_pos c39] at H
            have c39b0 := beq_iff_eq.mpr c39; have c39b1 := bne_eq_false_iff_eq.mpr c39; clear c39; replace H := Option.bind_eq_some_iff.mp H; obtain ⟨t591, A400, H⟩ := H; (replace H : ((rf_Same.f kj32 t591 x9_32).bind fun t594 => (if t594 = true then ((rf_Cost.f kj32 l0 x9_32).bind fun t595 => (lw_BookmatchBest.j9 kj32 (x6_9 == t595))) else (lw_BookmatchBest.j9 kj32 false))) = some r := H); have A40 := ak A400; clear A400; replace H := Option.bind_eq_some_iff.mp H; obtain ⟨t594, A410, H⟩ := H; (replace H : (if t594 = true then ((rf_Cost.f kj32 l0 x9_32).bind fun t595 => (lw_BookmatchBest.j9 kj32 (x6_9 == t595))) else (lw_BookmatchBest.j9 kj32 false)) = some r := H); have A41 := ak A410; clear A410; (by_cases c42 : t594 = true)
            ·subst c42
             (have H1 : ((rf_Cost.f kj32 l0 x9_32).bind fun t595 => (lw_BookmatchBest.j9 kj32 (x6_9 == t595))) = some r := by rw [if_pos rfl] at H; exact H); clear H; have H := H1; clear H1; replace H := Option.bind_eq_some_iff.mp H; obtain ⟨t595, A430, H⟩ := H; replace H : (lw_BookmatchBest.j9 kj32 (x6_9 == t595)) = some r := H; have A43 := ak A430; clear A430; have H' := ak H; clear H; (go_wp2_with (first | ((with_reducible refine gate_callee (f := 12) rfl ?_); refine goesL_ (some 55) rfl rfl Tryd.func12 (by kernel_rfl) rfl #[] rfl am_ ?_; (with_reducible refine (lw_awake.calls kj32 tg0 true _ ?side1 A37.1).mono ?_); (case side1 => exact (bk_ BK16)); rintro e w44 ⟨rfl, hb⟩; refine ⟨_, rfl, ?_⟩; replace HO_5 := rb_ HO_5 hb; replace HO_9 := rb_ HO_9 hb; replace BK16 := ak (blk_below (g := 0) (o := .cells #[.bool false, .bool true] tg0 (0, 0)) (bk_ BK16) hb); replace HB := hs_ HB hb; (try clear hb); obtain ⟨Ao45, co45, eo45⟩ := Kd.R_slice HO_5.1; subst eo45) | (go_at_call 17; (with_reducible refine (lw_theirs.calls kj32 _ _ x5_9 t591 _ ?side1 ?side2 A40.1).mono ?_); (case side1 => exact (Kd.R_reads' HO_5.1).2.2); (case side2 => exact (Kd.R_reads' HO_5.1).2.1); rintro e w46 ⟨v592, rfl, ho0, hb⟩; replace HO_5 := rb_ HO_5 hb; have HO593 := ak (Kd.R_lower (Kd.R_new' ho0 (Kd.R_lt (rk_ HO_9))) (below_size (hb_ HB))); replace HO_9 := ak (Kd.R_elder' (rk_ HO_9) (Kd.R_base ho0) hb); replace BK16 := ak (blk_below (g := 0) (o := .cells #[.bool false, .bool true] tg0 (0, 0)) (bk_ BK16) hb); replace HB := hs_ HB hb; (try clear hb); (try clear ho0); obtain ⟨Ao47, co47, eo47⟩ := Kd.R_slice HO593.1; subst eo47; obtain ⟨Ao48, co48, eo48⟩ := Kd.R_slice HO_9.1; subst eo48) | (go_at_call 16; (with_reducible refine (rf_Same.calls kj32 _ _ t591 _ _ x9_32 true _ ?side1 ?side2 ?side3 ?side4 A41.1).mono ?_); (case side1 => exact (Kd.R_reads' HO593.1).2.2); (case side2 => exact (Kd.R_reads' HO593.1).2.1); (case side3 => exact (Kd.R_reads' HO_9.1).2.2); (case side4 => exact (Kd.R_reads' HO_9.1).2.1); rintro e w' ⟨rfl, ⟨nd, rfl⟩⟩) | (go_at_call 18; (with_reducible refine (rf_Cost.calls kj32 _ _ l0 _ _ x9_32 t595 _ ?side1 ?side2 ?side3 ?side4 A43.1).mono ?_); (case side1 => exact (Kd.C_below HR0.1 (hb_ HB))); (case side2 => exact HC0.1); (case side3 => exact (Kd.R_reads' HO_9.1).2.2); (case side4 => exact (Kd.R_reads' HO_9.1).2.1); rintro e w49 ⟨rfl, hb⟩; replace HO_5 := rb_ HO_5 hb; replace HO_9 := rb_ HO_9 hb; replace HO593 := rb_ HO593 hb; replace BK16 := ak (blk_below (g := 0) (o := .cells #[.bool false, .bool true] tg0 (0, 0)) (bk_ BK16) hb); replace HB := hs_ HB hb; (try clear hb))))
             refine Met.intro ?_; (go_step); refine meetU_ ?rel
             case rel => exact ⟨_, ((x6_9 == t595)), (by rfl), H', ⟨by have := HJ3.1; have := HJ5.1; have := HJ9.1; have := HJ12.1; have := HJ14.1; have := HJ17.1; have := HJ19.1; have := HJ32.1; omega⟩, ⟨bk_ BK16⟩, ⟨hb_ HB⟩⟩
            replace c42 := Bool.eq_false_iff.mpr c42
            subst c42; (have H1 : (lw_BookmatchBest.j9 kj32 false) = some r := by rw [if_neg (show ¬ (false = true) by decide)] at H; exact H); clear H; have H := H1; clear H1; have H' := ak H; clear H; (go_wp2_with (first | ((with_reducible refine gate_callee (f := 12) rfl ?_); refine goesL_ (some 55) rfl rfl Tryd.func12 (by kernel_rfl) rfl #[] rfl am_ ?_; (with_reducible refine (lw_awake.calls kj32 tg0 true _ ?side1 A37.1).mono ?_); (case side1 => exact (bk_ BK16)); rintro e w50 ⟨rfl, hb⟩; refine ⟨_, rfl, ?_⟩; replace HO_5 := rb_ HO_5 hb; replace HO_9 := rb_ HO_9 hb; replace BK16 := ak (blk_below (g := 0) (o := .cells #[.bool false, .bool true] tg0 (0, 0)) (bk_ BK16) hb); replace HB := hs_ HB hb; (try clear hb); obtain ⟨Ao51, co51, eo51⟩ := Kd.R_slice HO_5.1; subst eo51) | (go_at_call 17; (with_reducible refine (lw_theirs.calls kj32 _ _ x5_9 t591 _ ?side1 ?side2 A40.1).mono ?_); (case side1 => exact (Kd.R_reads' HO_5.1).2.2); (case side2 => exact (Kd.R_reads' HO_5.1).2.1); rintro e w52 ⟨v592, rfl, ho0, hb⟩; replace HO_5 := rb_ HO_5 hb; have HO593 := ak (Kd.R_lower (Kd.R_new' ho0 (Kd.R_lt (rk_ HO_9))) (below_size (hb_ HB))); replace HO_9 := ak (Kd.R_elder' (rk_ HO_9) (Kd.R_base ho0) hb); replace BK16 := ak (blk_below (g := 0) (o := .cells #[.bool false, .bool true] tg0 (0, 0)) (bk_ BK16) hb); replace HB := hs_ HB hb; (try clear hb); (try clear ho0); obtain ⟨Ao53, co53, eo53⟩ := Kd.R_slice HO593.1; subst eo53; obtain ⟨Ao54, co54, eo54⟩ := Kd.R_slice HO_9.1; subst eo54) | (go_at_call 16; (with_reducible refine (rf_Same.calls kj32 _ _ t591 _ _ x9_32 false _ ?side1 ?side2 ?side3 ?side4 A41.1).mono ?_); (case side1 => exact (Kd.R_reads' HO593.1).2.2); (case side2 => exact (Kd.R_reads' HO593.1).2.1); (case side3 => exact (Kd.R_reads' HO_9.1).2.2); (case side4 => exact (Kd.R_reads' HO_9.1).2.1); rintro e w' ⟨rfl, ⟨nd, rfl⟩⟩))); refine Met.intro ?_; (go_step); refine meetU_ ?rel
            case rel => exact ⟨_, (false), (by rfl), H', ⟨by have := HJ3.1; have := HJ5.1; have := HJ9.1; have := HJ12.1; have := HJ14.1; have := HJ17.1; have := HJ19.1; have := HJ32.1; omega⟩, ⟨bk_ BK16⟩, ⟨hb_ HB⟩⟩
           rw [if_neg c39] at H
           have c39b0 := beq_eq_false_iff_ne.mpr c39; have c39b1 := bne_iff_ne.mpr c39; have H' := ak H; clear H; (go_wp2_with (first | ((with_reducible refine gate_callee (f := 12) rfl ?_); refine goesL_ (some 55) rfl rfl Tryd.func12 (by kernel_rfl) rfl #[] rfl am_ ?_; (with_reducible refine (lw_awake.calls kj32 tg0 true _ ?side1 A37.1).mono ?_); (case side1 => exact (bk_ BK16)); rintro e w55 ⟨rfl, hb⟩; refine ⟨_, rfl, ?_⟩; replace HO_5 := rb_ HO_5 hb; replace HO_9 := rb_ HO_9 hb; replace BK16 := ak (blk_below (g := 0) (o := .cells #[.bool false, .bool true] tg0 (0, 0)) (bk_ BK16) hb); replace HB := hs_ HB hb; (try clear hb)))); refine Met.intro ?_; (go_step); refine meetU_ ?rel
           case rel => exact ⟨_, (false), (by rfl), H', ⟨by have := HJ3.1; have := HJ5.1; have := HJ9.1; have := HJ12.1; have := HJ14.1; have := HJ17.1; have := HJ19.1; have := HJ32.1; omega⟩, ⟨bk_ BK16⟩, ⟨hb_ HB⟩⟩
          replace c38 := Bool.eq_false_iff.mpr c38
          subst c38; (have H1 : (lw_BookmatchBest.j9 kj32 false) = some r := by rw [if_neg (show ¬ (false = true) by decide)] at H; exact H); clear H; have H := H1; clear H1; have H' := ak H; clear H; (go_wp2_with (first | ((with_reducible refine gate_callee (f := 12) rfl ?_); refine goesL_ (some 55) rfl rfl Tryd.func12 (by kernel_rfl) rfl #[] rfl am_ ?_; (with_reducible refine (lw_awake.calls kj32 tg0 false _ ?side1 A37.1).mono ?_); (case side1 => exact (bk_ BK16)); rintro e w56 ⟨rfl, hb⟩; refine ⟨_, rfl, ?_⟩; replace HO_5 := rb_ HO_5 hb; replace HO_9 := rb_ HO_9 hb; replace BK16 := ak (blk_below (g := 0) (o := .cells #[.bool false, .bool true] tg0 (0, 0)) (bk_ BK16) hb); replace HB := hs_ HB hb; (try clear hb)))); refine Met.intro ?_; (go_step); refine meetU_ ?rel
          case rel => exact ⟨_, (false), (by rfl), H', ⟨by have := HJ3.1; have := HJ5.1; have := HJ9.1; have := HJ12.1; have := HJ14.1; have := HJ17.1; have := HJ19.1; have := HJ32.1; omega⟩, ⟨bk_ BK16⟩, ⟨hb_ HB⟩⟩
         clear HC36; obtain ⟨kq, x4_35, rfl, HA, HJ35, BK16, HB⟩ := hcut
         cases kq with
         | zero => exact absurd HA.1 (by simp [lw_BookmatchBest.j9])
         | succ kj35 =>
          have H := HA.1; clear HA; simp only [lw_BookmatchBest.j9] at H; obtain rfl := Option.some.inj H; (go_wp2); (go_ret); (exact ⟨by rfl, hb_ HB⟩)

/-- THE ONE PURE STATEMENT of lw_BookmatchBest. -/
def lw_BookmatchBest.Pure : Prop := ∀ (l0 : List (S62)) (a1 : Int), (gSl g62) l0 → (gInt .i64) a1 → ∃ k, lw_BookmatchBest.f k l0 a1 = some true
theorem lw_BookmatchBest.walk (P : lw_BookmatchBest.Pure) (A0 : Option Addr) (c0 : Nat) (l0 : List (S62)) (a1 : Int) (tg0 : TypeId) (w : World) (w0 : (gSl g62) l0) (w1 : (gInt .i64) a1) (hr0 : Kd.C k62 w A0 l0.length l0) (hc0 : l0.length ≤ c0) (hb16 : w.heap[0]? = some (.cells #[.bool false, .bool true] tg0 (0, 0))) :
  Calls Tryd.prog 3 #[.slice A0 l0.length c0, .int .i64 a1] w fun e w' => e = .returned (.bool true) ∧ Below w.heap.size w w' := by
 obtain ⟨k, h⟩ := P l0 a1 w0 w1
 refine (lw_BookmatchBest.calls k _ _ l0 a1 tg0 true w hr0 hc0 hb16 h).mono ?_
 rintro e w' ⟨rfl, hd⟩
 exact ⟨rfl, hd⟩

end Go.Proofs.YtglkcinmohjblaaDoor.XA
