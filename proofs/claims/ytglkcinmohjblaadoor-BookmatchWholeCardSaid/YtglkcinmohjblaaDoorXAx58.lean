import Derived.Test.YtglkcinmohjblaaDoorXAx3
import Derived.Test.YtglkcinmohjblaaDoorXAx4
import Derived.Test.YtglkcinmohjblaaDoorXAx32
import Derived.Test.YtglkcinmohjblaaDoorXAx49
import Derived.Test.YtglkcinmohjblaaDoorHa
namespace Go.Proofs.YtglkcinmohjblaaDoor.XA
open Flat Go.RowKit Opens YtglkcinmohjblaaDoorW.PrintWords YtglkcinmohjblaaDoorW.PrintLast YtglkcinmohjblaaDoorW.PrintMore
attribute [local go_sem] max2_int min2_int max_two min_two max_three min_three max_four min_four cell_some cell_same
set_option linter.unusedVariables false
set_option linter.unusedSimpArgs false

mutual
def lw_BookmatchWhole.j0 : Nat → List (S62) → Int → Bool → Option (Bool)
 | 0, _, _, _ => none
 | k + 1, x0, x1, x19 => if x19 = true then ((lw_awake.f k).bind fun t719 => (some t719)) else (lw_BookmatchWhole.j1 k x0 x1)
def lw_BookmatchWhole.j1 : Nat → List (S62) → Int → Option (Bool)
 | 0, _, _ => none
 | k + 1, x0, x1 => (m_Runs.f k x0 x1).bind fun bt720 => (lw_BookmatchWhole.j2 k x0 x1 bt720.1 bt720.2)
def lw_BookmatchWhole.j2 : Nat → List (S62) → Int → List (List (S39)) → Int → Option (Bool)
 | 0, _, _, _, _ => none
 | k + 1, x0, x1, x5, x6 => if x6 = 0 then (lw_BookmatchWhole.j3 k x0 x1 x5) else ((lw_awake.f k).bind fun t724 => (some t724))
def lw_BookmatchWhole.j3 : Nat → List (S62) → Int → List (List (S39)) → Option (Bool)
 | 0, _, _, _ => none
 | k + 1, x0, x1, x5 => lw_BookmatchWhole.l0 k x0 x1 x5 0 0
def lw_BookmatchWhole.l0 : Nat → List (S62) → Int → List (List (S39)) → Int → Int → Option (Bool)
 | 0, _, _, _, _, _ => none
 | k + 1, x0, x1, x5, x7, x8 => if x8 < (x5.length : Int) then (lw_BookmatchWhole.j5 k x0 x1 x5 x7 x8) else (if x7 = (x0.length : Int) then (lw_BookmatchWhole.j14 k x0) else (some false))
def lw_BookmatchWhole.j5 : Nat → List (S62) → Int → List (List (S39)) → Int → Int → Option (Bool)
 | 0, _, _, _, _, _ => none
 | k + 1, x0, x1, x5, x7, x8 => if 0 ≤ x8 then (if x8 < (x5.length : Int) then (if ((rd_L10 x5 x8).length : Int) = 0 then (some false) else (lw_BookmatchWhole.j6 k x0 x1 x5 x7 x8)) else (none)) else (none)
def lw_BookmatchWhole.j6 : Nat → List (S62) → Int → List (List (S39)) → Int → Int → Option (Bool)
 | 0, _, _, _, _, _ => none
 | k + 1, x0, x1, x5, x7, x8 => lw_BookmatchWhole.l1 k x0 x1 x5 x7 x8 0
def lw_BookmatchWhole.l1 : Nat → List (S62) → Int → List (List (S39)) → Int → Int → Int → Option (Bool)
 | 0, _, _, _, _, _, _ => none
 | k + 1, x0, x1, x5, x7, x8, x9 => if 0 ≤ x8 then (if x8 < (x5.length : Int) then (if x9 < ((rd_L10 x5 x8).length : Int) then (lw_BookmatchWhole.j8 k x0 x1 x5 x7 x8 x9) else (lw_BookmatchWhole.l0 k x0 x1 x5 x7 (wrap64 (x8 + 1)))) else (none)) else (none)
def lw_BookmatchWhole.j8 : Nat → List (S62) → Int → List (List (S39)) → Int → Int → Int → Option (Bool)
 | 0, _, _, _, _, _, _ => none
 | k + 1, x0, x1, x5, x7, x8, x9 => if 0 ≤ x8 then (if x8 < (x5.length : Int) then (if 0 ≤ x9 then (if x9 < ((rd_L10 x5 x8).length : Int) then (if ((rd_T39 (rd_L10 x5 x8) x9).f0) = x7 then (lw_BookmatchWhole.j9 k x0 x1 x5 x7 x8 x9) else (some false)) else (none)) else (none)) else (none)) else (none)
def lw_BookmatchWhole.j13 : Nat → List (S62) → Int → List (List (S39)) → Int → Int → Int → Option (Bool)
 | 0, _, _, _, _, _, _ => none
 | k + 1, x0, x1, x5, x7, x8, x9 => lw_BookmatchWhole.l1 k x0 x1 x5 x7 x8 (wrap64 (x9 + 1))
def lw_BookmatchWhole.j9 : Nat → List (S62) → Int → List (List (S39)) → Int → Int → Int → Option (Bool)
 | 0, _, _, _, _, _, _ => none
 | k + 1, x0, x1, x5, x7, x8, x9 => if x9 = 0 then (lw_BookmatchWhole.j13 k x0 x1 x5 (wrap64 (x7 + 1)) x8 x9) else (lw_BookmatchWhole.j10 k x0 x1 x5 (wrap64 (x7 + 1)) x8 x9)
def lw_BookmatchWhole.j10 : Nat → List (S62) → Int → List (List (S39)) → Int → Int → Int → Option (Bool)
 | 0, _, _, _, _, _, _ => none
 | k + 1, x0, x1, x5, x7, x8, x9 => if 0 ≤ x8 then (if x8 < (x5.length : Int) then (if 0 ≤ (wrap64 (x9 - 1)) then (if (wrap64 (x9 - 1)) ≤ (wrap64 (x9 + 1)) then (if (wrap64 (x9 + 1)) ≤ ((rd_L10 x5 x8).length : Int) then ((m_Cost.f k x0 (((rd_L10 x5 x8).take ((wrap64 (x9 + 1)) : Int).toNat).drop ((wrap64 (x9 - 1)) : Int).toNat)).bind fun bt734 => (lw_BookmatchWhole.j11 k x0 x1 x5 x7 x8 x9 bt734.1 bt734.2)) else (none)) else (none)) else (none)) else (none)) else (none)
def lw_BookmatchWhole.j11 : Nat → List (S62) → Int → List (List (S39)) → Int → Int → Int → Int → Int → Option (Bool)
 | 0, _, _, _, _, _, _, _, _ => none
 | k + 1, x0, x1, x5, x7, x8, x9, x10, x11 => if x11 = 0 then (lw_BookmatchWhole.j12 k x0 x1 x5 x7 x8 x9 (decide (x10 > x1))) else (lw_BookmatchWhole.j12 k x0 x1 x5 x7 x8 x9 true)
def lw_BookmatchWhole.j12 : Nat → List (S62) → Int → List (List (S39)) → Int → Int → Int → Bool → Option (Bool)
 | 0, _, _, _, _, _, _, _ => none
 | k + 1, x0, x1, x5, x7, x8, x9, x85 => if x85 = true then (some false) else (lw_BookmatchWhole.j13 k x0 x1 x5 x7 x8 x9)
def lw_BookmatchWhole.j14 : Nat → List (S62) → Option (Bool)
 | 0, _ => none
 | k + 1, x0 => (m_Best.f k x0 1).bind fun bt736 => (lw_BookmatchWhole.j15 k x0 bt736.2.1 bt736.2.2)
def lw_BookmatchWhole.j15 : Nat → List (S62) → Int → Int → Option (Bool)
 | 0, _, _, _ => none
 | k + 1, x0, x13, x14 => if x14 = 0 then (lw_BookmatchWhole.j16 k x0 (x13 != 0)) else (lw_BookmatchWhole.j16 k x0 true)
def lw_BookmatchWhole.j16 : Nat → List (S62) → Bool → Option (Bool)
 | 0, _, _ => none
 | k + 1, x0, x101 => if x101 = true then (some false) else (lw_BookmatchWhole.j17 k x0)
def lw_BookmatchWhole.j17 : Nat → List (S62) → Option (Bool)
 | 0, _ => none
 | k + 1, x0 => (m_Runs.f k x0 100000000).bind fun bt741 => (lw_BookmatchWhole.j18 k bt741.1 bt741.2)
def lw_BookmatchWhole.j18 : Nat → List (List (S39)) → Int → Option (Bool)
 | 0, _, _ => none
 | k + 1, x15, x16 => (lw_awake.f k).bind fun t745 => (if t745 = true then (if x16 = 0 then (lw_BookmatchWhole.j19 k ((x15.length : Int) == 1)) else (lw_BookmatchWhole.j19 k false)) else (lw_BookmatchWhole.j19 k false))
def lw_BookmatchWhole.j19 : Nat → Bool → Option (Bool)
 | 0, _ => none
 | k + 1, x4 => some x4
end
def lw_BookmatchWhole.f (k : Nat) (l0 : List (S62)) (a1 : Int)  : Option (Bool) := (rf_Few.f k l0 12).bind fun t718 => (lw_BookmatchWhole.j0 k l0 a1 (!t718))
theorem lw_BookmatchWhole.mono_l : ∀ k, (∀ y0 y1 y2, LeO (lw_BookmatchWhole.j0 k y0 y1 y2) (lw_BookmatchWhole.j0 (k + 1) y0 y1 y2)) ∧ (∀ y0 y1, LeO (lw_BookmatchWhole.j1 k y0 y1) (lw_BookmatchWhole.j1 (k + 1) y0 y1)) ∧ (∀ y0 y1 y2 y3, LeO (lw_BookmatchWhole.j2 k y0 y1 y2 y3) (lw_BookmatchWhole.j2 (k + 1) y0 y1 y2 y3)) ∧ (∀ y0 y1 y2, LeO (lw_BookmatchWhole.j3 k y0 y1 y2) (lw_BookmatchWhole.j3 (k + 1) y0 y1 y2)) ∧ (∀ y0 y1 y2 y3 y4, LeO (lw_BookmatchWhole.l0 k y0 y1 y2 y3 y4) (lw_BookmatchWhole.l0 (k + 1) y0 y1 y2 y3 y4)) ∧ (∀ y0 y1 y2 y3 y4, LeO (lw_BookmatchWhole.j5 k y0 y1 y2 y3 y4) (lw_BookmatchWhole.j5 (k + 1) y0 y1 y2 y3 y4)) ∧ (∀ y0 y1 y2 y3 y4, LeO (lw_BookmatchWhole.j6 k y0 y1 y2 y3 y4) (lw_BookmatchWhole.j6 (k + 1) y0 y1 y2 y3 y4)) ∧ (∀ y0 y1 y2 y3 y4 y5, LeO (lw_BookmatchWhole.l1 k y0 y1 y2 y3 y4 y5) (lw_BookmatchWhole.l1 (k + 1) y0 y1 y2 y3 y4 y5)) ∧ (∀ y0 y1 y2 y3 y4 y5, LeO (lw_BookmatchWhole.j8 k y0 y1 y2 y3 y4 y5) (lw_BookmatchWhole.j8 (k + 1) y0 y1 y2 y3 y4 y5)) ∧ (∀ y0 y1 y2 y3 y4 y5, LeO (lw_BookmatchWhole.j13 k y0 y1 y2 y3 y4 y5) (lw_BookmatchWhole.j13 (k + 1) y0 y1 y2 y3 y4 y5)) ∧ (∀ y0 y1 y2 y3 y4 y5, LeO (lw_BookmatchWhole.j9 k y0 y1 y2 y3 y4 y5) (lw_BookmatchWhole.j9 (k + 1) y0 y1 y2 y3 y4 y5)) ∧ (∀ y0 y1 y2 y3 y4 y5, LeO (lw_BookmatchWhole.j10 k y0 y1 y2 y3 y4 y5) (lw_BookmatchWhole.j10 (k + 1) y0 y1 y2 y3 y4 y5)) ∧ (∀ y0 y1 y2 y3 y4 y5 y6 y7, LeO (lw_BookmatchWhole.j11 k y0 y1 y2 y3 y4 y5 y6 y7) (lw_BookmatchWhole.j11 (k + 1) y0 y1 y2 y3 y4 y5 y6 y7)) ∧ (∀ y0 y1 y2 y3 y4 y5 y6, LeO (lw_BookmatchWhole.j12 k y0 y1 y2 y3 y4 y5 y6) (lw_BookmatchWhole.j12 (k + 1) y0 y1 y2 y3 y4 y5 y6)) ∧ (∀ y0, LeO (lw_BookmatchWhole.j14 k y0) (lw_BookmatchWhole.j14 (k + 1) y0)) ∧ (∀ y0 y1 y2, LeO (lw_BookmatchWhole.j15 k y0 y1 y2) (lw_BookmatchWhole.j15 (k + 1) y0 y1 y2)) ∧ (∀ y0 y1, LeO (lw_BookmatchWhole.j16 k y0 y1) (lw_BookmatchWhole.j16 (k + 1) y0 y1)) ∧ (∀ y0, LeO (lw_BookmatchWhole.j17 k y0) (lw_BookmatchWhole.j17 (k + 1) y0)) ∧ (∀ y0 y1, LeO (lw_BookmatchWhole.j18 k y0 y1) (lw_BookmatchWhole.j18 (k + 1) y0 y1)) ∧ (∀ y0, LeO (lw_BookmatchWhole.j19 k y0) (lw_BookmatchWhole.j19 (k + 1) y0))
 | 0 => ⟨fun _ _ _ r h => by simp [lw_BookmatchWhole.j0] at h, fun _ _ r h => by simp [lw_BookmatchWhole.j1] at h, fun _ _ _ _ r h => by simp [lw_BookmatchWhole.j2] at h, fun _ _ _ r h => by simp [lw_BookmatchWhole.j3] at h, fun _ _ _ _ _ r h => by simp [lw_BookmatchWhole.l0] at h, fun _ _ _ _ _ r h => by simp [lw_BookmatchWhole.j5] at h, fun _ _ _ _ _ r h => by simp [lw_BookmatchWhole.j6] at h, fun _ _ _ _ _ _ r h => by simp [lw_BookmatchWhole.l1] at h, fun _ _ _ _ _ _ r h => by simp [lw_BookmatchWhole.j8] at h, fun _ _ _ _ _ _ r h => by simp [lw_BookmatchWhole.j13] at h, fun _ _ _ _ _ _ r h => by simp [lw_BookmatchWhole.j9] at h, fun _ _ _ _ _ _ r h => by simp [lw_BookmatchWhole.j10] at h, fun _ _ _ _ _ _ _ _ r h => by simp [lw_BookmatchWhole.j11] at h, fun _ _ _ _ _ _ _ r h => by simp [lw_BookmatchWhole.j12] at h, fun _ r h => by simp [lw_BookmatchWhole.j14] at h, fun _ _ _ r h => by simp [lw_BookmatchWhole.j15] at h, fun _ _ r h => by simp [lw_BookmatchWhole.j16] at h, fun _ r h => by simp [lw_BookmatchWhole.j17] at h, fun _ _ r h => by simp [lw_BookmatchWhole.j18] at h, fun _ r h => by simp [lw_BookmatchWhole.j19] at h⟩
 | k + 1 => by
  obtain ⟨ih0, ih1, ih2, ih3, ih4, ih5, ih6, ih7, ih8, ih9, ih10, ih11, ih12, ih13, ih14, ih15, ih16, ih17, ih18, ih19⟩ := lw_BookmatchWhole.mono_l k; refine ⟨?_, ?_, ?_, ?_, ?_, ?_, ?_, ?_, ?_, ?_, ?_, ?_, ?_, ?_, ?_, ?_, ?_, ?_, ?_, ?_⟩; (all_goals (intros; (first | unfold lw_BookmatchWhole.j0 | unfold lw_BookmatchWhole.j1 | unfold lw_BookmatchWhole.j2 | unfold lw_BookmatchWhole.j3 | unfold lw_BookmatchWhole.l0 | unfold lw_BookmatchWhole.j5 | unfold lw_BookmatchWhole.j6 | unfold lw_BookmatchWhole.l1 | unfold lw_BookmatchWhole.j8 | unfold lw_BookmatchWhole.j13 | unfold lw_BookmatchWhole.j9 | unfold lw_BookmatchWhole.j10 | unfold lw_BookmatchWhole.j11 | unfold lw_BookmatchWhole.j12 | unfold lw_BookmatchWhole.j14 | unfold lw_BookmatchWhole.j15 | unfold lw_BookmatchWhole.j16 | unfold lw_BookmatchWhole.j17 | unfold lw_BookmatchWhole.j18 | unfold lw_BookmatchWhole.j19)))
  all_goals (repeat' first
   | (with_reducible exact ih1 _ _)
   | (with_reducible exact ih2 _ _ _ _)
   | (with_reducible exact ih3 _ _ _)
   | (with_reducible exact ih4 _ _ _ _ _)
   | (with_reducible exact ih5 _ _ _ _ _)
   | (with_reducible exact ih6 _ _ _ _ _)
   | (with_reducible exact ih7 _ _ _ _ _ _)
   | (with_reducible exact ih8 _ _ _ _ _ _)
   | (with_reducible exact ih9 _ _ _ _ _ _)
   | (with_reducible exact ih10 _ _ _ _ _ _)
   | (with_reducible exact ih11 _ _ _ _ _ _)
   | (with_reducible exact ih12 _ _ _ _ _ _ _ _)
   | (with_reducible exact ih13 _ _ _ _ _ _ _)
   | (with_reducible exact ih14 _)
   | (with_reducible exact ih15 _ _ _)
   | (with_reducible exact ih16 _ _)
   | (with_reducible exact ih17 _)
   | (with_reducible exact ih18 _ _)
   | (with_reducible exact ih19 _)
   | (with_reducible exact m_Best.mono _ _ _)
   | (with_reducible exact m_Cost.mono _ _ _)
   | (with_reducible exact m_Runs.mono _ _ _)
   | (with_reducible exact lw_awake.mono _)
   | (with_reducible exact LeO.refl _)
   | (with_reducible refine LeO.ite ?_ ?_)
   | (with_reducible refine LeO.bind ?_ (fun _ => ?_))
   )
theorem lw_BookmatchWhole.mono : ∀ a0 a1 k, LeO (lw_BookmatchWhole.f k a0 a1) (lw_BookmatchWhole.f (k + 1) a0 a1) := by
 intro a0 a1 k
 obtain ⟨ih0, ih1, ih2, ih3, ih4, ih5, ih6, ih7, ih8, ih9, ih10, ih11, ih12, ih13, ih14, ih15, ih16, ih17, ih18, ih19⟩ := lw_BookmatchWhole.mono_l k
 unfold lw_BookmatchWhole.f
 repeat' first
   | (with_reducible exact ih0 _ _ _)
   | (with_reducible exact rf_Few.mono _ _ _)
   | (with_reducible refine LeO.bind ?_ (fun _ => ?_))
   
set_option maxHeartbeats 8000000 in
set_option maxRecDepth 100000 in
theorem lw_BookmatchWhole.calls (k : Nat) (A0 : Option Addr) (c0 : Nat) (l0 : List (S62)) (a1 : Int) (tg0 : TypeId) (r : Bool) (w : World) (hr0 : Kd.C k62 w A0 l0.length l0) (hc0 : l0.length ≤ c0) (hb16 : w.heap[0]? = some (.cells #[.bool false, .bool true] tg0 (0, 0))) (h : lw_BookmatchWhole.f k l0 a1 = some r) :
  Calls Tryd.prog 4 #[.slice A0 l0.length c0, .int .i64 a1] w fun e w' => e = .returned (.bool r) ∧ Below w.heap.size w w' := by
 have HR0 := ak hr0
 have HC0 := ak hc0
 clear hr0 hc0
 have GL16 := blk_lt hb16
 have BK16 := ak hb16
 clear hb16
 have HB := ak (Below.refl w.heap.size w)
 have H : ((rf_Few.f k l0 12).bind fun t718 => (lw_BookmatchWhole.j0 k l0 a1 (!t718))) = some r := h
 clear h
 have HC4 := ak H
 clear H
 go_enter Tryd.func4, Tryd.ntmps4
 go_upto_region 1 with (fail)
 go_cut [19] (fun v19 wc => ∃ (kq : Nat) (x19_3 : Bool), v19 = .bool x19_3 ∧ Aside0 (lw_BookmatchWhole.j0 kq l0 a1 x19_3 = some r) ∧ Aside0 (kq ≤ k) ∧ Aside0 (wc.heap[0]? = some (.cells #[.bool false, .bool true] tg0 (0, 0))) ∧ Aside0 (Below w.heap.size w wc))
 case first =>
  have H := HC4.1; clear HC4; obtain ⟨t718, A50, H⟩ := obs_ H; replace H : (lw_BookmatchWhole.j0 k l0 a1 (!t718)) = some r := H; have A5 := ak A50; clear A50; have H' := ak H; clear H; (go_wp2_with (first | ((with_reducible refine gate_callee (f := 11) rfl ?_); refine goesL_ (some 18) rfl rfl Tryd.func11 (by kernel_rfl) rfl #[.slice A0 l0.length c0, .int .i64 12] rfl am_ ?_; (with_reducible refine (rf_Few.calls k _ _ l0 12 t718 _ ?side1 ?side2 A5.1).mono ?_); (case side1 => exact (Kd.C_below HR0.1 HB.1)); (case side2 => exact HC0.1); rintro e w' ⟨rfl, ⟨nd, rfl⟩⟩; refine ⟨_, rfl, ?_⟩))); (go_meet)
  case rel => exact ⟨_, (!t718), (by rfl), H', ⟨by omega⟩, ⟨bk_ BK16⟩, ⟨hb_ HB⟩⟩
 clear HC4; obtain ⟨kq, x19_3, rfl, HA, HJ3, BK16, HB⟩ := hcut
 cases kq with
 | zero => exact absurd HA.1 (by simp [lw_BookmatchWhole.j0])
 | succ kj3 =>
  have H := HA.1; clear HA; simp only [lw_BookmatchWhole.j0] at H; have HC6 := ak H; clear H; (go_upto_if 19 with (fail)); (go_cut [] (fun wc => ∃ (kq : Nat), Aside0 (lw_BookmatchWhole.j1 kq l0 a1 = some r) ∧ Aside0 (kq ≤ kj3) ∧ Aside0 (wc.heap[0]? = some (.cells #[.bool false, .bool true] tg0 (0, 0))) ∧ Aside0 (Below w.heap.size w wc)))
  case first =>
   have H := HC6.1; clear HC6; (by_cases c7 : x19_3 = true)
   ·subst c7; (replace H : ((lw_awake.f kj3).bind fun t719 => (some t719)) = some r := by rw [if_pos rfl] at H; exact H); obtain ⟨t719, A80, H⟩ := obs_ H; replace H : (some t719) = some r := H; have A8 := ak A80; clear A80; obtain rfl := Option.some.inj H; (go_wp2_with (first | ((with_reducible refine gate_callee (f := 12) rfl ?_); refine goesL_ (some 20) rfl rfl Tryd.func12 (by kernel_rfl) rfl #[] rfl am_ ?_; (with_reducible refine (lw_awake.calls kj3 tg0 t719 _ ?side1 A8.1).mono ?_); (case side1 => exact (bk_ BK16)); rintro e w9 ⟨rfl, hb⟩; refine ⟨_, rfl, ?_⟩; replace BK16 := bg0 (t := tg0) (bk_ BK16) hb; replace HB := hs_ HB hb; (try clear hb)))); (go_ret); (exact ⟨by rfl, hb_ HB⟩)
   replace c7 := Bool.eq_false_iff.mpr c7
   subst c7; (replace H : (lw_BookmatchWhole.j1 kj3 l0 a1) = some r := by rw [if_neg (show ¬ (false = true) by decide)] at H; exact H); have H' := ak H; clear H; (go_wp2); (go_meet)
   case rel => exact ⟨_, H', ⟨by have := HJ3.1; omega⟩, ⟨bk_ BK16⟩, ⟨hb_ HB⟩⟩
  clear HC6; obtain ⟨kq, HA, HJ5, BK16, HB⟩ := hcut
  cases kq with
  | zero => exact absurd HA.1 (by simp [lw_BookmatchWhole.j1])
  | succ kj5 =>
   have H := HA.1; clear HA; simp only [lw_BookmatchWhole.j1] at H; have HC10 := ak H; clear H; (go_upto_region 3 with (fail)); (go_cut [5, 6] (fun v5 v6 wc => ∃ (kq : Nat) (x5_9 : List (List (S39))) (x6_9 : Int), v6 = .int .i64 x6_9 ∧ Aside0 (lw_BookmatchWhole.j2 kq l0 a1 x5_9 x6_9 = some r) ∧ Aside0 (kq ≤ kj5) ∧ Aside0 (Kd.S (Kd.slice 39 k39) 25 wc w.heap.size (fun _ => True) v5 x5_9) ∧ Aside0 (wc.heap[0]? = some (.cells #[.bool false, .bool true] tg0 (0, 0))) ∧ Aside0 (Below w.heap.size w wc)))
   case first =>
    have H := HC10.1; clear HC10; obtain ⟨⟨t720, t721⟩, A110, H⟩ := obs_ H; replace H : (lw_BookmatchWhole.j2 kj5 l0 a1 t720 t721) = some r := H; have A11 := ak A110; clear A110; have H' := ak H; clear H; (go_wp2_with (first | ((with_reducible refine gate_callee (f := 19) rfl ?_); refine goesL_ (some 24) rfl rfl Tryd.func19 (by kernel_rfl) rfl #[.slice A0 l0.length c0, .int .i64 a1] rfl am_ ?_; (with_reducible refine (m_Runs.calls kj5 _ _ l0 a1 tg0 t720 t721 _ ?side1 ?side2 ?side3 A11.1).mono ?_); (case side1 => exact (Kd.C_below HR0.1 HB.1)); (case side2 => exact HC0.1); (case side3 => exact (bk_ BK16)); rintro e w12 ⟨v722, rfl, ho0, hb⟩; refine ⟨_, rfl, ?_⟩; have HO723 := ak (Kd.S_lower ho0 (below_size (hb_ HB))); replace BK16 := bg0 (t := tg0) (bk_ BK16) hb; replace HB := hs_ HB hb; (try clear hb); (try clear ho0)))); (go_meet)
    case rel => exact ⟨_, (t720), (t721), (by rfl), H', ⟨by have := HJ3.1; have := HJ5.1; omega⟩, ⟨by exact HO723.1⟩, ⟨bk_ BK16⟩, ⟨hb_ HB⟩⟩
   clear HC10; obtain ⟨kq, x5_9, x6_9, rfl, HA, HJ9, HO_5, BK16, HB⟩ := hcut
   cases kq with
   | zero => exact absurd HA.1 (by simp [lw_BookmatchWhole.j2])
   | succ kj9 =>
    have H := HA.1; clear HA; simp only [lw_BookmatchWhole.j2] at H; have HC13 := ak H; clear H; (go_upto_if 28 with (fail)); (go_cut [] (fun wc => ∃ (kq : Nat), Aside0 (lw_BookmatchWhole.j3 kq l0 a1 x5_9 = some r) ∧ Aside0 (kq ≤ kj9) ∧ Aside0 (Kd.S (Kd.slice 39 k39) 25 wc w.heap.size (fun _ => True) u5 x5_9) ∧ Aside0 (wc.heap[0]? = some (.cells #[.bool false, .bool true] tg0 (0, 0))) ∧ Aside0 (Below w.heap.size w wc)))
    case first =>
     have H := HC13.1; clear HC13; (by_cases c14 : x6_9 = 0)
     ·rw [if_pos c14] at H
      have c14b0 := beq_iff_eq.mpr c14; have c14b1 := bne_eq_false_iff_eq.mpr c14; clear c14; have H' := ak H; clear H; (go_wp2); (go_meet)
      case rel => exact ⟨_, H', ⟨by have := HJ3.1; have := HJ5.1; have := HJ9.1; omega⟩, ⟨by exact HO_5.1⟩, ⟨bk_ BK16⟩, ⟨hb_ HB⟩⟩
     rw [if_neg c14] at H; have c14b0 := beq_eq_false_iff_ne.mpr c14; have c14b1 := bne_iff_ne.mpr c14; obtain ⟨t724, A150, H⟩ := obs_ H; replace H : (some t724) = some r := H; have A15 := ak A150; clear A150; obtain rfl := Option.some.inj H; (go_wp2_with (first | ((with_reducible refine gate_callee (f := 12) rfl ?_); refine goesL_ (some 29) rfl rfl Tryd.func12 (by kernel_rfl) rfl #[] rfl am_ ?_; (with_reducible refine (lw_awake.calls kj9 tg0 t724 _ ?side1 A15.1).mono ?_); (case side1 => exact (bk_ BK16)); rintro e w16 ⟨rfl, hb⟩; refine ⟨_, rfl, ?_⟩; replace HO_5 := ak (Kd.S_below (by exact HO_5.1) hb); replace BK16 := bg0 (t := tg0) (bk_ BK16) hb; replace HB := hs_ HB hb; (try clear hb)))); (go_ret); (exact ⟨by rfl, hb_ HB⟩)
    clear HC13; obtain ⟨kq, HA, HJ12, HO_5, BK16, HB⟩ := hcut
    cases kq with
    | zero => exact absurd HA.1 (by simp [lw_BookmatchWhole.j3])
    | succ kj12 =>
     have H := HA.1; clear HA; simp only [lw_BookmatchWhole.j3] at H; have H' := ak H; clear H; (go_wp2); (go_loopg [7, 8] kj12 (fun kq v7 v8 w' => ∃ (x7_5 : Int) (x8_5 : Int), v7 = .int .i64 x7_5 ∧ v8 = .int .i64 x8_5 ∧ Aside0 (lw_BookmatchWhole.l0 kq l0 a1 x5_9 x7_5 x8_5 = some r) ∧ Aside0 (kq ≤ kj12) ∧ Aside0 (Kd.S (Kd.slice 39 k39) 25 w' w.heap.size (fun _ => True) u5 x5_9) ∧ Aside0 (w'.heap[0]? = some (.cells #[.bool false, .bool true] tg0 (0, 0))) ∧ Aside0 (Below w.heap.size w w')))
     case atStart => exact ⟨(0), (0), (by rfl), (by rfl), H', ⟨Nat.le_refl _⟩, ⟨by exact HO_5.1⟩, ⟨bk_ BK16⟩, ⟨hb_ HB⟩⟩
     clear H'; obtain ⟨x7_5, x8_5, rfl, rfl, HA, HK5, HO_5, BK16, HB⟩ := hrel
     cases gk with
     | zero => exact absurd HA.1 (by simp [lw_BookmatchWhole.l0])
     | succ k5 =>
      have H := HA.1; clear HA; simp only [lw_BookmatchWhole.l0] at H; have HC17 := ak H; clear H; obtain ⟨Ao18, co18, eo18⟩ := Kd.S_slice HO_5.1; subst eo18; (go_upto_if 33 with (fail)); (go_cut [] (fun wc => ∃ (kq : Nat), Aside0 (lw_BookmatchWhole.j5 kq l0 a1 x5_9 x7_5 x8_5 = some r) ∧ Aside0 (kq ≤ k5) ∧ Aside0 (Kd.S (Kd.slice 39 k39) 25 wc w.heap.size (fun _ => True) (.slice Ao18 x5_9.length co18) x5_9) ∧ Aside0 (wc.heap[0]? = some (.cells #[.bool false, .bool true] tg0 (0, 0))) ∧ Aside0 (Below w.heap.size w wc)))
      case first =>
       have H := HC17.1; clear HC17; (by_cases c19 : x8_5 < (x5_9.length : Int))
       ·rw [if_pos c19] at H
        have c19b0 := decide_eq_true c19; clear c19; ((rw [c19b0])); have H' := ak H; clear H; (go_wp2); (go_meet)
        case rel => exact ⟨_, H', ⟨by have := HJ3.1; have := HJ5.1; have := HJ9.1; have := HJ12.1; have := HK5.1; omega⟩, ⟨by exact HO_5.1⟩, ⟨bk_ BK16⟩, ⟨hb_ HB⟩⟩
       rw [if_neg c19] at H
       have c19b0 := decide_eq_false c19; clear c19; ((rw [c19b0])); have HC20 := ak H; clear H; (go_upto_if 89 with (fail)); (go_cut [] (fun wc => ∃ (kq : Nat), Aside0 (lw_BookmatchWhole.j14 kq l0 = some r) ∧ Aside0 (kq ≤ k5) ∧ Aside0 (wc.heap[0]? = some (.cells #[.bool false, .bool true] tg0 (0, 0))) ∧ Aside0 (Below w.heap.size w wc)))
       case first =>
        have H := HC20.1; clear HC20; (by_cases c21 : x7_5 = (l0.length : Int))
        ·rw [if_pos c21] at H
         have c21b0 := beq_iff_eq.mpr c21; have c21b1 := bne_eq_false_iff_eq.mpr c21; clear c21; have H' := ak H; clear H; (go_wp2); (go_meet)
         case rel => exact ⟨_, H', ⟨by have := HJ3.1; have := HJ5.1; have := HJ9.1; have := HJ12.1; have := HK5.1; omega⟩, ⟨bk_ BK16⟩, ⟨hb_ HB⟩⟩
        rw [if_neg c21] at H; have c21b0 := beq_eq_false_iff_ne.mpr c21; have c21b1 := bne_iff_ne.mpr c21; obtain rfl := Option.some.inj H; (go_wp2); (go_ret); (exact ⟨by rfl, hb_ HB⟩)
       clear HC20; (try clear c19b0); obtain ⟨kq, HA, HJ19, BK16, HB⟩ := hcut
       cases kq with
       | zero => exact absurd HA.1 (by simp [lw_BookmatchWhole.j14])
       | succ kj19 =>
        have H := HA.1; clear HA; simp only [lw_BookmatchWhole.j14] at H; have HC22 := ak H; clear H; (go_upto_region 24 with (fail)); (go_cut [13, 14] (fun v13 v14 wc => ∃ (kq : Nat) (x13_21 : Int) (x14_21 : Int), v13 = .int .i64 x13_21 ∧ v14 = .int .i64 x14_21 ∧ Aside0 (lw_BookmatchWhole.j15 kq l0 x13_21 x14_21 = some r) ∧ Aside0 (kq ≤ kj19) ∧ Aside0 (wc.heap[0]? = some (.cells #[.bool false, .bool true] tg0 (0, 0))) ∧ Aside0 (Below w.heap.size w wc)))
        case first =>
         have H := HC22.1; clear HC22; obtain ⟨⟨t736, t737, t738⟩, A230, H⟩ := obs_ H; replace H : (lw_BookmatchWhole.j15 kj19 l0 t737 t738) = some r := H; have A23 := ak A230; clear A230; have H' := ak H; clear H; (go_wp2_with (first | ((with_reducible refine gate_callee (f := 13) rfl ?_); refine goesL_ (some 92) rfl rfl Tryd.func13 (by kernel_rfl) rfl #[.slice A0 l0.length c0, .int .i64 1] rfl am_ ?_; (with_reducible refine (m_Best.calls kj19 _ _ l0 1 tg0 t736 t737 t738 _ ?side1 ?side2 ?side3 A23.1).mono ?_); (case side1 => exact (Kd.C_below HR0.1 HB.1)); (case side2 => exact HC0.1); (case side3 => exact (bk_ BK16)); rintro e w24 ⟨v739, rfl, ho0, hb⟩; refine ⟨_, rfl, ?_⟩; have HO740 := ak (Kd.R_lower ho0 (below_size (hb_ HB))); replace BK16 := bg0 (t := tg0) (bk_ BK16) hb; replace HB := hs_ HB hb; (try clear hb); (try clear ho0)))); (go_meet)
         case rel => exact ⟨_, (t737), (t738), (by rfl), (by rfl), H', ⟨by have := HJ3.1; have := HJ5.1; have := HJ9.1; have := HJ12.1; have := HK5.1; have := HJ19.1; omega⟩, ⟨bk_ BK16⟩, ⟨hb_ HB⟩⟩
        clear HC22; obtain ⟨kq, x13_21, x14_21, rfl, rfl, HA, HJ21, BK16, HB⟩ := hcut
        cases kq with
        | zero => exact absurd HA.1 (by simp [lw_BookmatchWhole.j15])
        | succ kj21 =>
         have H := HA.1; clear HA; simp only [lw_BookmatchWhole.j15] at H; have HC25 := ak H; clear H; (go_upto_region 25 with (fail)); (go_cut [101] (fun v101 wc => ∃ (kq : Nat) (x101_24 : Bool), v101 = .bool x101_24 ∧ Aside0 (lw_BookmatchWhole.j16 kq l0 x101_24 = some r) ∧ Aside0 (kq ≤ kj21) ∧ Aside0 (wc.heap[0]? = some (.cells #[.bool false, .bool true] tg0 (0, 0))) ∧ Aside0 (Below w.heap.size w wc)))
         case first =>
          have H := HC25.1; clear HC25; (by_cases c26 : x14_21 = 0)
          ·rw [if_pos c26] at H
           have c26b0 := beq_iff_eq.mpr c26; have c26b1 := bne_eq_false_iff_eq.mpr c26; clear c26; have H' := ak H; clear H; (go_wp2); (go_meet)
           case rel => exact ⟨_, ((x13_21 != 0)), (by rfl), H', ⟨by have := HJ3.1; have := HJ5.1; have := HJ9.1; have := HJ12.1; have := HK5.1; have := HJ19.1; have := HJ21.1; omega⟩, ⟨bk_ BK16⟩, ⟨hb_ HB⟩⟩
          rw [if_neg c26] at H
          have c26b0 := beq_eq_false_iff_ne.mpr c26; have c26b1 := bne_iff_ne.mpr c26; have H' := ak H; clear H; (go_wp2); (go_meet)
          case rel => exact ⟨_, (true), (by rfl), H', ⟨by have := HJ3.1; have := HJ5.1; have := HJ9.1; have := HJ12.1; have := HK5.1; have := HJ19.1; have := HJ21.1; omega⟩, ⟨bk_ BK16⟩, ⟨hb_ HB⟩⟩
         clear HC25; obtain ⟨kq, x101_24, rfl, HA, HJ24, BK16, HB⟩ := hcut
         cases kq with
         | zero => exact absurd HA.1 (by simp [lw_BookmatchWhole.j16])
         | succ kj24 =>
          have H := HA.1; clear HA; simp only [lw_BookmatchWhole.j16] at H; have HC27 := ak H; clear H; (go_upto_if 101 with (fail)); (go_cut [] (fun wc => ∃ (kq : Nat), Aside0 (lw_BookmatchWhole.j17 kq l0 = some r) ∧ Aside0 (kq ≤ kj24) ∧ Aside0 (wc.heap[0]? = some (.cells #[.bool false, .bool true] tg0 (0, 0))) ∧ Aside0 (Below w.heap.size w wc)))
          case first =>
           have H := HC27.1; clear HC27; (by_cases c28 : x101_24 = true)
           ·subst c28; (replace H : (some false) = some r := by rw [if_pos rfl] at H; exact H); obtain rfl := Option.some.inj H; (go_wp2); (go_ret); (exact ⟨by rfl, hb_ HB⟩)
           replace c28 := Bool.eq_false_iff.mpr c28
           subst c28; (replace H : (lw_BookmatchWhole.j17 kj24 l0) = some r := by rw [if_neg (show ¬ (false = true) by decide)] at H; exact H); have H' := ak H; clear H; (go_wp2); (go_meet)
           case rel => exact ⟨_, H', ⟨by have := HJ3.1; have := HJ5.1; have := HJ9.1; have := HJ12.1; have := HK5.1; have := HJ19.1; have := HJ21.1; have := HJ24.1; omega⟩, ⟨bk_ BK16⟩, ⟨hb_ HB⟩⟩
          clear HC27; obtain ⟨kq, HA, HJ26, BK16, HB⟩ := hcut
          cases kq with
          | zero => exact absurd HA.1 (by simp [lw_BookmatchWhole.j17])
          | succ kj26 =>
           have H := HA.1; clear HA; simp only [lw_BookmatchWhole.j17] at H; have HC29 := ak H; clear H; (go_upto_region 27 with (fail)); (go_cut [15, 16] (fun v15 v16 wc => ∃ (kq : Nat) (x15_28 : List (List (S39))) (x16_28 : Int), v16 = .int .i64 x16_28 ∧ Aside0 (lw_BookmatchWhole.j18 kq x15_28 x16_28 = some r) ∧ Aside0 (kq ≤ kj26) ∧ Aside0 (Kd.S (Kd.slice 39 k39) 25 wc w.heap.size (fun _ => True) v15 x15_28) ∧ Aside0 (wc.heap[0]? = some (.cells #[.bool false, .bool true] tg0 (0, 0))) ∧ Aside0 (Below w.heap.size w wc)))
           case first =>
            have H := HC29.1; clear HC29; obtain ⟨⟨t741, t742⟩, A300, H⟩ := obs_ H; replace H : (lw_BookmatchWhole.j18 kj26 t741 t742) = some r := H; have A30 := ak A300; clear A300; have H' := ak H; clear H; (go_wp2_with (first | ((with_reducible refine gate_callee (f := 19) rfl ?_); refine goesL_ (some 104) rfl rfl Tryd.func19 (by kernel_rfl) rfl #[.slice A0 l0.length c0, .int .i64 100000000] rfl am_ ?_; (with_reducible refine (m_Runs.calls kj26 _ _ l0 100000000 tg0 t741 t742 _ ?side1 ?side2 ?side3 A30.1).mono ?_); (case side1 => exact (Kd.C_below HR0.1 HB.1)); (case side2 => exact HC0.1); (case side3 => exact (bk_ BK16)); rintro e w31 ⟨v743, rfl, ho0, hb⟩; refine ⟨_, rfl, ?_⟩; have HO744 := ak (Kd.S_lower ho0 (below_size (hb_ HB))); replace BK16 := bg0 (t := tg0) (bk_ BK16) hb; replace HB := hs_ HB hb; (try clear hb); (try clear ho0)))); (go_meet)
            case rel => exact ⟨_, (t741), (t742), (by rfl), H', ⟨by have := HJ3.1; have := HJ5.1; have := HJ9.1; have := HJ12.1; have := HK5.1; have := HJ19.1; have := HJ21.1; have := HJ24.1; have := HJ26.1; omega⟩, ⟨by exact HO744.1⟩, ⟨bk_ BK16⟩, ⟨hb_ HB⟩⟩
           clear HC29; obtain ⟨kq, x15_28, x16_28, rfl, HA, HJ28, HO_15, BK16, HB⟩ := hcut
           cases kq with
           | zero => exact absurd HA.1 (by simp [lw_BookmatchWhole.j18])
           | succ kj28 =>
            have H := HA.1; clear HA; simp only [lw_BookmatchWhole.j18] at H; have HC32 := ak H; clear H; (go_upto_region 28 with (fail)); (go_cut [4] (fun v4 wc => ∃ (kq : Nat) (x4_31 : Bool), v4 = .bool x4_31 ∧ Aside0 (lw_BookmatchWhole.j19 kq x4_31 = some r) ∧ Aside0 (kq ≤ kj28) ∧ Aside0 (wc.heap[0]? = some (.cells #[.bool false, .bool true] tg0 (0, 0))) ∧ Aside0 (Below w.heap.size w wc)))
            case first =>
             have H := HC32.1; clear HC32; obtain ⟨t745, A330, H⟩ := obs_ H; (replace H : (if t745 = true then (if x16_28 = 0 then (lw_BookmatchWhole.j19 kj28 ((x15_28.length : Int) == 1)) else (lw_BookmatchWhole.j19 kj28 false)) else (lw_BookmatchWhole.j19 kj28 false)) = some r := H); have A33 := ak A330; clear A330; (by_cases c34 : t745 = true)
             ·subst c34
              (replace H : (if x16_28 = 0 then (lw_BookmatchWhole.j19 kj28 ((x15_28.length : Int) == 1)) else (lw_BookmatchWhole.j19 kj28 false)) = some r := by rw [if_pos rfl] at H; exact H); (by_cases c35 : x16_28 = 0)
              ·rw [if_pos c35] at H
               have c35b0 := beq_iff_eq.mpr c35; have c35b1 := bne_eq_false_iff_eq.mpr c35; clear c35; have H' := ak H; clear H; (go_wp2_with (first | ((with_reducible refine gate_callee (f := 12) rfl ?_); refine goesL_ (some 107) rfl rfl Tryd.func12 (by kernel_rfl) rfl #[] rfl am_ ?_; (with_reducible refine (lw_awake.calls kj28 tg0 true _ ?side1 A33.1).mono ?_); (case side1 => exact (bk_ BK16)); rintro e w36 ⟨rfl, hb⟩; refine ⟨_, rfl, ?_⟩; replace HO_15 := ak (Kd.S_below (by exact HO_15.1) hb); replace BK16 := bg0 (t := tg0) (bk_ BK16) hb; replace HB := hs_ HB hb; (try clear hb); obtain ⟨Ao37, co37, eo37⟩ := Kd.S_slice HO_15.1; subst eo37))); (go_meet)
               case rel => exact ⟨_, (((x15_28.length : Int) == 1)), (by rfl), H', ⟨by have := HJ3.1; have := HJ5.1; have := HJ9.1; have := HJ12.1; have := HK5.1; have := HJ19.1; have := HJ21.1; have := HJ24.1; have := HJ26.1; have := HJ28.1; omega⟩, ⟨bk_ BK16⟩, ⟨hb_ HB⟩⟩
              rw [if_neg c35] at H
              have c35b0 := beq_eq_false_iff_ne.mpr c35; have c35b1 := bne_iff_ne.mpr c35; have H' := ak H; clear H; (go_wp2_with (first | ((with_reducible refine gate_callee (f := 12) rfl ?_); refine goesL_ (some 107) rfl rfl Tryd.func12 (by kernel_rfl) rfl #[] rfl am_ ?_; (with_reducible refine (lw_awake.calls kj28 tg0 true _ ?side1 A33.1).mono ?_); (case side1 => exact (bk_ BK16)); rintro e w38 ⟨rfl, hb⟩; refine ⟨_, rfl, ?_⟩; replace HO_15 := ak (Kd.S_below (by exact HO_15.1) hb); replace BK16 := bg0 (t := tg0) (bk_ BK16) hb; replace HB := hs_ HB hb; (try clear hb)))); (go_meet)
              case rel => exact ⟨_, (false), (by rfl), H', ⟨by have := HJ3.1; have := HJ5.1; have := HJ9.1; have := HJ12.1; have := HK5.1; have := HJ19.1; have := HJ21.1; have := HJ24.1; have := HJ26.1; have := HJ28.1; omega⟩, ⟨bk_ BK16⟩, ⟨hb_ HB⟩⟩
             replace c34 := Bool.eq_false_iff.mpr c34
             subst c34; (replace H : (lw_BookmatchWhole.j19 kj28 false) = some r := by rw [if_neg (show ¬ (false = true) by decide)] at H; exact H); have H' := ak H; clear H; (go_wp2_with (first | ((with_reducible refine gate_callee (f := 12) rfl ?_); refine goesL_ (some 107) rfl rfl Tryd.func12 (by kernel_rfl) rfl #[] rfl am_ ?_; (with_reducible refine (lw_awake.calls kj28 tg0 false _ ?side1 A33.1).mono ?_); (case side1 => exact (bk_ BK16)); rintro e w39 ⟨rfl, hb⟩; refine ⟨_, rfl, ?_⟩; replace HO_15 := ak (Kd.S_below (by exact HO_15.1) hb); replace BK16 := bg0 (t := tg0) (bk_ BK16) hb; replace HB := hs_ HB hb; (try clear hb)))); (go_meet)
             case rel => exact ⟨_, (false), (by rfl), H', ⟨by have := HJ3.1; have := HJ5.1; have := HJ9.1; have := HJ12.1; have := HK5.1; have := HJ19.1; have := HJ21.1; have := HJ24.1; have := HJ26.1; have := HJ28.1; omega⟩, ⟨bk_ BK16⟩, ⟨hb_ HB⟩⟩
            clear HC32; obtain ⟨kq, x4_31, rfl, HA, HJ31, BK16, HB⟩ := hcut
            cases kq with
            | zero => exact absurd HA.1 (by simp [lw_BookmatchWhole.j19])
            | succ kj31 =>
             have H := HA.1; clear HA; simp only [lw_BookmatchWhole.j19] at H; obtain rfl := Option.some.inj H; (go_wp2); (go_ret); (exact ⟨by rfl, hb_ HB⟩)
      clear HC17; obtain ⟨kq, HA, HJ16, HO_5, BK16, HB⟩ := hcut
      cases kq with
      | zero => exact absurd HA.1 (by simp [lw_BookmatchWhole.j5])
      | succ kj16 =>
       have H := HA.1; clear HA; simp only [lw_BookmatchWhole.j5] at H; (by_cases c40 : 0 ≤ x8_5)
       ·rw [if_pos c40] at H
        have c40b0 := decide_eq_true c40; clear c40; (by_cases c41 : x8_5 < (x5_9.length : Int))
        ·rw [if_pos c41] at H
         have c41b0 := decide_eq_true c41; clear c41; have HC42 := ak H; clear H; have p725 : 0 ≤ (x8_5 : Int) := od_; have q725 : x8_5 < (x5_9.length : Int) := od_; obtain ⟨ad725, A725_0, c725_0, e725, hx725_0, hl725_0, hi725_0⟩ := at_L10 (Kd.S_reads' HO_5.1).2.2 x8_5 p725 q725; (cases e725); (obtain ⟨ce725, hce725, hMe725, hcc725⟩ := Kd.S_get HO_5.1 [] x8_5 p725 (by exact q725)); obtain ⟨ve725_0, rfl, ge725_0⟩ := hMe725; have hv725_0 := hcc725 0 _ rfl; (rw [Nat.add_zero, show ((Kd.slice 39 k39)).sz = 1 from rfl, Nat.mul_one] at hv725_0); replace hv725_0 := Option.some.inj (hv725_0.symm.trans hx725_0); rw [hv725_0] at ge725_0; (have HL725_0 := ak (show Kd.R k39 39 _ _ _ _ (rd_L10 x5_9 x8_5) from ge725_0)); clear hv725_0 ge725_0 hcc725 hce725; have HR725_0 := ak hi725_0; have HC725_0 := ak hl725_0; clear hi725_0 hl725_0; replace p725 := eq_true p725; replace q725 := eq_true q725; (go_upto_if 41 with (fail)); (go_cut [] (fun wc => ∃ (kq : Nat), Aside0 (lw_BookmatchWhole.j6 kq l0 a1 x5_9 x7_5 x8_5 = some r) ∧ Aside0 (kq ≤ kj16) ∧ Aside0 (Kd.S (Kd.slice 39 k39) 25 wc w.heap.size (fun _ => True) (.slice (some ad725) x5_9.length co18) x5_9) ∧ Aside0 (wc.heap[0]? = some (.cells #[.bool false, .bool true] tg0 (0, 0))) ∧ Aside0 (Kd.C k39 wc A725_0 (rd_L10 x5_9 x8_5).length (rd_L10 x5_9 x8_5)) ∧ Aside0 (Below w.heap.size w wc)))
         case first =>
          have H := HC42.1; clear HC42; (by_cases c43 : ((rd_L10 x5_9 x8_5).length : Int) = 0)
          ·rw [if_pos c43] at H; have c43b0 := beq_iff_eq.mpr c43; have c43b1 := bne_eq_false_iff_eq.mpr c43; clear c43; ((rw [c43b0])); obtain rfl := Option.some.inj H; (go_wp2); (go_ret); (exact ⟨by rfl, hb_ HB⟩)
          rw [if_neg c43] at H
          have c43b0 := beq_eq_false_iff_ne.mpr c43; have c43b1 := bne_iff_ne.mpr c43; (have c43b2 : ¬ ((rd_L10 x5_9 x8_5) = []) := fun h_ => c43 (by rw [h_]; rfl)); ((rw [c43b0])); have H' := ak H; clear H; (go_wp2); (go_meet)
          case rel => exact ⟨_, H', ⟨by have := HJ3.1; have := HJ5.1; have := HJ9.1; have := HJ12.1; have := HK5.1; have := HJ16.1; omega⟩, ⟨by exact HO_5.1⟩, ⟨bk_ BK16⟩, ⟨by repeat (with_reducible exact HR725_0.1)⟩, ⟨hb_ HB⟩⟩
         clear HC42; (try clear c40b0); (try clear c41b0); (try clear hx725_0); (try clear p725); (try clear q725); obtain ⟨kq, HA, HJ41, HO_5, BK16, HR725_0, HB⟩ := hcut
         cases kq with
         | zero => exact absurd HA.1 (by simp [lw_BookmatchWhole.j6])
         | succ kj41 =>
          have H := HA.1; clear HA; simp only [lw_BookmatchWhole.j6] at H; have H' := ak H; clear H; (go_wp2); (go_loopg [7, 9] kj41 (fun kq v7 v9 w' => ∃ (x7_8 : Int) (x9_8 : Int), v7 = .int .i64 x7_8 ∧ v9 = .int .i64 x9_8 ∧ Aside0 (lw_BookmatchWhole.l1 kq l0 a1 x5_9 x7_8 x8_5 x9_8 = some r) ∧ Aside0 (kq ≤ kj41) ∧ Aside0 (Kd.S (Kd.slice 39 k39) 25 w' w.heap.size (fun _ => True) (.slice (some ad725) x5_9.length co18) x5_9) ∧ Aside0 (w'.heap[0]? = some (.cells #[.bool false, .bool true] tg0 (0, 0))) ∧ Aside0 (Kd.C k39 w' A725_0 (rd_L10 x5_9 x8_5).length (rd_L10 x5_9 x8_5)) ∧ Aside0 (Below w.heap.size w w')))
          case atStart => exact ⟨(x7_5), (0), (by rfl), (by rfl), H', ⟨Nat.le_refl _⟩, ⟨by exact HO_5.1⟩, ⟨bk_ BK16⟩, ⟨by repeat (with_reducible exact HR725_0.1)⟩, ⟨hb_ HB⟩⟩
          clear H'; obtain ⟨x7_8, x9_8, rfl, rfl, HA, HK8, HO_5, BK16, HR725_0, HB⟩ := hrel
          cases gk with
          | zero => exact absurd HA.1 (by simp [lw_BookmatchWhole.l1])
          | succ k8 =>
           have H := HA.1; clear HA; simp only [lw_BookmatchWhole.l1] at H; (by_cases c44 : 0 ≤ x8_5)
           ·rw [if_pos c44] at H
            have c44b0 := decide_eq_true c44; clear c44; (by_cases c45 : x8_5 < (x5_9.length : Int))
            ·rw [if_pos c45] at H
             have c45b0 := decide_eq_true c45; clear c45; have HC46 := ak H; clear H; have p726 : 0 ≤ (x8_5 : Int) := od_; have q726 : x8_5 < (x5_9.length : Int) := od_; obtain ⟨ad726, A726_0, c726_0, e726, hx726_0, hl726_0, hi726_0⟩ := at_L10 (Kd.S_reads' HO_5.1).2.2 x8_5 p726 q726; (obtain rfl : ad725 = ad726 := (by injection e726)); (obtain ⟨ce726, hce726, hMe726, hcc726⟩ := Kd.S_get HO_5.1 [] x8_5 p726 (by exact q726)); obtain ⟨ve726_0, rfl, ge726_0⟩ := hMe726; have hv726_0 := hcc726 0 _ rfl; (rw [Nat.add_zero, show ((Kd.slice 39 k39)).sz = 1 from rfl, Nat.mul_one] at hv726_0); replace hv726_0 := Option.some.inj (hv726_0.symm.trans hx726_0); rw [hv726_0] at ge726_0; (have HL726_0 := ak (show Kd.R k39 39 _ _ _ _ (rd_L10 x5_9 x8_5) from ge726_0)); clear hv726_0 ge726_0 hcc726 hce726; have HR726_0 := ak hi726_0; have HC726_0 := ak hl726_0; clear hi726_0 hl726_0; replace p726 := eq_true p726; replace q726 := eq_true q726; (go_upto_if 48 with (fail)); (go_cut [] (fun wc => ∃ (kq : Nat), Aside0 (lw_BookmatchWhole.j8 kq l0 a1 x5_9 x7_8 x8_5 x9_8 = some r) ∧ Aside0 (kq ≤ k8) ∧ Aside0 (Kd.S (Kd.slice 39 k39) 25 wc w.heap.size (fun _ => True) (.slice (some ad725) x5_9.length co18) x5_9) ∧ Aside0 (wc.heap[0]? = some (.cells #[.bool false, .bool true] tg0 (0, 0))) ∧ Aside0 (Kd.C k39 wc A725_0 (rd_L10 x5_9 x8_5).length (rd_L10 x5_9 x8_5)) ∧ Aside0 (Kd.C k39 wc A726_0 (rd_L10 x5_9 x8_5).length (rd_L10 x5_9 x8_5)) ∧ Aside0 (Below w.heap.size w wc)))
             case first =>
              have H := HC46.1; clear HC46; (by_cases c47 : x9_8 < ((rd_L10 x5_9 x8_5).length : Int))
              ·rw [if_pos c47] at H
               have c47b0 := decide_eq_true c47; clear c47; ((rw [c47b0])); have H' := ak H; clear H; (go_wp2); (go_meet)
               case rel => exact ⟨_, H', ⟨by have := HJ3.1; have := HJ5.1; have := HJ9.1; have := HJ12.1; have := HK5.1; have := HJ16.1; have := HJ41.1; have := HK8.1; omega⟩, ⟨by exact HO_5.1⟩, ⟨bk_ BK16⟩, ⟨by repeat (with_reducible exact HR725_0.1)⟩, ⟨by repeat (with_reducible exact HR726_0.1)⟩, ⟨hb_ HB⟩⟩
              rw [if_neg c47] at H
              have c47b0 := decide_eq_false c47; clear c47; ((rw [c47b0])); have H' := ak H; clear H; (go_wp2); (go_roundg k8)
              case measure => have := HJ3.1; have := HJ5.1; have := HJ9.1; have := HJ12.1; have := HK5.1; have := HJ16.1; have := HJ41.1; have := HK8.1; omega
              case rel => exact ⟨(x7_8), (wrap64 (x8_5 + 1)), (by (simp only [i64_w, i32_w]; done)), (by (simp only [i64_w, i32_w]; done)), H', ⟨by have := HJ3.1; have := HJ5.1; have := HJ9.1; have := HJ12.1; have := HK5.1; have := HJ16.1; have := HJ41.1; have := HK8.1; omega⟩, ⟨by exact HO_5.1⟩, ⟨bk_ BK16⟩, ⟨hb_ HB⟩⟩
             clear HC46; (try clear c44b0); (try clear c45b0); (try clear hx726_0); (try clear p726); (try clear q726); obtain ⟨kq, HA, HJ45, HO_5, BK16, HR725_0, HR726_0, HB⟩ := hcut
             cases kq with
             | zero => exact absurd HA.1 (by simp [lw_BookmatchWhole.j8])
             | succ kj45 =>
              have H := HA.1; clear HA; simp only [lw_BookmatchWhole.j8] at H; have HC48 := ak H; clear H; (go_upto_block 3 with (fail)); (go_cut [7] (fun v7 wc => ∃ (kq : Nat) (x7_47 : Int), v7 = .int .i64 x7_47 ∧ Aside0 (lw_BookmatchWhole.j13 kq l0 a1 x5_9 x7_47 x8_5 x9_8 = some r) ∧ Aside0 (kq ≤ kj45) ∧ Aside0 (Kd.S (Kd.slice 39 k39) 25 wc w.heap.size (fun _ => True) (.slice (some ad725) x5_9.length co18) x5_9) ∧ Aside0 (wc.heap[0]? = some (.cells #[.bool false, .bool true] tg0 (0, 0))) ∧ Aside0 (Kd.C k39 wc A725_0 (rd_L10 x5_9 x8_5).length (rd_L10 x5_9 x8_5)) ∧ Aside0 (Kd.C k39 wc A726_0 (rd_L10 x5_9 x8_5).length (rd_L10 x5_9 x8_5)) ∧ Aside0 (Below w.heap.size w wc)))
              case first =>
               have H := HC48.1; clear HC48; (by_cases c49 : 0 ≤ x8_5)
               ·rw [if_pos c49] at H
                have c49b0 := decide_eq_true c49; clear c49; (by_cases c50 : x8_5 < (x5_9.length : Int))
                ·rw [if_pos c50] at H
                 have c50b0 := decide_eq_true c50; clear c50; (by_cases c51 : 0 ≤ x9_8)
                 ·rw [if_pos c51] at H
                  have c51b0 := decide_eq_true c51; clear c51; (by_cases c52 : x9_8 < ((rd_L10 x5_9 x8_5).length : Int))
                  ·rw [if_pos c52] at H
                   have c52b0 := decide_eq_true c52; clear c52; have HC53 := ak H; clear H; have p727 : 0 ≤ (x8_5 : Int) := od_; have q727 : x8_5 < (x5_9.length : Int) := od_; obtain ⟨ad727, A727_0, c727_0, e727, hx727_0, hl727_0, hi727_0⟩ := at_L10 (Kd.S_reads' HO_5.1).2.2 x8_5 p727 q727; (obtain rfl : ad725 = ad727 := (by injection e727)); (obtain ⟨ce727, hce727, hMe727, hcc727⟩ := Kd.S_get HO_5.1 [] x8_5 p727 (by exact q727)); obtain ⟨ve727_0, rfl, ge727_0⟩ := hMe727; have hv727_0 := hcc727 0 _ rfl; (rw [Nat.add_zero, show ((Kd.slice 39 k39)).sz = 1 from rfl, Nat.mul_one] at hv727_0); replace hv727_0 := Option.some.inj (hv727_0.symm.trans hx727_0); rw [hv727_0] at ge727_0; (have HL727_0 := ak (show Kd.R k39 39 _ _ _ _ (rd_L10 x5_9 x8_5) from ge727_0)); clear hv727_0 ge727_0 hcc727 hce727; have HR727_0 := ak hi727_0; have HC727_0 := ak hl727_0; clear hi727_0 hl727_0; replace p727 := eq_true p727; replace q727 := eq_true q727; have p728 : 0 ≤ (x9_8 : Int) := od_; have q728 : x9_8 < ((rd_L10 x5_9 x8_5).length : Int) := od_; (obtain ⟨ad728, e728, hx728_0, hx728_1⟩ := at_T39 (by repeat (with_reducible exact HR727_0.1)) x9_8 p728 q728); (cases e728); replace p728 := eq_true p728; replace q728 := eq_true q728; (go_upto_if 60 with (fail)); (go_cut [] (fun wc => ∃ (kq : Nat), Aside0 (lw_BookmatchWhole.j9 kq l0 a1 x5_9 x7_8 x8_5 x9_8 = some r) ∧ Aside0 (kq ≤ kj45) ∧ Aside0 (Kd.S (Kd.slice 39 k39) 25 wc w.heap.size (fun _ => True) (.slice (some ad725) x5_9.length co18) x5_9) ∧ Aside0 (wc.heap[0]? = some (.cells #[.bool false, .bool true] tg0 (0, 0))) ∧ Aside0 (Kd.C k39 wc A725_0 (rd_L10 x5_9 x8_5).length (rd_L10 x5_9 x8_5)) ∧ Aside0 (Kd.C k39 wc A726_0 (rd_L10 x5_9 x8_5).length (rd_L10 x5_9 x8_5)) ∧ Aside0 (Kd.C k39 wc (some ad728) (rd_L10 x5_9 x8_5).length (rd_L10 x5_9 x8_5)) ∧ Aside0 (Below w.heap.size w wc)))
                   case first =>
                    have H := HC53.1; clear HC53; (by_cases c54 : ((rd_T39 (rd_L10 x5_9 x8_5) x9_8).f0) = x7_8)
                    ·rw [if_pos c54] at H
                     have c54b0 := beq_iff_eq.mpr c54; have c54b1 := bne_eq_false_iff_eq.mpr c54; clear c54; have H' := ak H; clear H; (go_wp2); (go_meet)
                     case rel => exact ⟨_, H', ⟨by have := HJ3.1; have := HJ5.1; have := HJ9.1; have := HJ12.1; have := HK5.1; have := HJ16.1; have := HJ41.1; have := HK8.1; have := HJ45.1; omega⟩, ⟨by exact HO_5.1⟩, ⟨bk_ BK16⟩, ⟨by repeat (with_reducible exact HR725_0.1)⟩, ⟨by repeat (with_reducible exact HR726_0.1)⟩, ⟨by repeat (with_reducible exact HR727_0.1)⟩, ⟨hb_ HB⟩⟩
                    rw [if_neg c54] at H; have c54b0 := beq_eq_false_iff_ne.mpr c54; have c54b1 := bne_iff_ne.mpr c54; obtain rfl := Option.some.inj H; (go_wp2); (go_ret); (exact ⟨by rfl, hb_ HB⟩)
                   clear HC53; (try clear c49b0); (try clear c50b0); (try clear c51b0); (try clear c52b0); (try clear hx727_0); (try clear hx728_0); (try clear hx728_1); (try clear p727); (try clear p728); (try clear q727); (try clear q728); obtain ⟨kq, HA, HJ52, HO_5, BK16, HR725_0, HR726_0, HR727_0, HB⟩ := hcut
                   cases kq with
                   | zero => exact absurd HA.1 (by simp [lw_BookmatchWhole.j9])
                   | succ kj52 =>
                    have H := HA.1; clear HA; simp only [lw_BookmatchWhole.j9] at H; have HC55 := ak H; clear H; (go_upto_if 64 with (fail)); (go_cut [] (fun wc => ∃ (kq : Nat), Aside0 (lw_BookmatchWhole.j10 kq l0 a1 x5_9 (wrap64 (x7_8 + 1)) x8_5 x9_8 = some r) ∧ Aside0 (kq ≤ kj52) ∧ Aside0 (Kd.S (Kd.slice 39 k39) 25 wc w.heap.size (fun _ => True) (.slice (some ad725) x5_9.length co18) x5_9) ∧ Aside0 (wc.heap[0]? = some (.cells #[.bool false, .bool true] tg0 (0, 0))) ∧ Aside0 (Kd.C k39 wc A725_0 (rd_L10 x5_9 x8_5).length (rd_L10 x5_9 x8_5)) ∧ Aside0 (Kd.C k39 wc A726_0 (rd_L10 x5_9 x8_5).length (rd_L10 x5_9 x8_5)) ∧ Aside0 (Kd.C k39 wc (some ad728) (rd_L10 x5_9 x8_5).length (rd_L10 x5_9 x8_5)) ∧ Aside0 (Below w.heap.size w wc)))
                    case first =>
                     have H := HC55.1; clear HC55; (by_cases c56 : x9_8 = 0)
                     ·rw [if_pos c56] at H
                      have c56b0 := beq_iff_eq.mpr c56; have c56b1 := bne_eq_false_iff_eq.mpr c56; clear c56; ((rw [c56b0])); have H' := ak H; clear H; (go_wp2); (go_meet)
                      case rel => exact ⟨_, (wrap64 (x7_8 + 1)), (by (simp only [i64_w, i32_w]; done)), H', ⟨by have := HJ3.1; have := HJ5.1; have := HJ9.1; have := HJ12.1; have := HK5.1; have := HJ16.1; have := HJ41.1; have := HK8.1; have := HJ45.1; have := HJ52.1; omega⟩, ⟨by exact HO_5.1⟩, ⟨bk_ BK16⟩, ⟨by repeat (with_reducible exact HR725_0.1)⟩, ⟨by repeat (with_reducible exact HR726_0.1)⟩, ⟨hb_ HB⟩⟩
                     rw [if_neg c56] at H
                     have c56b0 := beq_eq_false_iff_ne.mpr c56; have c56b1 := bne_iff_ne.mpr c56; ((rw [c56b0])); have H' := ak H; clear H; (go_wp2); (go_meet)
                     case rel => exact ⟨_, H', ⟨by have := HJ3.1; have := HJ5.1; have := HJ9.1; have := HJ12.1; have := HK5.1; have := HJ16.1; have := HJ41.1; have := HK8.1; have := HJ45.1; have := HJ52.1; omega⟩, ⟨by exact HO_5.1⟩, ⟨bk_ BK16⟩, ⟨by repeat (with_reducible exact HR725_0.1)⟩, ⟨by repeat (with_reducible exact HR726_0.1)⟩, ⟨by repeat (with_reducible exact HR727_0.1)⟩, ⟨hb_ HB⟩⟩
                    clear HC55; obtain ⟨kq, HA, HJ54, HO_5, BK16, HR725_0, HR726_0, HR727_0, HB⟩ := hcut
                    cases kq with
                    | zero => exact absurd HA.1 (by simp [lw_BookmatchWhole.j10])
                    | succ kj54 =>
                     have H := HA.1; clear HA; simp only [lw_BookmatchWhole.j10] at H; have HC57 := ak H; clear H; (go_upto_region 19 with (fail)); (go_cut [10, 11] (fun v10 v11 wc => ∃ (kq : Nat) (x10_56 : Int) (x11_56 : Int), v10 = .int .i64 x10_56 ∧ v11 = .int .i64 x11_56 ∧ Aside0 (lw_BookmatchWhole.j11 kq l0 a1 x5_9 (wrap64 (x7_8 + 1)) x8_5 x9_8 x10_56 x11_56 = some r) ∧ Aside0 (kq ≤ kj54) ∧ Aside0 (Kd.S (Kd.slice 39 k39) 25 wc w.heap.size (fun _ => True) (.slice (some ad725) x5_9.length co18) x5_9) ∧ Aside0 (wc.heap[0]? = some (.cells #[.bool false, .bool true] tg0 (0, 0))) ∧ Aside0 (Kd.C k39 wc A725_0 (rd_L10 x5_9 x8_5).length (rd_L10 x5_9 x8_5)) ∧ Aside0 (Kd.C k39 wc A726_0 (rd_L10 x5_9 x8_5).length (rd_L10 x5_9 x8_5)) ∧ Aside0 (Kd.C k39 wc (some ad728) (rd_L10 x5_9 x8_5).length (rd_L10 x5_9 x8_5)) ∧ Aside0 (Below w.heap.size w wc)))
                     case first =>
                      have H := HC57.1; clear HC57; (by_cases c58 : 0 ≤ x8_5)
                      ·rw [if_pos c58] at H
                       have c58b0 := decide_eq_true c58; clear c58; (by_cases c59 : x8_5 < (x5_9.length : Int))
                       ·rw [if_pos c59] at H
                        have c59b0 := decide_eq_true c59; clear c59; obtain ⟨ji60, hji60⟩ : ∃ j_ : Int, (wrap64 (x9_8 - 1)) = j_ := ⟨_, rfl⟩; (replace H : (if 0 ≤ (ji60) then (if (ji60) ≤ (wrap64 (x9_8 + 1)) then (if (wrap64 (x9_8 + 1)) ≤ ((rd_L10 x5_9 x8_5).length : Int) then ((m_Cost.f kj54 l0 (((rd_L10 x5_9 x8_5).take ((wrap64 (x9_8 + 1)) : Int).toNat).drop ((ji60) : Int).toNat)).bind fun bt734 => (lw_BookmatchWhole.j11 kj54 l0 a1 x5_9 (wrap64 (x7_8 + 1)) x8_5 x9_8 bt734.1 bt734.2)) else (none)) else (none)) else (none)) = some r := by (rw [hji60] at H; exact H)); have hji60w : (IntKind.i64.wrap (x9_8 - 1)) = ji60 := (i64_w _).trans hji60; (by_cases c61 : 0 ≤ (ji60))
                        ·rw [if_pos c61] at H
                         have c61b0 := eq_true c61; have c61b1 := decide_eq_true c61; clear c61; (by_cases c62 : (ji60) ≤ (wrap64 (x9_8 + 1)))
                         ·rw [if_pos c62] at H
                          have c62b0 := eq_true c62; have c62b1 := decide_eq_true c62; (by_cases c63 : (wrap64 (x9_8 + 1)) ≤ ((rd_L10 x5_9 x8_5).length : Int))
                          ·rw [if_pos c63] at H
                           have c63b0 := eq_true c63; have c63b1 := decide_eq_true c63; obtain ⟨y730, hy730⟩ : ∃ y_ : List (S39), y_ = (((rd_L10 x5_9 x8_5).take ((wrap64 (x9_8 + 1)) : Int).toNat).drop ((ji60) : Int).toNat) := ⟨_, rfl⟩; (replace H : ((m_Cost.f kj54 l0 y730).bind fun bt734 => (lw_BookmatchWhole.j11 kj54 l0 a1 x5_9 (wrap64 (x7_8 + 1)) x8_5 x9_8 bt734.1 bt734.2)) = some r := by (rw [hy730]; with_reducible exact H)); have Ny730 := ak hy730; clear hy730; obtain ⟨⟨t734, t735⟩, A640, H⟩ := obs_ H; replace H : (lw_BookmatchWhole.j11 kj54 l0 a1 x5_9 (wrap64 (x7_8 + 1)) x8_5 x9_8 t734 t735) = some r := H; have A64 := ak A640; clear A640; have H' := ak H; clear H; have p729 : 0 ≤ (x8_5 : Int) := od_; have q729 : x8_5 < (x5_9.length : Int) := od_; obtain ⟨ad729, A729_0, c729_0, e729, hx729_0, hl729_0, hi729_0⟩ := at_L10 (Kd.S_reads' HO_5.1).2.2 x8_5 p729 q729; (obtain rfl : ad725 = ad729 := (by injection e729)); (obtain ⟨ce729, hce729, hMe729, hcc729⟩ := Kd.S_get HO_5.1 [] x8_5 p729 (by exact q729)); obtain ⟨ve729_0, rfl, ge729_0⟩ := hMe729; have hv729_0 := hcc729 0 _ rfl; (rw [Nat.add_zero, show ((Kd.slice 39 k39)).sz = 1 from rfl, Nat.mul_one] at hv729_0); replace hv729_0 := Option.some.inj (hv729_0.symm.trans hx729_0); rw [hv729_0] at ge729_0; (have HL729_0 := ak (show Kd.R k39 39 _ _ _ _ (rd_L10 x5_9 x8_5) from ge729_0)); clear hv729_0 ge729_0 hcc729 hce729; have HR729_0 := ak hi729_0; have HC729_0 := ak hl729_0; clear hi729_0 hl729_0; replace p729 := eq_true p729; replace q729 := eq_true q729; have q65 : ((wrap64 (x9_8 + 1)) : Int) ≤ (((rd_L10 x5_9 x8_5).length : Int) : Int) := od_; obtain ⟨i065, hi065, _, hsz65, _⟩ := info_parts info39; have hroom65 : (rd_L10 x5_9 x8_5).length ≤ c729_0 := HC729_0.1; (have hC65 : Kd.C k39 _ A729_0 (rd_L10 x5_9 x8_5).length (rd_L10 x5_9 x8_5) := (by repeat (with_reducible exact HR729_0.1))); have ql65 : ((ji60) : Int) ≤ ((wrap64 (x9_8 + 1)) : Int) := od_; have q065 : (0 : Int) ≤ ((ji60) : Int) := od_; have hcut65 := cut_mid (P := Tryd.prog) 25 39 .i64 .i64 Tryd.underlying25 hi065 2 hsz65 A729_0 (rd_L10 x5_9 x8_5).length c729_0 (ji60) (wrap64 (x9_8 + 1)) q065 ql65 q65 hroom65
                           (have hr65 := Kd.C_mid (lo := ((ji60) : Int).toNat) (hi := ((wrap64 (x9_8 + 1)) : Int).toNat) (c := c729_0) hC65 (by omega) (by omega) hroom65); (obtain ⟨A65, hA65⟩ : ∃ A1, A1 = (if c729_0 = ((ji60) : Int).toNat then A729_0 else (A729_0 : Option Addr).map (·.add (((ji60) : Int).toNat * 2))) := ⟨_, rfl⟩); obtain ⟨c65, hc65⟩ : ∃ c1, c1 = c729_0 - ((ji60) : Int).toNat := ⟨_, rfl⟩; (have hy65 : y730.length = ((wrap64 (x9_8 + 1)) : Int).toNat - ((ji60) : Int).toNat := (by rw [Ny730.1, List.length_drop, List.length_take] <;> omega)); (rw [show ((rd_L10 x5_9 x8_5).take ((wrap64 (x9_8 + 1)) : Int).toNat).drop ((ji60) : Int).toNat = y730 from Ny730.1.symm] at hr65); (replace hr65 : Kd.C k39 _ A65 y730.length y730 := (by rw [hA65]; exact hr65)); rw [← hy65, ← hA65, ← hc65] at hcut65; have HR733 := ak hr65; (have HC733 := ak (show y730.length ≤ c65 from by rw [hy65, hc65]; exact Nat.sub_le_sub_right (Nat.le_trans (by omega) hroom65) _)); clear hr65 hC65 hroom65 hi065 hsz65 hc65; have KY65 := ak hy65; have KA65 := ak hA65; clear hy65 hA65; replace q65 := eq_true q65; (go_wp2_with (first | ((with_reducible refine gate_callee (f := 20) rfl ?_); refine goesL_ (some 76) rfl rfl Tryd.func20 (by kernel_rfl) rfl #[.slice A0 l0.length c0, .slice A65 y730.length c65] rfl am_ ?_; (with_reducible refine (m_Cost.calls kj54 _ _ l0 _ _ y730 t734 t735 _ ?side1 ?side2 ?side3 ?side4 A64.1).mono ?_); (case side1 => exact (Kd.C_below HR0.1 HB.1)); (case side2 => exact HC0.1); (case side3 => exact (by repeat (with_reducible exact HR733.1))); (case side4 => exact HC733.1); rintro e w66 ⟨rfl, hb⟩; refine ⟨_, rfl, ?_⟩; replace HO_5 := ak (Kd.S_below (by exact HO_5.1) hb); replace HL729_0 := rb_ HL729_0 hb; replace BK16 := bg0 (t := tg0) (bk_ BK16) hb; replace HR725_0 := ak (Kd.C_below (by exact HR725_0.1) hb); replace HR726_0 := ak (Kd.C_below (by exact HR726_0.1) hb); replace HR727_0 := ak (Kd.C_below (by exact HR727_0.1) hb); replace HR729_0 := ak (Kd.C_below (by exact HR729_0.1) hb); replace HR733 := ak (Kd.C_below (by exact HR733.1) hb); replace HB := hs_ HB hb; (try clear hb))))
                           go_meet
                           case rel => exact ⟨_, (t734), (t735), (by rfl), (by rfl), H', ⟨by have := HJ3.1; have := HJ5.1; have := HJ9.1; have := HJ12.1; have := HK5.1; have := HJ16.1; have := HJ41.1; have := HK8.1; have := HJ45.1; have := HJ52.1; have := HJ54.1; omega⟩, ⟨by exact HO_5.1⟩, ⟨bk_ BK16⟩, ⟨by repeat (with_reducible exact HR725_0.1)⟩, ⟨by repeat (with_reducible exact HR726_0.1)⟩, ⟨by repeat (with_reducible exact HR727_0.1)⟩, ⟨hb_ HB⟩⟩
                          rw [if_neg c63] at H; (exact absurd H (by simp))
                         rw [if_neg c62] at H; (exact absurd H (by simp))
                        rw [if_neg c61] at H; (exact absurd H (by simp))
                       rw [if_neg c59] at H; (exact absurd H (by simp))
                      rw [if_neg c58] at H; (exact absurd H (by simp))
                     clear HC57; obtain ⟨kq, x10_56, x11_56, rfl, rfl, HA, HJ56, HO_5, BK16, HR725_0, HR726_0, HR727_0, HB⟩ := hcut
                     cases kq with
                     | zero => exact absurd HA.1 (by simp [lw_BookmatchWhole.j11])
                     | succ kj56 =>
                      have H := HA.1; clear HA; simp only [lw_BookmatchWhole.j11] at H; have HC67 := ak H; clear H; (go_upto_region 20 with (fail)); (go_cut [85] (fun v85 wc => ∃ (kq : Nat) (x85_66 : Bool), v85 = .bool x85_66 ∧ Aside0 (lw_BookmatchWhole.j12 kq l0 a1 x5_9 (wrap64 (x7_8 + 1)) x8_5 x9_8 x85_66 = some r) ∧ Aside0 (kq ≤ kj56) ∧ Aside0 (Kd.S (Kd.slice 39 k39) 25 wc w.heap.size (fun _ => True) (.slice (some ad725) x5_9.length co18) x5_9) ∧ Aside0 (wc.heap[0]? = some (.cells #[.bool false, .bool true] tg0 (0, 0))) ∧ Aside0 (Kd.C k39 wc A725_0 (rd_L10 x5_9 x8_5).length (rd_L10 x5_9 x8_5)) ∧ Aside0 (Kd.C k39 wc A726_0 (rd_L10 x5_9 x8_5).length (rd_L10 x5_9 x8_5)) ∧ Aside0 (Kd.C k39 wc (some ad728) (rd_L10 x5_9 x8_5).length (rd_L10 x5_9 x8_5)) ∧ Aside0 (Below w.heap.size w wc)))
                      case first =>
                       have H := HC67.1; clear HC67; (by_cases c68 : x11_56 = 0)
                       ·rw [if_pos c68] at H
                        have c68b0 := beq_iff_eq.mpr c68; have c68b1 := bne_eq_false_iff_eq.mpr c68; clear c68; have H' := ak H; clear H; (go_wp2); (go_meet)
                        case rel => exact ⟨_, (decide (x10_56 > a1)), (by rfl), H', ⟨by have := HJ3.1; have := HJ5.1; have := HJ9.1; have := HJ12.1; have := HK5.1; have := HJ16.1; have := HJ41.1; have := HK8.1; have := HJ45.1; have := HJ52.1; have := HJ54.1; have := HJ56.1; omega⟩, ⟨by exact HO_5.1⟩, ⟨bk_ BK16⟩, ⟨by repeat (with_reducible exact HR725_0.1)⟩, ⟨by repeat (with_reducible exact HR726_0.1)⟩, ⟨by repeat (with_reducible exact HR727_0.1)⟩, ⟨hb_ HB⟩⟩
                       rw [if_neg c68] at H
                       have c68b0 := beq_eq_false_iff_ne.mpr c68; have c68b1 := bne_iff_ne.mpr c68; have H' := ak H; clear H; (go_wp2); (go_meet)
                       case rel => exact ⟨_, (true), (by rfl), H', ⟨by have := HJ3.1; have := HJ5.1; have := HJ9.1; have := HJ12.1; have := HK5.1; have := HJ16.1; have := HJ41.1; have := HK8.1; have := HJ45.1; have := HJ52.1; have := HJ54.1; have := HJ56.1; omega⟩, ⟨by exact HO_5.1⟩, ⟨bk_ BK16⟩, ⟨by repeat (with_reducible exact HR725_0.1)⟩, ⟨by repeat (with_reducible exact HR726_0.1)⟩, ⟨by repeat (with_reducible exact HR727_0.1)⟩, ⟨hb_ HB⟩⟩
                      clear HC67; obtain ⟨kq, x85_66, rfl, HA, HJ66, HO_5, BK16, HR725_0, HR726_0, HR727_0, HB⟩ := hcut
                      cases kq with
                      | zero => exact absurd HA.1 (by simp [lw_BookmatchWhole.j12])
                      | succ kj66 =>
                       have H := HA.1; clear HA; simp only [lw_BookmatchWhole.j12] at H; (by_cases c69 : x85_66 = true)
                       ·subst c69; (replace H : (some false) = some r := by rw [if_pos rfl] at H; exact H); obtain rfl := Option.some.inj H; (go_wp2); (go_ret); (exact ⟨by rfl, hb_ HB⟩)
                       replace c69 := Bool.eq_false_iff.mpr c69
                       subst c69; (replace H : (lw_BookmatchWhole.j13 kj66 l0 a1 x5_9 (wrap64 (x7_8 + 1)) x8_5 x9_8) = some r := by rw [if_neg (show ¬ (false = true) by decide)] at H; exact H); have H' := ak H; clear H; (go_wp2); (go_meet)
                       case rel => exact ⟨_, ((wrap64 (x7_8 + 1))), (by (simp only [i64_w, i32_w]; done)), H', ⟨by have := HJ3.1; have := HJ5.1; have := HJ9.1; have := HJ12.1; have := HK5.1; have := HJ16.1; have := HJ41.1; have := HK8.1; have := HJ45.1; have := HJ52.1; have := HJ54.1; have := HJ56.1; have := HJ66.1; omega⟩, ⟨by exact HO_5.1⟩, ⟨bk_ BK16⟩, ⟨by repeat (with_reducible exact HR725_0.1)⟩, ⟨by repeat (with_reducible exact HR726_0.1)⟩, ⟨hb_ HB⟩⟩
                  rw [if_neg c52] at H; (exact absurd H (by simp))
                 rw [if_neg c51] at H; (exact absurd H (by simp))
                rw [if_neg c50] at H; (exact absurd H (by simp))
               rw [if_neg c49] at H; (exact absurd H (by simp))
              clear HC48; obtain ⟨kq, x7_47, rfl, HA, HJ47, HO_5, BK16, HR725_0, HR726_0, HB⟩ := hcut
              cases kq with
              | zero => exact absurd HA.1 (by simp [lw_BookmatchWhole.j13])
              | succ kj47 =>
               have H := HA.1; clear HA; simp only [lw_BookmatchWhole.j13] at H; have H' := ak H; clear H; (go_wp2); (go_roundg kj47)
               case measure => have := HJ3.1; have := HJ5.1; have := HJ9.1; have := HJ12.1; have := HK5.1; have := HJ16.1; have := HJ41.1; have := HK8.1; have := HJ45.1; have := HJ47.1; omega
               case rel => exact ⟨(x7_47), (wrap64 (x9_8 + 1)), (by (simp only [i64_w, i32_w]; done)), (by (simp only [i64_w, i32_w]; done)), H', ⟨by have := HJ3.1; have := HJ5.1; have := HJ9.1; have := HJ12.1; have := HK5.1; have := HJ16.1; have := HJ41.1; have := HK8.1; have := HJ45.1; have := HJ47.1; omega⟩, ⟨by exact HO_5.1⟩, ⟨bk_ BK16⟩, ⟨by repeat (with_reducible exact HR725_0.1)⟩, ⟨hb_ HB⟩⟩
            rw [if_neg c45] at H; (exact absurd H (by simp))
           rw [if_neg c44] at H; (exact absurd H (by simp))
        rw [if_neg c41] at H; (exact absurd H (by simp))
       rw [if_neg c40] at H; (exact absurd H (by simp))

/-- THE ONE PURE STATEMENT of lw_BookmatchWhole. -/
def lw_BookmatchWhole.Pure : Prop := ∀ (l0 : List (S62)) (a1 : Int), (gSl g62) l0 → (gInt .i64) a1 → ∃ k, lw_BookmatchWhole.f k l0 a1 = some true
theorem lw_BookmatchWhole.walk (P : lw_BookmatchWhole.Pure) (A0 : Option Addr) (c0 : Nat) (l0 : List (S62)) (a1 : Int) (tg0 : TypeId) (w : World) (w0 : (gSl g62) l0) (w1 : (gInt .i64) a1) (hr0 : Kd.C k62 w A0 l0.length l0) (hc0 : l0.length ≤ c0) (hb16 : w.heap[0]? = some (.cells #[.bool false, .bool true] tg0 (0, 0))) :
  Calls Tryd.prog 4 #[.slice A0 l0.length c0, .int .i64 a1] w fun e w' => e = .returned (.bool true) ∧ Below w.heap.size w w' := by
 obtain ⟨k, h⟩ := P l0 a1 w0 w1
 refine (lw_BookmatchWhole.calls k _ _ l0 a1 tg0 true w hr0 hc0 hb16 h).mono ?_
 rintro e w' ⟨rfl, hd⟩
 exact ⟨rfl, hd⟩

end Go.Proofs.YtglkcinmohjblaaDoor.XA
