-- written by xprint.py, this project's own program (wip/), over the words of print.sh
import Derived.Test.YtjlljjnkjhdljaaXAx0
import Derived.Test.YtjlljjnkjhdljaaXAx19
import Derived.Test.YtjlljjnkjhdljaaXAx24
import Derived.Test.YtjlljjnkjhdljaaFlat
namespace Go.Proofs.Ytjlljjnkjhdljaa.XA
open Go.Proofs.Ytjlljjnkjhdljaa.Flat Go.RowKit Go.Proofs.Ytjlljjnkjhdljaa.Opens Go.Proofs.YtjlljjnkjhdljaaW.PrintWords Go.Proofs.YtjlljjnkjhdljaaW.PrintLast Go.Proofs.YtjlljjnkjhdljaaW.PrintMore
attribute [local go_sem] max2_int min2_int max_two min_two max_three min_three max_four min_four cell_some cell_same   -- for this text's walks alone
set_option linter.unusedVariables false
set_option linter.unusedSimpArgs false

/-! ### gangsawref40_Template: function 30 -/
mutual
def gangsawref40_Template.l0 : Nat → List (S46) → Int → Int → Int → Option ((List (S46)))
 | 0, _, _, _, _ => none
 | k + 1, x0, x3, x4, x5 => if x5 < 4 then (if 0 ≤ x5 then (if x5 < (x0.length : Int) then (gangsawref40_Template.l0 k x0 (mn x3 ((rd_T46 x0 x5).f0)) (mn x4 ((rd_T46 x0 x5).f1)) (wrap64 (x5 + 1))) else (none)) else (none)) else (gangsawref40_Template.l1 k x0 x3 x4 (([] : List (S46))) 0)
def gangsawref40_Template.l1 : Nat → List (S46) → Int → Int → List (S46) → Int → Option ((List (S46)))
 | 0, _, _, _, _, _ => none
 | k + 1, x0, x3, x4, x6, x7 => if x7 < 4 then (if 0 ≤ x7 then (if x7 < (x0.length : Int) then (if x6.length < 8796093022208 then (gangsawref40_Template.l1 k x0 x3 x4 (x6 ++ [(⟨wrap64 (((rd_T46 x0 x7).f0) - x3), wrap64 (((rd_T46 x0 x7).f1) - x4)⟩ : S46)]) (wrap64 (x7 + 1))) else (none)) else (none)) else (none)) else (some x6)
end
def gangsawref40_Template.f (k : Nat) (l0 : List (S46)) : Option ((List (S46))) := if 0 < (l0.length : Int) then (gangsawref40_Template.l0 k l0 ((rd_T46 l0 0).f0) ((rd_T46 l0 0).f1) 0) else (none)
theorem gangsawref40_Template.mono_l : ∀ k, (∀ y0 y1 y2 y3, LeO (gangsawref40_Template.l0 k y0 y1 y2 y3) (gangsawref40_Template.l0 (k + 1) y0 y1 y2 y3)) ∧ (∀ y0 y1 y2 y3 y4, LeO (gangsawref40_Template.l1 k y0 y1 y2 y3 y4) (gangsawref40_Template.l1 (k + 1) y0 y1 y2 y3 y4))
 | 0 => ⟨fun _ _ _ _ r h => by simp [gangsawref40_Template.l0] at h, fun _ _ _ _ _ r h => by simp [gangsawref40_Template.l1] at h⟩
 | k + 1 => by
  (obtain ⟨ih0, ih1⟩ := gangsawref40_Template.mono_l k); (refine ⟨?_, ?_⟩); (all_goals (intros; (first | unfold gangsawref40_Template.l0 | unfold gangsawref40_Template.l1)))
  all_goals (repeat' first
   | (with_reducible exact ih0 _ _ _ _)
   | (with_reducible exact ih1 _ _ _ _ _)
   | (with_reducible exact LeO.refl _)
   | (with_reducible exact LeO.none _)
   | (with_reducible refine LeO.ite ?_ ?_)
   | (with_reducible refine LeO.bind ?_ (fun _ => ?_))
   | exact ih0 _ _ _ _
   | exact ih1 _ _ _ _ _
   | exact LeO.none _
   | refine LeO.ite ?_ ?_
   | refine LeO.bind ?_ (fun _ => ?_))
theorem gangsawref40_Template.mono : ∀ a0 k, LeO (gangsawref40_Template.f k a0) (gangsawref40_Template.f (k + 1) a0) := by
 intro a0 k
 obtain ⟨ih0, ih1⟩ := gangsawref40_Template.mono_l k
 unfold gangsawref40_Template.f
 repeat' first
   | (with_reducible exact ih0 _ _ _ _)
   | (with_reducible exact ih1 _ _ _ _ _)
   | (with_reducible exact LeO.refl _)
   | (with_reducible exact LeO.none _)
   | (with_reducible refine LeO.ite ?_ ?_)
   | (with_reducible refine LeO.bind ?_ (fun _ => ?_))
   | exact ih0 _ _ _ _
   | exact ih1 _ _ _ _ _
   | exact LeO.none _
   | refine LeO.ite ?_ ?_
   | refine LeO.bind ?_ (fun _ => ?_)
def gangsawref40_Template.T1 : Bool × List (List Nat × List Nat) := (true, [([], []), ([0], [0]), ([1], [1]), ([2], [2]), ([], []), ([4], [4]), ([5], [5]), ([6], [6]), ([3, 0, 1, 2, 3], [3]), ([7, 8, 0, 1, 2, 3, 4, 5, 6, 7, 8], [7])])
def gangsawref40_Template.B1 : List Nat := [0, 1, 3, 7, 0, 16, 48, 112, 15, 511]
theorem gangsawref40_Template.tab1 : rtab .any (opsOf Try.f30 1) = gangsawref40_Template.T1 := by kernel_rfl
theorem gangsawref40_Template.bits1 : waitsOk gangsawref40_Template.T1.2 gangsawref40_Template.B1 = true := by kernel_rfl
def gangsawref40_Template.T5 : Bool × List (List Nat × List Nat) := (true, [([], []), ([], []), ([], []), ([1, 2], [1, 2]), ([3], [3]), ([4], [4]), ([0, 5], [0, 5]), ([], []), ([], []), ([], []), ([8, 9], [8, 9]), ([10], [10]), ([11], [11]), ([7, 12], [7, 12]), ([6, 0, 1, 2, 3, 4, 5, 6], [0, 6]), ([13, 14, 0, 1, 2, 3, 4, 5, 6, 7, 8, 9, 10, 11, 12, 13, 14], [7, 13])])
def gangsawref40_Template.B5 : List Nat := [0, 0, 0, 6, 14, 30, 63, 0, 0, 0, 768, 1792, 3840, 8064, 127, 32767]
theorem gangsawref40_Template.tab5 : rtab .any (opsOf Try.f30 5) = gangsawref40_Template.T5 := by kernel_rfl
theorem gangsawref40_Template.bits5 : waitsOk gangsawref40_Template.T5.2 gangsawref40_Template.B5 = true := by kernel_rfl
def gangsawref40_Template.T10 : Bool × List (List Nat × List Nat) := (true, [([], []), ([], []), ([], []), ([1, 2], [1, 2]), ([3], [3]), ([4], [4]), ([], []), ([5, 6], [5, 6]), ([], []), ([], []), ([8, 9], [8, 9]), ([10], [10]), ([11], [11]), ([], []), ([12, 13], [12, 13]), ([7, 14], [7, 14]), ([15], [15]), ([0, 16], [0, 16]), ([17, 17, 0, 1, 2, 3, 4, 5, 6, 7, 8, 9, 10, 11, 12, 13, 14, 15, 16, 17], [0, 17])])
def gangsawref40_Template.B10 : List Nat := [0, 0, 0, 6, 14, 30, 0, 126, 0, 0, 768, 1792, 3840, 0, 16128, 32766, 65534, 131071, 262143]
theorem gangsawref40_Template.tab10 : rtab .any (opsOf Try.f30 10) = gangsawref40_Template.T10 := by kernel_rfl
theorem gangsawref40_Template.bits10 : waitsOk gangsawref40_Template.T10.2 gangsawref40_Template.B10 = true := by kernel_rfl
set_option maxHeartbeats 8000000 in
set_option maxRecDepth 100000 in
theorem gangsawref40_Template.calls (k : Nat) (A0 : Option Addr) (c0 : Nat) (l0 : List (S46)) (r : List (S46)) (w : World) (hr0 : Kd.C k46 w A0 l0.length l0) (hc0 : l0.length ≤ c0) (h : gangsawref40_Template.f k l0 = some r) :
  Calls Try.prog 30 #[.slice A0 l0.length c0] w fun e w' => ∃ v0_ : Value, e = .returned (v0_) ∧ Kd.R k46 46 w' w.heap.size (fun _ => True) v0_ r ∧ Below w.heap.size w w' := by
 have hu46 := Try.underlying46
 have HR0 := Aside0.mk hr0
 have HC0 := Aside0.mk hc0
 clear hr0 hc0
 have HB := Aside0.mk (Below.refl w.heap.size w)
 have H : (if 0 < (l0.length : Int) then (gangsawref40_Template.l0 k l0 ((rd_T46 l0 0).f0) ((rd_T46 l0 0).f1) 0) else (none)) = some r := h
 clear h
 by_cases c2 : 0 < (l0.length : Int)
 ·rw [if_pos c2] at H
  (have c2b0 := decide_eq_true c2); (have c2b1 : decide (0 < l0.length) = true := decide_eq_true (by omega)); (clear c2); (have H' := Aside0.mk H); (clear H); (go_enter Try.func30, Try.ntmps30); (try go_wp2); (replace HB := Aside0.mk (below_drew1 HB.out)); (have p473 : 0 ≤ (0 : Int) := (by omega)); (have q473 : 0 < (l0.length : Int) := of_decide_eq_true (by first | (with_reducible assumption) | assumption)); (obtain ⟨ad473, e473, hx473_0, hx473_1⟩ := at_T46 HR0.out 0 p473 q473); (have hw473_1 := hx473_1); ((try rw [show ((0 : Int)).toNat = 0 from rfl] at hw473_1)); ((try rw [show 0 * 2 = 0 from rfl] at hw473_1)); ((try rw [Addr.add_zero'] at hw473_1)); (have hw473_0 := hx473_0); ((try rw [show ((0 : Int)).toNat = 0 from rfl] at hw473_0)); ((try rw [show 0 * 2 = 0 from rfl] at hw473_0)); ((try rw [Addr.add_zero'] at hw473_0)); (cases e473); (have qi473 : (0 < l0.length) = True := eq_true (by omega)); ((try rw [show ((0 : Int)).toNat = 0 from rfl] at hx473_0)); ((try rw [show 0 * 2 = 0 from rfl] at hx473_0)); ((try rw [Addr.add_zero'] at hx473_0)); ((try rw [show ((0 : Int)).toNat = 0 from rfl] at hx473_1)); ((try rw [show 0 * 2 = 0 from rfl] at hx473_1)); ((try rw [Addr.add_zero'] at hx473_1)); (replace hx473_0 := (HB.out.cell (World.block_lt_of_cell? w _ hx473_0)).trans hx473_0); (replace hx473_1 := (HB.out.cell (World.block_lt_of_cell? w _ hx473_1)).trans hx473_1); (replace p473 := eq_true p473); (replace q473 := eq_true q473); (have p474 : 0 ≤ (0 : Int) := (by omega)); (have q474 : 0 < (l0.length : Int) := of_decide_eq_true (by first | (with_reducible assumption) | assumption)); (obtain ⟨ad474, e474, hx474_0, hx474_1⟩ := at_T46 HR0.out 0 p474 q474); (have hw474_1 := hx474_1); ((try rw [show ((0 : Int)).toNat = 0 from rfl] at hw474_1)); ((try rw [show 0 * 2 = 0 from rfl] at hw474_1)); ((try rw [Addr.add_zero'] at hw474_1)); (have hw474_0 := hx474_0); ((try rw [show ((0 : Int)).toNat = 0 from rfl] at hw474_0)); ((try rw [show 0 * 2 = 0 from rfl] at hw474_0)); ((try rw [Addr.add_zero'] at hw474_0)); (obtain rfl : ad473 = ad474 := (by injection e474)); (have qi474 : (0 < l0.length) = True := eq_true (by omega)); ((try rw [show ((0 : Int)).toNat = 0 from rfl] at hx474_0)); ((try rw [show 0 * 2 = 0 from rfl] at hx474_0)); ((try rw [Addr.add_zero'] at hx474_0)); ((try rw [show ((0 : Int)).toNat = 0 from rfl] at hx474_1)); ((try rw [show 0 * 2 = 0 from rfl] at hx474_1)); ((try rw [Addr.add_zero'] at hx474_1)); (replace hx474_0 := (HB.out.cell (World.block_lt_of_cell? w _ hx474_0)).trans hx474_0); (replace hx474_1 := (HB.out.cell (World.block_lt_of_cell? w _ hx474_1)).trans hx474_1); (replace p474 := eq_true p474); (replace q474 := eq_true q474); (refine start_ (n := 10) (S := fun w' => w'.cell? ad473 = some (.int .i64 ((rd_T46 l0 0).f0)) ∧ w'.cell? ⟨ad473.block, ad473.off + 1, none⟩ = some (.int .i64 ((rd_T46 l0 0).f1)) ∧ w'.cell? ad473 = some (.int .i64 ((rd_T46 l0 0).f0)) ∧ w'.cell? ⟨ad473.block, ad473.off + 1, none⟩ = some (.int .i64 ((rd_T46 l0 0).f1))) (ds := []) (bm 10 0) (by kernel_rfl) rfl rfl ⟨((HB.out.cell (World.block_lt_of_cell? w _ hw473_0)).trans hw473_0), ((HB.out.cell (World.block_lt_of_cell? w _ hw473_1)).trans hw473_1), ((HB.out.cell (World.block_lt_of_cell? w _ hw474_0)).trans hw474_0), ((HB.out.cell (World.block_lt_of_cell? w _ hw474_1)).trans hw474_1)⟩ (fun hHeld => ?_); refine with_tabW gangsawref40_Template.tab1 gangsawref40_Template.bits1 (fun HT_ HW_ => ?_))
  (generalize w.drew = w3 at HB hx473_0 hx473_1 hx474_0 hx474_1 hHeld ⊢); (refine pv_ 0 HT_ ?_); (refine pv_ 1 HT_ ?_); (refine pv_ 2 HT_ ?_); (refine pv_ 4 HT_ ?_); (refine pv_ 5 HT_ ?_); (refine pv_ 6 HT_ ?_); (refine tv_ 3 HT_ HW_ hHeld ?_); (refine pv_ 8 HT_ ?_); (refine tv_ 7 HT_ HW_ hHeld ?_); (refine pv_ 9 HT_ ?_); (refine done_ (done_of HT_.out (by kernel_rfl)) ?_); (try go_wp2); (go_loopg [3, 4, 5] k (fun kq v3 v4 v5 w' => ∃ (x3_1 : Int) (x4_1 : Int) (x5_1 : Int), v3 = .int .i64 x3_1 ∧ v4 = .int .i64 x4_1 ∧ v5 = .int .i64 x5_1 ∧ Aside0 (gangsawref40_Template.l0 kq l0 x3_1 x4_1 x5_1 = some r) ∧ Aside0 (kq ≤ k) ∧ Aside0 (Below w.heap.size w w')))
  case atStart => exact ⟨((rd_T46 l0 0).f0), ((rd_T46 l0 0).f1), (0), (by first | rfl | (simp; done) | (simp [*]; done)), (by first | rfl | (simp; done) | (simp [*]; done)), (by first | rfl | (simp; done) | (simp [*]; done)), H', ⟨Nat.le_refl _⟩, ⟨hb_ HB⟩⟩
  case round =>
   (clear H'); (try clear c2); (try clear c2b0); (try clear c2b1); (try clear p2); (try clear c3); (try clear hx473_0); (try clear hx473_1); (try clear hx474_0); (try clear hx474_1); (try clear p473); (try clear p474); (try clear q473); (try clear q474); (obtain ⟨x3_1, x4_1, x5_1, rfl, rfl, rfl, HA, HK1, HB⟩ := hrel)
   cases gk with
   | zero => exact absurd HA.out (by simp [gangsawref40_Template.l0])
   | succ k1 =>
    (have H := HA.out); (clear HA); (simp only [gangsawref40_Template.l0] at H); (by_cases c4 : x5_1 < 4)
    ·rw [if_pos c4] at H
     (have c4b0 := decide_eq_true c4); (clear c4); (by_cases c5 : 0 ≤ x5_1)
     ·rw [if_pos c5] at H
      (have c5b0 := decide_eq_true c5); (clear c5); (by_cases c6 : x5_1 < (l0.length : Int))
      ·rw [if_pos c6] at H
       (have c6b0 := decide_eq_true c6); (clear c6); (obtain ⟨ji7, hji7⟩ : ∃ j_ : Int, (mn x3_1 ((rd_T46 l0 x5_1).f0)) = j_ := ⟨_, rfl⟩); (replace H : (gangsawref40_Template.l0 k1 l0 ji7 (mn x4_1 ((rd_T46 l0 x5_1).f1)) (wrap64 (x5_1 + 1))) = some r := by first | (rw [hji7] at H; exact H) | (simp only [hji7] at H ⊢; exact H)); (have hji7_ : (if ((rd_T46 l0 x5_1).f0) < x3_1 then ((rd_T46 l0 x5_1).f0) else x3_1) = ji7 := hji7); (obtain ⟨ji8, hji8⟩ : ∃ j_ : Int, (mn x4_1 ((rd_T46 l0 x5_1).f1)) = j_ := ⟨_, rfl⟩); (replace H : (gangsawref40_Template.l0 k1 l0 ji7 ji8 (wrap64 (x5_1 + 1))) = some r := by first | (rw [hji8] at H; exact H) | (simp only [hji8] at H ⊢; exact H)); (have hji8_ : (if ((rd_T46 l0 x5_1).f1) < x4_1 then ((rd_T46 l0 x5_1).f1) else x4_1) = ji8 := hji8); (have H' := Aside0.mk H); (clear H); (try go_wp2); (replace HB := Aside0.mk (below_drew1 HB.out)); (have p475 : 0 ≤ (x5_1 : Int) := of_decide_eq_true (by first | (with_reducible assumption) | assumption)); (have q475 : x5_1 < (l0.length : Int) := of_decide_eq_true (by first | (with_reducible assumption) | assumption)); (obtain ⟨ad475, e475, hx475_0, hx475_1⟩ := at_T46 HR0.out x5_1 p475 q475); (have hw475_1 := hx475_1); (have hw475_0 := hx475_0); (obtain rfl : ad473 = ad475 := (by injection e475)); (replace hx475_0 := (HB.out.cell (World.block_lt_of_cell? w _ hx475_0)).trans hx475_0); (replace hx475_1 := (HB.out.cell (World.block_lt_of_cell? w _ hx475_1)).trans hx475_1); (replace p475 := eq_true p475); (replace q475 := eq_true q475); (have p476 : 0 ≤ (x5_1 : Int) := of_decide_eq_true (by first | (with_reducible assumption) | assumption)); (have q476 : x5_1 < (l0.length : Int) := of_decide_eq_true (by first | (with_reducible assumption) | assumption)); (obtain ⟨ad476, e476, hx476_0, hx476_1⟩ := at_T46 HR0.out x5_1 p476 q476); (have hw476_1 := hx476_1); (have hw476_0 := hx476_0); (obtain rfl : ad473 = ad476 := (by injection e476)); (replace hx476_0 := (HB.out.cell (World.block_lt_of_cell? w _ hx476_0)).trans hx476_0); (replace hx476_1 := (HB.out.cell (World.block_lt_of_cell? w _ hx476_1)).trans hx476_1); (replace p476 := eq_true p476); (replace q476 := eq_true q476); (refine start_ (n := 16) (S := fun w' => w'.cell? (ad473.add ((x5_1).toNat * 2)) = some (.int .i64 ((rd_T46 l0 x5_1).f0)) ∧ w'.cell? ⟨(ad473.add ((x5_1).toNat * 2)).block, (ad473.add ((x5_1).toNat * 2)).off + 1, none⟩ = some (.int .i64 ((rd_T46 l0 x5_1).f1)) ∧ w'.cell? (ad473.add ((x5_1).toNat * 2)) = some (.int .i64 ((rd_T46 l0 x5_1).f0)) ∧ w'.cell? ⟨(ad473.add ((x5_1).toNat * 2)).block, (ad473.add ((x5_1).toNat * 2)).off + 1, none⟩ = some (.int .i64 ((rd_T46 l0 x5_1).f1))) (ds := []) (bm 16 0) (by kernel_rfl) rfl rfl ⟨((HB.out.cell (World.block_lt_of_cell? w _ hw475_0)).trans hw475_0), ((HB.out.cell (World.block_lt_of_cell? w _ hw475_1)).trans hw475_1), ((HB.out.cell (World.block_lt_of_cell? w _ hw476_0)).trans hw476_0), ((HB.out.cell (World.block_lt_of_cell? w _ hw476_1)).trans hw476_1)⟩ (fun hHeld => ?_); refine with_tabW gangsawref40_Template.tab5 gangsawref40_Template.bits5 (fun HT_ HW_ => ?_))
       (generalize wr.drew = w9 at HB hx475_0 hx475_1 hx476_0 hx476_1 hHeld ⊢); (refine pv_ 0 HT_ ?_); (refine pv_ 1 HT_ ?_); (refine pv_ 2 HT_ ?_); (refine pv_ 3 HT_ ?_); (refine pv_ 4 HT_ ?_); (refine pv_ 7 HT_ ?_); (refine pv_ 8 HT_ ?_); (refine pv_ 9 HT_ ?_); (refine pv_ 10 HT_ ?_); (refine pv_ 11 HT_ ?_); (refine tv_ 5 HT_ HW_ hHeld ?_); (refine pv_ 6 HT_ ?_); (refine pv_ 14 HT_ ?_); (refine tv_ 12 HT_ HW_ hHeld ?_); (refine pv_ 13 HT_ ?_); (refine pv_ 15 HT_ ?_); (refine done_ (done_of HT_.out (by kernel_rfl)) ?_); (try go_wp2); (go_roundg k1)
       case measure => have := HK1.out; omega
       case rel => exact ⟨(ji7), (ji8), (wrap64 (x5_1 + 1)), (by first | rfl | (simp; done) | (simp only [← hji7] <;> (first | rfl | simp)) | (simp [*]; done)), (by first | rfl | (simp; done) | (simp only [← hji8] <;> (first | rfl | simp)) | (simp [*]; done)), (by first | rfl | (simp; done) | (simp [*]; done)), H', ⟨by have := HK1.out; omega⟩, ⟨hb_ HB⟩⟩
      ·(rw [if_neg c6] at H); (exact absurd H (by simp))
     ·(rw [if_neg c5] at H); (exact absurd H (by simp))
    ·rw [if_neg c4] at H
     (have c4b0 := decide_eq_false c4); (clear c4); (obtain ⟨y477, hy477⟩ : ∃ y_ : List (S46), y_ = (([] : List (S46))) := ⟨_, rfl⟩); (replace H : (gangsawref40_Template.l1 k1 l0 x3_1 x4_1 y477 0) = some r := by first | (rw [hy477]; with_reducible exact H) | (have H2_ := (Option.bind_some _ _).symm.trans H; rw [hy477]; with_reducible exact H2_) | (have H2_ := (Option.bind_some _ _).symm.trans H; with_reducible exact H2_) | with_reducible exact H | (rw [hy477]; exact H) | exact H); (have Ny477 := Aside0.mk hy477); (clear hy477); (have H' := Aside0.mk H); (clear H); (go_wp2_with (first | ((with_reducible refine gate_dst (N := 34) rfl ?_); refine Kd.R_lit k46 _ 46 ?hg (N := 34) ?hd (xs := ([] : List (S46))) (inner := []) (ok := fun _ => True) (okp := fun _ => True) ?hr ?hp (fun _ hk => hk) trivial (Below.refl _ _) (Nat.le_refl _) (by simp) ?_; (case hd => rfl); (case hg => first | rfl | (go_simp; done)); (case hr => first | (go_simp; done) | (go_simp; rfl)); (case hp => exact (Reps.none _ _)); intro v478 w10 ho11 hb hg_ hnew_; clear hg_ hnew_; (first | rw [← Ny477.out] at ho11 | (simp only [Int.reduceToNat] at ho11; rw [← Ny477.out] at ho11)); have HO479 := Aside0.mk (Kd.R_lower ho11 (below_size (hb_ HB))); replace HB := hs_ HB hb; clear hb ho11))); (go_loopg [6, 7] k1 (fun kq v6 v7 w' => ∃ (x6_2 : List (S46)) (x7_2 : Int), v7 = .int .i64 x7_2 ∧ Aside0 (gangsawref40_Template.l1 kq l0 x3_1 x4_1 x6_2 x7_2 = some r) ∧ Aside0 (kq ≤ k1) ∧ Aside0 (Kd.R k46 46 w' w.heap.size (fun _ => True) v6 x6_2) ∧ Aside0 (Below w.heap.size w w')))
     case atStart => exact ⟨(y477), (0), (by first | rfl | (simp; done) | (simp [*]; done)), H', ⟨Nat.le_refl _⟩, ⟨by (with_reducible repeat (first | apply Kd.R_alloc | apply Kd.R_drewN | apply Kd.R_drew)); exact HO479.out⟩, ⟨hb_ HB⟩⟩
     case round =>
      (clear H'); (try clear c2); (try clear c2b0); (try clear c2b1); (try clear p2); (try clear c3); (try clear c4); (try clear c4b0); (try clear p4); (try clear q4); (try clear hx4); (try clear qi4); (try clear c5); (try clear c5b0); (try clear c6); (try clear c6b0); (try clear p6); (try clear hx473_0); (try clear hx473_1); (try clear hx474_0); (try clear hx474_1); (try clear hx475_0); (try clear hx475_1); (try clear hx476_0); (try clear hx476_1); (try clear p2); (try clear p473); (try clear p474); (try clear p475); (try clear p476); (try clear q473); (try clear q474); (try clear q475); (try clear q476); (obtain ⟨x6_2, x7_2, rfl, HA, HK2, HO_6, HB⟩ := hrel)
      cases gk with
      | zero => exact absurd HA.out (by simp [gangsawref40_Template.l1])
      | succ k2 =>
       (have H := HA.out); (clear HA); (simp only [gangsawref40_Template.l1] at H); (by_cases c12 : x7_2 < 4)
       ·rw [if_pos c12] at H
        (have c12b0 := decide_eq_true c12); (clear c12); (by_cases c13 : 0 ≤ x7_2)
        ·rw [if_pos c13] at H
         (have c13b0 := decide_eq_true c13); (clear c13); (by_cases c14 : x7_2 < (l0.length : Int))
         ·rw [if_pos c14] at H
          (have c14b0 := decide_eq_true c14); (clear c14); (by_cases c15 : x6_2.length < 8796093022208)
          ·rw [if_pos c15] at H
           (have LMc15 := Aside0.mk c15); (clear c15); (obtain ⟨y482, hy482⟩ : ∃ y_ : List (S46), y_ = (x6_2 ++ [(⟨wrap64 (((rd_T46 l0 x7_2).f0) - x3_1), wrap64 (((rd_T46 l0 x7_2).f1) - x4_1)⟩ : S46)]) := ⟨_, rfl⟩); (replace H : (gangsawref40_Template.l1 k2 l0 x3_1 x4_1 y482 (wrap64 (x7_2 + 1))) = some r := by first | (rw [hy482]; with_reducible exact H) | (have H2_ := (Option.bind_some _ _).symm.trans H; rw [hy482]; with_reducible exact H2_) | (have H2_ := (Option.bind_some _ _).symm.trans H; with_reducible exact H2_) | with_reducible exact H | (rw [hy482]; exact H) | exact H); (have Ny482 := Aside0.mk hy482); (clear hy482); (have H' := Aside0.mk H); (clear H); (try go_wp2); (replace HO_6 := Aside0.mk (Kd.R_drew HO_6.out)); (replace HB := Aside0.mk (below_drew1 HB.out)); (have p480 : 0 ≤ (x7_2 : Int) := of_decide_eq_true (by first | (with_reducible assumption) | assumption)); (have q480 : x7_2 < (l0.length : Int) := of_decide_eq_true (by first | (with_reducible assumption) | assumption)); (obtain ⟨ad480, e480, hx480_0, hx480_1⟩ := at_T46 HR0.out x7_2 p480 q480); (have hw480_1 := hx480_1); (have hw480_0 := hx480_0); (obtain rfl : ad473 = ad480 := (by injection e480)); (replace hx480_0 := (HB.out.cell (World.block_lt_of_cell? w _ hx480_0)).trans hx480_0); (replace hx480_1 := (HB.out.cell (World.block_lt_of_cell? w _ hx480_1)).trans hx480_1); (replace p480 := eq_true p480); (replace q480 := eq_true q480); (have p481 : 0 ≤ (x7_2 : Int) := of_decide_eq_true (by first | (with_reducible assumption) | assumption)); (have q481 : x7_2 < (l0.length : Int) := of_decide_eq_true (by first | (with_reducible assumption) | assumption)); (obtain ⟨ad481, e481, hx481_0, hx481_1⟩ := at_T46 HR0.out x7_2 p481 q481); (have hw481_1 := hx481_1); (have hw481_0 := hx481_0); (obtain rfl : ad473 = ad481 := (by injection e481)); (replace hx481_0 := (HB.out.cell (World.block_lt_of_cell? w _ hx481_0)).trans hx481_0); (replace hx481_1 := (HB.out.cell (World.block_lt_of_cell? w _ hx481_1)).trans hx481_1); (replace p481 := eq_true p481); (replace q481 := eq_true q481); (refine start_ (n := 19) (S := fun w' => w'.cell? (ad473.add ((x7_2).toNat * 2)) = some (.int .i64 ((rd_T46 l0 x7_2).f0)) ∧ w'.cell? ⟨(ad473.add ((x7_2).toNat * 2)).block, (ad473.add ((x7_2).toNat * 2)).off + 1, none⟩ = some (.int .i64 ((rd_T46 l0 x7_2).f1)) ∧ w'.cell? (ad473.add ((x7_2).toNat * 2)) = some (.int .i64 ((rd_T46 l0 x7_2).f0)) ∧ w'.cell? ⟨(ad473.add ((x7_2).toNat * 2)).block, (ad473.add ((x7_2).toNat * 2)).off + 1, none⟩ = some (.int .i64 ((rd_T46 l0 x7_2).f1))) (ds := []) (bm 19 0) (by kernel_rfl) rfl rfl ⟨((HB.out.cell (World.block_lt_of_cell? w _ hw480_0)).trans hw480_0), ((HB.out.cell (World.block_lt_of_cell? w _ hw480_1)).trans hw480_1), ((HB.out.cell (World.block_lt_of_cell? w _ hw481_0)).trans hw481_0), ((HB.out.cell (World.block_lt_of_cell? w _ hw481_1)).trans hw481_1)⟩ (fun hHeld => ?_); refine with_tabW gangsawref40_Template.tab10 gangsawref40_Template.bits10 (fun HT_ HW_ => ?_)); (generalize wr.drew = w16 at HO_6 HB hx480_0 hx480_1 hx481_0 hx481_1 hHeld ⊢)
           (refine pv_ 0 HT_ ?_); (refine pv_ 1 HT_ ?_); (refine pv_ 2 HT_ ?_); (refine pv_ 3 HT_ ?_); (refine pv_ 4 HT_ ?_); (refine pv_ 6 HT_ ?_); (refine pv_ 8 HT_ ?_); (refine pv_ 9 HT_ ?_); (refine pv_ 10 HT_ ?_); (refine pv_ 11 HT_ ?_); (refine pv_ 13 HT_ ?_); (refine tv_ 5 HT_ HW_ hHeld ?_); (refine pv_ 7 HT_ ?_); (refine tv_ 12 HT_ HW_ hHeld ?_); (refine pv_ 14 HT_ ?_); (refine pv_ 15 HT_ ?_); (refine one_ (i := 16) (N := some 55) (bm 19 131071) rfl rfl (one_of HT_.out (by kernel_rfl)) (by decide) (fun K hK => ?_)); (refine value_ (w1 := ?_) (v := ?_) (by rfl) rfl ?_ ?_); (rotate_left 2)
           ·go_simp
            constructor
            ·rfl
            ·rfl
           (refine hK.out _ _ ⟨(World.cell?_alloc_lt _ _ _ (World.block_lt_of_cell? _ _ (((HB.out.cell (World.block_lt_of_cell? w _ hw480_0)).trans hw480_0)))).trans (((HB.out.cell (World.block_lt_of_cell? w _ hw480_0)).trans hw480_0)), (World.cell?_alloc_lt _ _ _ (World.block_lt_of_cell? _ _ (((HB.out.cell (World.block_lt_of_cell? w _ hw480_1)).trans hw480_1)))).trans (((HB.out.cell (World.block_lt_of_cell? w _ hw480_1)).trans hw480_1)), (World.cell?_alloc_lt _ _ _ (World.block_lt_of_cell? _ _ (((HB.out.cell (World.block_lt_of_cell? w _ hw481_0)).trans hw481_0)))).trans (((HB.out.cell (World.block_lt_of_cell? w _ hw481_0)).trans hw481_0)), (World.cell?_alloc_lt _ _ _ (World.block_lt_of_cell? _ _ (((HB.out.cell (World.block_lt_of_cell? w _ hw481_1)).trans hw481_1)))).trans (((HB.out.cell (World.block_lt_of_cell? w _ hw481_1)).trans hw481_1))⟩ (fun hHeld => ?_)); (clear hK K); (refine nv_ ?_); (refine one_ (i := 17) (N := some 56) (bm 19 262143) rfl rfl (one_of HT_.out (by kernel_rfl)) (by decide) (fun K hK => ?_)); (refine Kd.R_append_step k46 (w0 := w) w.heap.size (by rfl) (.tmp 39) (.tmp 55) 38 46 (.agg #[(.int .i64 0), (.int .i64 0)]) 16 rfl Try.underlying38 info46 rfl (by decide) (by omega) u6 x6_2 (⟨wrap64 (((rd_T46 l0 x7_2).f0) - x3_1), wrap64 (((rd_T46 l0 x7_2).f1) - x4_1)⟩ : S46) [.int .i64 (wrap64 (((rd_T46 l0 x7_2).f0) - x3_1)), .int .i64 (wrap64 (((rd_T46 l0 x7_2).f1) - x4_1))] (fun _ => True) (fun _ => False) rfl rfl ?aP (fun _ hk => hk.elim) ?aF ?aO ?aB ?aS ?aL ?_); ((case aP => exact k46_mkM _ _ _ (⟨wrap64 (((rd_T46 l0 x7_2).f0) - x3_1), wrap64 (((rd_T46 l0 x7_2).f1) - x4_1)⟩ : S46))); ((case aB => exact (hb_ HB))); ((case aF => exact (fun _ _ => trivial))); ((case aO => exact (rk_ HO_6))); ((case aS => exact (below_size (hb_ HB)))); ((case aL => have := LMc15.out; omega)); (intro v483 w17 ho hb hg hat); (rw [← Ny482.out] at ho); (have n0_ := Aside0.mk (hb)); (have n1_ := Aside0.mk (ho)); (clear HB); (clear HO_6); (have HB := n0_); (have HO484 := n1_); (clear n0_ n1_); (clear ho hb hg hat); (refine hK.out _ _ ⟨((HB.out.cell (World.block_lt_of_cell? w _ hw480_0)).trans hw480_0), ((HB.out.cell (World.block_lt_of_cell? w _ hw480_1)).trans hw480_1), ((HB.out.cell (World.block_lt_of_cell? w _ hw481_0)).trans hw481_0), ((HB.out.cell (World.block_lt_of_cell? w _ hw481_1)).trans hw481_1)⟩ (fun hHeld => ?_)); (clear hK K); (refine nv_ ?_); (refine pv_ 18 HT_ ?_); (refine done_ (done_of HT_.out (by kernel_rfl)) ?_); (try go_wp2); (go_roundg k2)
           case measure => have := HK1.out; have := HK2.out; omega
           case rel => exact ⟨(y482), (wrap64 (x7_2 + 1)), (by first | rfl | (simp; done) | (simp [*]; done)), H', ⟨by have := HK1.out; have := HK2.out; omega⟩, ⟨by (with_reducible repeat (first | apply Kd.R_alloc | apply Kd.R_drewN | apply Kd.R_drew)); exact HO484.out⟩, ⟨hb_ HB⟩⟩
          ·(rw [if_neg c15] at H); (exact absurd H (by simp))
         ·(rw [if_neg c14] at H); (exact absurd H (by simp))
        ·(rw [if_neg c13] at H); (exact absurd H (by simp))
       ·(rw [if_neg c12] at H); (have c12b0 := decide_eq_false c12); (clear c12); (obtain rfl := Option.some.inj H); (go_wp2); (go_ret); (exact ⟨_, by first | rfl | (simp [errW_none, errW_some] <;> rfl) | (simp [*, errW_none, errW_some] <;> rfl), by (with_reducible repeat (first | apply Kd.R_alloc | apply Kd.R_drewN | apply Kd.R_drew)); exact HO_6.out, hb_ HB⟩)
 ·rw [if_neg c2] at H
  exact absurd H (by simp)

/-! ### gangsawref40_mirrored: function 57 -/
def gangsawref40_mirrored.l0 : Nat → List (S46) → Int → Int → Option ((List (S46)))
  | 0, _, _, _ => none
  | k + 1, x0, x3, x4 => if x4 < 4 then (if 0 ≤ x4 then (if x4 < (x0.length : Int) then (gangsawref40_mirrored.l0 k x0 (mx x3 ((rd_T46 x0 x4).f0)) (wrap64 (x4 + 1))) else (none)) else (none)) else ((gangsawref40_flip.f k x0 x3).bind fun t486 => (some t486))
def gangsawref40_mirrored.f (k : Nat) (l0 : List (S46)) : Option ((List (S46))) := gangsawref40_mirrored.l0 k l0 0 0
theorem gangsawref40_mirrored.mono_l : ∀ k, (∀ y0 y1 y2, LeO (gangsawref40_mirrored.l0 k y0 y1 y2) (gangsawref40_mirrored.l0 (k + 1) y0 y1 y2))
  | 0 => fun _ _ _ r h => by simp [gangsawref40_mirrored.l0] at h
  | k + 1 => by
    have ih0 := gangsawref40_mirrored.mono_l k
    · intro y0 y1 y2
      unfold gangsawref40_mirrored.l0
      repeat' first
      | (with_reducible exact ih0 _ _ _)
      | (with_reducible exact gangsawref40_flip.mono _ _ _)
      | (with_reducible exact LeO.refl _)
      | (with_reducible exact LeO.none _)
      | (with_reducible refine LeO.ite ?_ ?_)
      | (with_reducible refine LeO.bind ?_ (fun _ => ?_))
      | exact ih0 _ _ _
      | exact gangsawref40_flip.mono _ _ _
      | exact LeO.none _
      | refine LeO.ite ?_ ?_
      | refine LeO.bind ?_ (fun _ => ?_)
theorem gangsawref40_mirrored.mono : ∀ a0 k, LeO (gangsawref40_mirrored.f k a0) (gangsawref40_mirrored.f (k + 1) a0) := by
  intro a0 k
  have ih0 := gangsawref40_mirrored.mono_l k
  unfold gangsawref40_mirrored.f
  repeat' first
      | (with_reducible exact ih0 _ _ _)
      | (with_reducible exact gangsawref40_flip.mono _ _ _)
      | (with_reducible exact LeO.refl _)
      | (with_reducible exact LeO.none _)
      | (with_reducible refine LeO.ite ?_ ?_)
      | (with_reducible refine LeO.bind ?_ (fun _ => ?_))
      | exact ih0 _ _ _
      | exact gangsawref40_flip.mono _ _ _
      | exact LeO.none _
      | refine LeO.ite ?_ ?_
      | refine LeO.bind ?_ (fun _ => ?_)
set_option maxHeartbeats 8000000 in
set_option maxRecDepth 100000 in
theorem gangsawref40_mirrored.calls (k : Nat) (A0 : Option Addr) (c0 : Nat) (l0 : List (S46)) (r : List (S46)) (w : World) (hr0 : Kd.C k46 w A0 l0.length l0) (hc0 : l0.length ≤ c0) (h : gangsawref40_mirrored.f k l0 = some r) :
    Calls Try.prog 57 #[.slice A0 l0.length c0] w fun e w' => ∃ v0_ : Value, e = .returned (v0_) ∧ Kd.R k46 46 w' w.heap.size (fun _ => True) v0_ r ∧ Below w.heap.size w w' := by
  have HR0 := Aside0.mk hr0
  have HC0 := Aside0.mk hc0
  clear hr0 hc0
  have HB := Aside0.mk (Below.refl w.heap.size w)
  have H : (gangsawref40_mirrored.l0 k l0 0 0) = some r := h
  clear h
  have H' := Aside0.mk H
  clear H
  go_enter Try.func57, Try.ntmps57
  go_wp2
  go_loopg [3, 4] k (fun kq v3 v4 w' => ∃ (x3_1 : Int) (x4_1 : Int), v3 = .int .i64 x3_1 ∧ v4 = .int .i64 x4_1 ∧ Aside0 (gangsawref40_mirrored.l0 kq l0 x3_1 x4_1 = some r) ∧ Aside0 (kq ≤ k) ∧ Aside0 (Below w.heap.size w w'))
  case atStart => exact ⟨(0), (0), (by first | rfl | (simp; done) | (simp [*]; done)), (by first | rfl | (simp; done) | (simp [*]; done)), H', ⟨Nat.le_refl _⟩, ⟨by repeat (first | (with_reducible first | exact HB.out | apply below_alloc | apply pw_below_drewN | apply below_drew1) | exact HB.out)⟩⟩
  case round =>
    clear H'
    obtain ⟨x3_1, x4_1, rfl, rfl, HA, HK1, HB⟩ := hrel
    cases gk with
    | zero => exact absurd HA.out (by simp [gangsawref40_mirrored.l0])
    | succ k1 =>
      have H := HA.out
      clear HA
      simp only [gangsawref40_mirrored.l0] at H
      by_cases c2 : x4_1 < 4
      · rw [if_pos c2] at H
        have c2b0 : decide (x4_1 < 4) = true := decide_eq_true c2
        clear c2
        by_cases c3 : 0 ≤ x4_1
        · rw [if_pos c3] at H
          have c3b0 : decide (0 ≤ x4_1) = true := decide_eq_true c3
          clear c3
          by_cases c4 : x4_1 < (l0.length : Int)
          · rw [if_pos c4] at H
            have c4b0 : decide (x4_1 < (l0.length : Int)) = true := decide_eq_true c4
            clear c4
            obtain ⟨ji5, hji5⟩ : ∃ j_ : Int, (mx x3_1 ((rd_T46 l0 x4_1).f0)) = j_ := ⟨_, rfl⟩
            replace H : (gangsawref40_mirrored.l0 k1 l0 ji5 (wrap64 (x4_1 + 1))) = some r := by first | (rw [hji5] at H; exact H) | (simp only [hji5] at H ⊢; exact H)
            have hji5_ : (if x3_1 < ((rd_T46 l0 x4_1).f0) then ((rd_T46 l0 x4_1).f0) else x3_1) = ji5 := hji5
            have H' := Aside0.mk H
            clear H
            have p485 : 0 ≤ (x4_1 : Int) := of_decide_eq_true (by first | (with_reducible assumption) | assumption)
            have q485 : x4_1 < (l0.length : Int) := of_decide_eq_true (by first | (with_reducible assumption) | assumption)
            obtain ⟨ad485, e485, hx485_0, hx485_1⟩ := at_T46 HR0.out x4_1 p485 q485
            cases e485
            replace hx485_0 := (HB.out.cell (World.block_lt_of_cell? w _ hx485_0)).trans hx485_0
            replace hx485_1 := (HB.out.cell (World.block_lt_of_cell? w _ hx485_1)).trans hx485_1
            replace p485 := eq_true p485
            replace q485 := eq_true q485
            go_wp2
            go_roundg k1
            case measure => have := HK1.out; omega
            case rel => exact ⟨(ji5), (wrap64 (x4_1 + 1)), (by first | rfl | (simp; done) | (simp only [← hji5] <;> (first | rfl | simp)) | (simp [*]; done)), (by first | rfl | (simp; done) | (simp [*]; done)), H', ⟨by have := HK1.out; omega⟩, ⟨by repeat (first | (with_reducible first | exact HB.out | apply below_alloc | apply pw_below_drewN | apply below_drew1) | exact HB.out)⟩⟩
          · rw [if_neg c4] at H
            exact absurd H (by simp)
        · rw [if_neg c3] at H
          exact absurd H (by simp)
      · rw [if_neg c2] at H
        have c2b0 : decide (x4_1 < 4) = false := decide_eq_false c2
        clear c2
        replace H := Option.bind_eq_some_iff.mp H
        obtain ⟨t486, A60, H⟩ := H
        replace H : (some t486) = some r := H
        have A6 := Aside0.mk A60
        clear A60
        obtain rfl := Option.some.inj H
        go_wp2_with (first | ((with_reducible refine gate_callee (f := 47) rfl ?_); refine goesL_ (some 18) rfl rfl Try.func47 (by kernel_rfl) rfl #[.slice A0 l0.length c0, .int .i64 x3_1] rfl (by (try simp only [List.map_toArray, List.map_cons, List.map_nil]); first | done | rfl | (simp only [List.length_drop, List.length_take]; rfl)) ?_; (with_reducible refine (gangsawref40_flip.calls k1 _ _ l0 x3_1 t486 _ ?side1 ?side2 A6.out).mono ?_); (case side1 => repeat (first | exact (Kd.C_below HR0.out HB.out) | (with_reducible refine Kd.C_alloc ?_ _) | (with_reducible refine Kd.C_drewN ?_ _) | (with_reducible refine Kd.C_drew ?_))); (case side2 => exact HC0.out); rintro e w7 ⟨v487, rfl, ho0, hb⟩; refine ⟨_, rfl, ?_⟩; have n0_ := Aside0.mk (Kd.R_lower ho0 (below_size (by repeat (first | (with_reducible first | exact HB.out | apply below_alloc | apply pw_below_drewN | apply below_drew1) | exact HB.out)))); have n1_ := Aside0.mk (below_step (by repeat (first | (with_reducible first | exact HB.out | apply below_alloc | apply pw_below_drewN | apply below_drew1) | exact HB.out)) hb); clear HB; have HO488 := n0_; have HB := n1_; clear n0_ n1_; (try clear hb); (try clear hb2); (try clear hk); (try clear hi); (try clear ho0)))
        go_ret
        exact ⟨_, by first | rfl | (simp [errW_none, errW_some] <;> rfl) | (simp [*, errW_none, errW_some] <;> rfl), by (with_reducible repeat (first | apply Kd.R_alloc | apply Kd.R_drewN | apply Kd.R_drew)); exact HO488.out, by repeat (first | (with_reducible first | exact HB.out | apply below_alloc | apply pw_below_drewN | apply below_drew1) | exact HB.out)⟩

/-! ### gangsawref40_Kinds: function 28 -/
mutual
def gangsawref40_Kinds.l0 : Nat → List (List (S46)) → List Int → Int → Option (List Int)
 | 0, _, _, _ => none
 | k + 1, x0, x3, x4 => if x4 < (x0.length : Int) then (if 0 ≤ x4 then ((gangsawref40_Template.f k (rd_L2 x0 x4)).bind fun t493 => (gangsawref40_Kinds.l1 k x0 x3 x4 t493 0)) else (none)) else (some x3)
def gangsawref40_Kinds.l1 : Nat → List (List (S46)) → List Int → Int → List (S46) → Int → Option (List Int)
 | 0, _, _, _, _, _ => none
 | k + 1, x0, x3, x4, x5, x6 => if x6 ≤ x4 then (if 0 ≤ x6 then (if x6 < (x0.length : Int) then ((gangsawref40_Template.f k (rd_L2 x0 x6)).bind fun t497 => ((gangsawref40_SameLine.f k x5 t497).bind fun t500 => (if t500 = true then (if x3.length < 17592186044416 then (gangsawref40_Kinds.l0 k x0 (x3 ++ [x6]) (wrap64 (x4 + 1))) else (none)) else ((gangsawref40_mirrored.f k t497).bind fun t504 => ((gangsawref40_SameLine.f k x5 t504).bind fun t507 => (if t507 = true then (if x3.length < 17592186044416 then (gangsawref40_Kinds.l0 k x0 (x3 ++ [x6]) (wrap64 (x4 + 1))) else (none)) else (gangsawref40_Kinds.l1 k x0 x3 x4 x5 (wrap64 (x6 + 1))))))))) else (none)) else (none)) else (gangsawref40_Kinds.l0 k x0 x3 (wrap64 (x4 + 1)))
end
def gangsawref40_Kinds.f (k : Nat) (l0 : List (List (S46))) : Option (List Int) := gangsawref40_Kinds.l0 k l0 (([] : List Int)) 0
theorem gangsawref40_Kinds.mono_l : ∀ k, (∀ y0 y1 y2, LeO (gangsawref40_Kinds.l0 k y0 y1 y2) (gangsawref40_Kinds.l0 (k + 1) y0 y1 y2)) ∧ (∀ y0 y1 y2 y3 y4, LeO (gangsawref40_Kinds.l1 k y0 y1 y2 y3 y4) (gangsawref40_Kinds.l1 (k + 1) y0 y1 y2 y3 y4))
 | 0 => ⟨fun _ _ _ r h => by simp [gangsawref40_Kinds.l0] at h, fun _ _ _ _ _ r h => by simp [gangsawref40_Kinds.l1] at h⟩
 | k + 1 => by
  (obtain ⟨ih0, ih1⟩ := gangsawref40_Kinds.mono_l k); (refine ⟨?_, ?_⟩); (all_goals (intros; (first | unfold gangsawref40_Kinds.l0 | unfold gangsawref40_Kinds.l1)))
  all_goals (repeat' first
   | (with_reducible exact ih0 _ _ _)
   | (with_reducible exact ih1 _ _ _ _ _)
   | (with_reducible exact gangsawref40_SameLine.mono _ _ _)
   | (with_reducible exact gangsawref40_Template.mono _ _)
   | (with_reducible exact gangsawref40_mirrored.mono _ _)
   | (with_reducible exact LeO.refl _)
   | (with_reducible exact LeO.none _)
   | (with_reducible refine LeO.ite ?_ ?_)
   | (with_reducible refine LeO.bind ?_ (fun _ => ?_))
   | exact ih0 _ _ _
   | exact ih1 _ _ _ _ _
   | exact gangsawref40_SameLine.mono _ _ _
   | exact gangsawref40_Template.mono _ _
   | exact gangsawref40_mirrored.mono _ _
   | exact LeO.none _
   | refine LeO.ite ?_ ?_
   | refine LeO.bind ?_ (fun _ => ?_))
theorem gangsawref40_Kinds.mono : ∀ a0 k, LeO (gangsawref40_Kinds.f k a0) (gangsawref40_Kinds.f (k + 1) a0) := by
 intro a0 k
 obtain ⟨ih0, ih1⟩ := gangsawref40_Kinds.mono_l k
 unfold gangsawref40_Kinds.f
 repeat' first
   | (with_reducible exact ih0 _ _ _)
   | (with_reducible exact ih1 _ _ _ _ _)
   | (with_reducible exact gangsawref40_SameLine.mono _ _ _)
   | (with_reducible exact gangsawref40_Template.mono _ _)
   | (with_reducible exact gangsawref40_mirrored.mono _ _)
   | (with_reducible exact LeO.refl _)
   | (with_reducible exact LeO.none _)
   | (with_reducible refine LeO.ite ?_ ?_)
   | (with_reducible refine LeO.bind ?_ (fun _ => ?_))
   | exact ih0 _ _ _
   | exact ih1 _ _ _ _ _
   | exact gangsawref40_SameLine.mono _ _ _
   | exact gangsawref40_Template.mono _ _
   | exact gangsawref40_mirrored.mono _ _
   | exact LeO.none _
   | refine LeO.ite ?_ ?_
   | refine LeO.bind ?_ (fun _ => ?_)
set_option maxHeartbeats 8000000 in
set_option maxRecDepth 100000 in
theorem gangsawref40_Kinds.calls (k : Nat) (A0 : Option Addr) (c0 : Nat) (l0 : List (List (S46))) (r : List Int) (w : World) (hr0 : Kd.C (Kd.slice 46 k46) w A0 l0.length l0) (hc0 : l0.length ≤ c0) (h : gangsawref40_Kinds.f k l0 = some r) :
  Calls Try.prog 28 #[.slice A0 l0.length c0] w fun e w' => ∃ v0_ : Value, e = .returned (v0_) ∧ Kd.R (Kd.int .i64) 3 w' w.heap.size (fun _ => True) v0_ r ∧ Below w.heap.size w w' := by
 have HR0 := Aside0.mk hr0
 have HC0 := Aside0.mk hc0
 clear hr0 hc0
 have HB := Aside0.mk (Below.refl w.heap.size w)
 have H : (gangsawref40_Kinds.l0 k l0 (([] : List Int)) 0) = some r := h
 clear h
 obtain ⟨y489, hy489⟩ : ∃ y_ : List Int, y_ = (([] : List Int)) := ⟨_, rfl⟩
 replace H : (gangsawref40_Kinds.l0 k l0 y489 0) = some r := by first | (rw [hy489]; with_reducible exact H) | (have H2_ := (Option.bind_some _ _).symm.trans H; rw [hy489]; with_reducible exact H2_) | (have H2_ := (Option.bind_some _ _).symm.trans H; with_reducible exact H2_) | with_reducible exact H | (rw [hy489]; exact H) | exact H
 have Ny489 := Aside0.mk hy489
 clear hy489
 have H' := Aside0.mk H
 clear H
 go_enter Try.func28, Try.ntmps28
 go_wp2_with (first | ((with_reducible refine gate_dst (N := 8) rfl ?_); refine Kd.R_lit (Kd.int .i64) _ 3 ?hg (N := 8) ?hd (xs := ([] : List Int)) (inner := []) (ok := fun _ => True) (okp := fun _ => True) ?hr ?hp (fun _ hk => hk) trivial (Below.refl _ _) (Nat.le_refl _) (by simp) ?_; (case hd => rfl); (case hg => first | rfl | (go_simp; done)); (case hr => first | (go_simp; done) | (go_simp; rfl)); (case hp => exact (Reps.none _ _)); intro v490 w2 ho3 hb hg_ hnew_; clear hg_ hnew_; (first | rw [← Ny489.out] at ho3 | (simp only [Int.reduceToNat] at ho3; rw [← Ny489.out] at ho3)); have HO491 := Aside0.mk (Kd.R_lower ho3 (below_size (hb_ HB))); replace HB := hs_ HB hb; clear hb ho3))
 go_loopg [3, 4] k (fun kq v3 v4 w' => ∃ (x3_1 : List Int) (x4_1 : Int), v4 = .int .i64 x4_1 ∧ Aside0 (gangsawref40_Kinds.l0 kq l0 x3_1 x4_1 = some r) ∧ Aside0 (kq ≤ k) ∧ Aside0 (Kd.R (Kd.int .i64) 3 w' w.heap.size (fun _ => True) v3 x3_1) ∧ Aside0 (Below w.heap.size w w'))
 case atStart => exact ⟨(y489), (0), (by first | rfl | (simp; done) | (simp [*]; done)), H', ⟨Nat.le_refl _⟩, ⟨by (with_reducible repeat (first | apply Kd.R_alloc | apply Kd.R_drewN | apply Kd.R_drew)); exact HO491.out⟩, ⟨hb_ HB⟩⟩
 case round =>
  (clear H'); (try clear c2); (try clear p2); (obtain ⟨x3_1, x4_1, rfl, HA, HK1, HO_3, HB⟩ := hrel)
  cases gk with
  | zero => exact absurd HA.out (by simp [gangsawref40_Kinds.l0])
  | succ k1 =>
   (have H := HA.out); (clear HA); (simp only [gangsawref40_Kinds.l0] at H); (by_cases c4 : x4_1 < (l0.length : Int))
   ·rw [if_pos c4] at H
    (have c4b0 := decide_eq_true c4); (clear c4); (by_cases c5 : 0 ≤ x4_1)
    ·rw [if_pos c5] at H
     (have c5b0 := decide_eq_true c5); (clear c5); (replace H := Option.bind_eq_some_iff.mp H); (obtain ⟨t493, A60, H⟩ := H); (replace H : (gangsawref40_Kinds.l1 k1 l0 x3_1 x4_1 t493 0) = some r := H); (have A6 := Aside0.mk A60); (clear A60); (have H' := Aside0.mk H); (clear H); (have p492 : 0 ≤ (x4_1 : Int) := of_decide_eq_true (by first | (with_reducible assumption) | assumption)); (have q492 : x4_1 < (l0.length : Int) := of_decide_eq_true (by first | (with_reducible assumption) | assumption)); (obtain ⟨ad492, A492_0, c492_0, e492, hx492_0, hl492_0, hi492_0⟩ := at_L2 HR0.out x4_1 p492 q492); (cases e492); (replace hx492_0 := (HB.out.cell (World.block_lt_of_cell? w _ hx492_0)).trans hx492_0); (have HR492_0 := Aside0.mk hi492_0); (have HC492_0 := Aside0.mk hl492_0); (clear hi492_0 hl492_0); (replace p492 := eq_true p492); (replace q492 := eq_true q492); (go_wp2_with (first | ((with_reducible refine gate_callee (f := 30) rfl ?_); refine goesL_ (some 19) rfl rfl Try.func30 (by kernel_rfl) rfl #[.slice A492_0 (rd_L2 l0 x4_1).length c492_0] rfl (by (try simp only [List.map_toArray, List.map_cons, List.map_nil]); first | done | rfl | (simp only [List.length_drop, List.length_take]; rfl)) ?_; (with_reducible refine (gangsawref40_Template.calls k1 _ _ (rd_L2 l0 x4_1) t493 _ ?side1 ?side2 A6.out).mono ?_); (case side1 => repeat (first | exact (Kd.C_below HR492_0.out HB.out) | (with_reducible refine Kd.C_alloc ?_ _) | (with_reducible refine Kd.C_drewN ?_ _) | (with_reducible refine Kd.C_drew ?_))); (case side2 => exact HC492_0.out); rintro e w7 ⟨v494, rfl, ho0, hb⟩; refine ⟨_, rfl, ?_⟩; replace HO_3 := rb_ HO_3 hb; have HO495 := Aside0.mk (Kd.R_lower ho0 (below_size (hb_ HB))); replace HB := hs_ HB hb; (try clear hb); (try clear hb2); (try clear hk); (try clear hi); (try clear ho0)))); (go_loopg [3, 6] k1 (fun kq v3 v6 w' => ∃ (x3_2 : List Int) (x6_2 : Int), v6 = .int .i64 x6_2 ∧ Aside0 (gangsawref40_Kinds.l1 kq l0 x3_2 x4_1 t493 x6_2 = some r) ∧ Aside0 (kq ≤ k1) ∧ Aside0 (Kd.R (Kd.int .i64) 3 w' w.heap.size (fun _ => True) v3 x3_2) ∧ Aside0 (Kd.R k46 46 w' w.heap.size (fun _ => True) v494 t493) ∧ Aside0 (Below w.heap.size w w')))
     case atStart => exact ⟨(x3_1), (0), (by first | rfl | (simp; done) | (simp [*]; done)), H', ⟨Nat.le_refl _⟩, ⟨by (with_reducible repeat (first | apply Kd.R_alloc | apply Kd.R_drewN | apply Kd.R_drew)); exact HO_3.out⟩, ⟨by (with_reducible repeat (first | apply Kd.R_alloc | apply Kd.R_drewN | apply Kd.R_drew)); exact HO495.out⟩, ⟨hb_ HB⟩⟩
     case round =>
      (clear H'); (try clear c2); (try clear p2); (try clear c3); (try clear c4); (try clear c4b0); (try clear p4); (try clear q4); (try clear hx4); (try clear c5); (try clear c5b0); (try clear hx492_0); (try clear p2); (try clear p492); (try clear q492); (obtain ⟨x3_2, x6_2, rfl, HA, HK2, HO_3, HO_5, HB⟩ := hrel)
      cases gk with
      | zero => exact absurd HA.out (by simp [gangsawref40_Kinds.l1])
      | succ k2 =>
       (have H := HA.out); (clear HA); (simp only [gangsawref40_Kinds.l1] at H); (by_cases c8 : x6_2 ≤ x4_1)
       ·rw [if_pos c8] at H
        (have c8b0 := decide_eq_true c8); (clear c8); (by_cases c9 : 0 ≤ x6_2)
        ·rw [if_pos c9] at H
         (have c9b0 := decide_eq_true c9); (clear c9); (by_cases c10 : x6_2 < (l0.length : Int))
         ·rw [if_pos c10] at H
          (have c10b0 := decide_eq_true c10); (clear c10); (replace H := Option.bind_eq_some_iff.mp H); (obtain ⟨t497, A110, H⟩ := H); (replace H : ((gangsawref40_SameLine.f k2 t493 t497).bind fun t500 => (if t500 = true then (if x3_2.length < 17592186044416 then (gangsawref40_Kinds.l0 k2 l0 (x3_2 ++ [x6_2]) (wrap64 (x4_1 + 1))) else (none)) else ((gangsawref40_mirrored.f k2 t497).bind fun t504 => ((gangsawref40_SameLine.f k2 t493 t504).bind fun t507 => (if t507 = true then (if x3_2.length < 17592186044416 then (gangsawref40_Kinds.l0 k2 l0 (x3_2 ++ [x6_2]) (wrap64 (x4_1 + 1))) else (none)) else (gangsawref40_Kinds.l1 k2 l0 x3_2 x4_1 t493 (wrap64 (x6_2 + 1)))))))) = some r := H); (have A11 := Aside0.mk A110); (clear A110); (replace H := Option.bind_eq_some_iff.mp H); (obtain ⟨t500, A120, H⟩ := H); (replace H : (if t500 = true then (if x3_2.length < 17592186044416 then (gangsawref40_Kinds.l0 k2 l0 (x3_2 ++ [x6_2]) (wrap64 (x4_1 + 1))) else (none)) else ((gangsawref40_mirrored.f k2 t497).bind fun t504 => ((gangsawref40_SameLine.f k2 t493 t504).bind fun t507 => (if t507 = true then (if x3_2.length < 17592186044416 then (gangsawref40_Kinds.l0 k2 l0 (x3_2 ++ [x6_2]) (wrap64 (x4_1 + 1))) else (none)) else (gangsawref40_Kinds.l1 k2 l0 x3_2 x4_1 t493 (wrap64 (x6_2 + 1))))))) = some r := H); (have A12 := Aside0.mk A120); (clear A120); (by_cases c13 : t500 = true)
          ·subst c13
           (have H1 : (if x3_2.length < 17592186044416 then (gangsawref40_Kinds.l0 k2 l0 (x3_2 ++ [x6_2]) (wrap64 (x4_1 + 1))) else (none)) = some r := by rw [if_pos rfl] at H; exact H); (clear H); (have H := H1); (clear H1); (by_cases c14 : x3_2.length < 17592186044416)
           ·rw [if_pos c14] at H
            (have LMc14 := Aside0.mk c14); (clear c14); (obtain ⟨y501, hy501⟩ : ∃ y_ : List Int, y_ = (x3_2 ++ [x6_2]) := ⟨_, rfl⟩); (replace H : (gangsawref40_Kinds.l0 k2 l0 y501 (wrap64 (x4_1 + 1))) = some r := by first | (rw [hy501]; with_reducible exact H) | (have H2_ := (Option.bind_some _ _).symm.trans H; rw [hy501]; with_reducible exact H2_) | (have H2_ := (Option.bind_some _ _).symm.trans H; with_reducible exact H2_) | with_reducible exact H | (rw [hy501]; exact H) | exact H); (have Ny501 := Aside0.mk hy501); (clear hy501); (have H' := Aside0.mk H); (clear H); (have p496 : 0 ≤ (x6_2 : Int) := of_decide_eq_true (by first | (with_reducible assumption) | assumption)); (have q496 : x6_2 < (l0.length : Int) := of_decide_eq_true (by first | (with_reducible assumption) | assumption)); (obtain ⟨ad496, A496_0, c496_0, e496, hx496_0, hl496_0, hi496_0⟩ := at_L2 HR0.out x6_2 p496 q496); (obtain rfl : ad492 = ad496 := (by injection e496)); (replace hx496_0 := (HB.out.cell (World.block_lt_of_cell? w _ hx496_0)).trans hx496_0); (have HR496_0 := Aside0.mk hi496_0); (have HC496_0 := Aside0.mk hl496_0); (clear hi496_0 hl496_0); (replace p496 := eq_true p496); (replace q496 := eq_true q496); (go_wp2_with (first | ((with_reducible refine gate_callee (f := 30) rfl ?_); refine goesL_ (some 29) rfl rfl Try.func30 (by kernel_rfl) rfl #[.slice A496_0 (rd_L2 l0 x6_2).length c496_0] rfl (by (try simp only [List.map_toArray, List.map_cons, List.map_nil]); first | done | rfl | (simp only [List.length_drop, List.length_take]; rfl)) ?_; (with_reducible refine (gangsawref40_Template.calls k2 _ _ (rd_L2 l0 x6_2) t497 _ ?side1 ?side2 A11.out).mono ?_); (case side1 => repeat (first | exact (Kd.C_below HR496_0.out HB.out) | (with_reducible refine Kd.C_alloc ?_ _) | (with_reducible refine Kd.C_drewN ?_ _) | (with_reducible refine Kd.C_drew ?_))); (case side2 => exact HC496_0.out); rintro e w15 ⟨v498, rfl, ho0, hb⟩; refine ⟨_, rfl, ?_⟩; replace HO_3 := rb_ HO_3 hb; have HO499 := Aside0.mk (Kd.R_lower (Kd.R_new' ho0 (Kd.R_lt (rk_ HO_5))) (below_size (hb_ HB))); replace HO_5 := Aside0.mk (Kd.R_elder' (rk_ HO_5) (Kd.R_base ho0) hb); replace HB := hs_ HB hb; (try clear hb); (try clear hb2); (try clear hk); (try clear hi); (try clear ho0); obtain ⟨Ao16, co16, eo16⟩ := Kd.R_slice HO_5.out; subst eo16; obtain ⟨Ao17, co17, eo17⟩ := Kd.R_slice HO499.out; subst eo17) | ((with_reducible refine gate_callee (f := 29) rfl ?_); refine goesL_ (some 32) rfl rfl Try.func29 (by kernel_rfl) rfl #[.slice Ao16 t493.length co16, .slice Ao17 t497.length co17] rfl (by (try simp only [List.map_toArray, List.map_cons, List.map_nil]); first | done | rfl | (simp only [List.length_drop, List.length_take]; rfl)) ?_; (with_reducible refine (gangsawref40_SameLine.calls k2 _ _ t493 _ _ t497 true _ ?side1 ?side2 ?side3 ?side4 A12.out).mono ?_); (case side1 => repeat (first | exact (Kd.R_reads' HO_5.out).2.2 | (with_reducible refine Kd.C_alloc ?_ _) | (with_reducible refine Kd.C_drewN ?_ _) | (with_reducible refine Kd.C_drew ?_))); (case side2 => exact (Kd.R_reads' HO_5.out).2.1); (case side3 => repeat (first | exact (Kd.R_reads' HO499.out).2.2 | (with_reducible refine Kd.C_alloc ?_ _) | (with_reducible refine Kd.C_drewN ?_ _) | (with_reducible refine Kd.C_drew ?_))); (case side4 => exact (Kd.R_reads' HO499.out).2.1); rintro e w' ⟨rfl, ⟨nd, rfl⟩⟩; refine ⟨_, rfl, ?_⟩) | ((with_reducible refine gate_builtin (b := .append) (xs := #[.tmp 39, .tmp 41]) rfl ?_); at_builtin; refine Kd.R_append (Kd.int .i64) (w0 := w) w.heap.size rfl (.tmp 39) (.tmp 41) 48 3 (.int .i64 0) 8 rfl Try.underlying48 info3 rfl (by decide) (by omega) u3 x3_2 x6_2 [.int .i64 x6_2] (fun _ => True) (fun _ => False) rfl rfl ?aP (fun _ hk => hk.elim) ?aF ?aO ?aB ?aS ?aL ?_; (case aP => exact rfl); (case aB => exact (hb_ HB)); (case aF => exact (fun _ _ => trivial)); (case aO => exact (rk_ HO_3)); (case aS => exact (below_size (hb_ HB))); (case aL => have := LMc14.out; omega); intro v502 w18 ho hb hg hat; rw [← Ny501.out] at ho; have n0_ := Aside0.mk (Kd.R_over' (rk_ HO_5) (Kd.R_typed (rk_ HO_3)) (by decide) hg); have n1_ := Aside0.mk (Kd.R_over' (rk_ HO499) (Kd.R_typed (rk_ HO_3)) (by decide) hg); have n2_ := Aside0.mk (hb); have n3_ := Aside0.mk (ho); clear HO_5; clear HO499; clear HB; clear HO_3; have HO_5 := n0_; have HO499 := n1_; have HB := n2_; have HO503 := n3_; clear n0_ n1_ n2_ n3_; clear ho hb hg hat)))
            go_roundg k2
            case measure => have := HK1.out; have := HK2.out; omega
            case rel => exact ⟨(y501), (wrap64 (x4_1 + 1)), (by first | rfl | (simp; done) | (simp [*]; done)), H', ⟨by have := HK1.out; have := HK2.out; omega⟩, ⟨by (with_reducible repeat (first | apply Kd.R_alloc | apply Kd.R_drewN | apply Kd.R_drew)); exact HO503.out⟩, ⟨hb_ HB⟩⟩
           ·(rw [if_neg c14] at H); (exact absurd H (by simp))
          ·replace c13 := Bool.eq_false_iff.mpr c13
           (subst c13); (have H1 : ((gangsawref40_mirrored.f k2 t497).bind fun t504 => ((gangsawref40_SameLine.f k2 t493 t504).bind fun t507 => (if t507 = true then (if x3_2.length < 17592186044416 then (gangsawref40_Kinds.l0 k2 l0 (x3_2 ++ [x6_2]) (wrap64 (x4_1 + 1))) else (none)) else (gangsawref40_Kinds.l1 k2 l0 x3_2 x4_1 t493 (wrap64 (x6_2 + 1)))))) = some r := by rw [if_neg (show ¬ (false = true) by decide)] at H; exact H); (clear H); (have H := H1); (clear H1); (replace H := Option.bind_eq_some_iff.mp H); (obtain ⟨t504, A190, H⟩ := H); (replace H : ((gangsawref40_SameLine.f k2 t493 t504).bind fun t507 => (if t507 = true then (if x3_2.length < 17592186044416 then (gangsawref40_Kinds.l0 k2 l0 (x3_2 ++ [x6_2]) (wrap64 (x4_1 + 1))) else (none)) else (gangsawref40_Kinds.l1 k2 l0 x3_2 x4_1 t493 (wrap64 (x6_2 + 1))))) = some r := H); (have A19 := Aside0.mk A190); (clear A190); (replace H := Option.bind_eq_some_iff.mp H); (obtain ⟨t507, A200, H⟩ := H); (replace H : (if t507 = true then (if x3_2.length < 17592186044416 then (gangsawref40_Kinds.l0 k2 l0 (x3_2 ++ [x6_2]) (wrap64 (x4_1 + 1))) else (none)) else (gangsawref40_Kinds.l1 k2 l0 x3_2 x4_1 t493 (wrap64 (x6_2 + 1)))) = some r := H); (have A20 := Aside0.mk A200); (clear A200); (by_cases c21 : t507 = true)
           ·subst c21
            (have H1 : (if x3_2.length < 17592186044416 then (gangsawref40_Kinds.l0 k2 l0 (x3_2 ++ [x6_2]) (wrap64 (x4_1 + 1))) else (none)) = some r := by rw [if_pos rfl] at H; exact H); (clear H); (have H := H1); (clear H1); (by_cases c22 : x3_2.length < 17592186044416)
            ·rw [if_pos c22] at H
             (have LMc22 := Aside0.mk c22); (clear c22); (obtain ⟨y508, hy508⟩ : ∃ y_ : List Int, y_ = (x3_2 ++ [x6_2]) := ⟨_, rfl⟩); (replace H : (gangsawref40_Kinds.l0 k2 l0 y508 (wrap64 (x4_1 + 1))) = some r := by first | (rw [hy508]; with_reducible exact H) | (have H2_ := (Option.bind_some _ _).symm.trans H; rw [hy508]; with_reducible exact H2_) | (have H2_ := (Option.bind_some _ _).symm.trans H; with_reducible exact H2_) | with_reducible exact H | (rw [hy508]; exact H) | exact H); (have Ny508 := Aside0.mk hy508); (clear hy508); (have H' := Aside0.mk H); (clear H); (have p496 : 0 ≤ (x6_2 : Int) := of_decide_eq_true (by first | (with_reducible assumption) | assumption)); (have q496 : x6_2 < (l0.length : Int) := of_decide_eq_true (by first | (with_reducible assumption) | assumption)); (obtain ⟨ad496, A496_0, c496_0, e496, hx496_0, hl496_0, hi496_0⟩ := at_L2 HR0.out x6_2 p496 q496); (obtain rfl : ad492 = ad496 := (by injection e496)); (replace hx496_0 := (HB.out.cell (World.block_lt_of_cell? w _ hx496_0)).trans hx496_0); (have HR496_0 := Aside0.mk hi496_0); (have HC496_0 := Aside0.mk hl496_0); (clear hi496_0 hl496_0); (replace p496 := eq_true p496); (replace q496 := eq_true q496); (go_wp2_with (first | ((with_reducible refine gate_callee (f := 30) rfl ?_); refine goesL_ (some 29) rfl rfl Try.func30 (by kernel_rfl) rfl #[.slice A496_0 (rd_L2 l0 x6_2).length c496_0] rfl (by (try simp only [List.map_toArray, List.map_cons, List.map_nil]); first | done | rfl | (simp only [List.length_drop, List.length_take]; rfl)) ?_; (with_reducible refine (gangsawref40_Template.calls k2 _ _ (rd_L2 l0 x6_2) t497 _ ?side1 ?side2 A11.out).mono ?_); (case side1 => repeat (first | exact (Kd.C_below HR496_0.out HB.out) | (with_reducible refine Kd.C_alloc ?_ _) | (with_reducible refine Kd.C_drewN ?_ _) | (with_reducible refine Kd.C_drew ?_))); (case side2 => exact HC496_0.out); rintro e w23 ⟨v498, rfl, ho0, hb⟩; refine ⟨_, rfl, ?_⟩; replace HO_3 := rb_ HO_3 hb; have HO499 := Aside0.mk (Kd.R_lower (Kd.R_new' ho0 (Kd.R_lt (rk_ HO_5))) (below_size (hb_ HB))); replace HO_5 := Aside0.mk (Kd.R_elder' (rk_ HO_5) (Kd.R_base ho0) hb); replace HB := hs_ HB hb; (try clear hb); (try clear hb2); (try clear hk); (try clear hi); (try clear ho0); obtain ⟨Ao24, co24, eo24⟩ := Kd.R_slice HO_5.out; subst eo24; obtain ⟨Ao25, co25, eo25⟩ := Kd.R_slice HO499.out; subst eo25) | ((with_reducible refine gate_callee (f := 29) rfl ?_); refine goesL_ (some 32) rfl rfl Try.func29 (by kernel_rfl) rfl #[.slice Ao24 t493.length co24, .slice Ao25 t497.length co25] rfl (by (try simp only [List.map_toArray, List.map_cons, List.map_nil]); first | done | rfl | (simp only [List.length_drop, List.length_take]; rfl)) ?_; (with_reducible refine (gangsawref40_SameLine.calls k2 _ _ t493 _ _ t497 false _ ?side1 ?side2 ?side3 ?side4 A12.out).mono ?_); (case side1 => repeat (first | exact (Kd.R_reads' HO_5.out).2.2 | (with_reducible refine Kd.C_alloc ?_ _) | (with_reducible refine Kd.C_drewN ?_ _) | (with_reducible refine Kd.C_drew ?_))); (case side2 => exact (Kd.R_reads' HO_5.out).2.1); (case side3 => repeat (first | exact (Kd.R_reads' HO499.out).2.2 | (with_reducible refine Kd.C_alloc ?_ _) | (with_reducible refine Kd.C_drewN ?_ _) | (with_reducible refine Kd.C_drew ?_))); (case side4 => exact (Kd.R_reads' HO499.out).2.1); rintro e w' ⟨rfl, ⟨nd, rfl⟩⟩; refine ⟨_, rfl, ?_⟩) | (go_at_call 57; (with_reducible refine (gangsawref40_mirrored.calls k2 _ _ t497 t504 _ ?side1 ?side2 A19.out).mono ?_); (case side1 => repeat (first | exact (Kd.R_reads' HO499.out).2.2 | (with_reducible refine Kd.C_alloc ?_ _) | (with_reducible refine Kd.C_drewN ?_ _) | (with_reducible refine Kd.C_drew ?_))); (case side2 => exact (Kd.R_reads' HO499.out).2.1); rintro e w26 ⟨v505, rfl, ho0, hb⟩; replace HO_3 := rb_ HO_3 hb; have HO506 := Aside0.mk (Kd.R_lower (Kd.R_new' (Kd.R_new' ho0 (Kd.R_lt (rk_ HO_5))) (Kd.R_lt (rk_ HO499))) (below_size (hb_ HB))); replace HO_5 := Aside0.mk (Kd.R_elder' (rk_ HO_5) (Kd.R_base ho0) hb); replace HO499 := Aside0.mk (Kd.R_elder' (rk_ HO499) (Kd.R_base ho0) hb); replace HB := hs_ HB hb; (try clear hb); (try clear hb2); (try clear hk); (try clear hi); (try clear ho0); obtain ⟨Ao27, co27, eo27⟩ := Kd.R_slice HO506.out; subst eo27) | (go_at_call 29; (with_reducible refine (gangsawref40_SameLine.calls k2 _ _ t493 _ _ t504 true _ ?side1 ?side2 ?side3 ?side4 A20.out).mono ?_); (case side1 => repeat (first | exact (Kd.R_reads' HO_5.out).2.2 | (with_reducible refine Kd.C_alloc ?_ _) | (with_reducible refine Kd.C_drewN ?_ _) | (with_reducible refine Kd.C_drew ?_))); (case side2 => exact (Kd.R_reads' HO_5.out).2.1); (case side3 => repeat (first | exact (Kd.R_reads' HO506.out).2.2 | (with_reducible refine Kd.C_alloc ?_ _) | (with_reducible refine Kd.C_drewN ?_ _) | (with_reducible refine Kd.C_drew ?_))); (case side4 => exact (Kd.R_reads' HO506.out).2.1); rintro e w' ⟨rfl, ⟨nd, rfl⟩⟩) | ((with_reducible refine gate_builtin (b := .append) (xs := #[.tmp 39, .tmp 41]) rfl ?_); at_builtin; refine Kd.R_append (Kd.int .i64) (w0 := w) w.heap.size rfl (.tmp 39) (.tmp 41) 48 3 (.int .i64 0) 8 rfl Try.underlying48 info3 rfl (by decide) (by omega) u3 x3_2 x6_2 [.int .i64 x6_2] (fun _ => True) (fun _ => False) rfl rfl ?aP (fun _ hk => hk.elim) ?aF ?aO ?aB ?aS ?aL ?_; (case aP => exact rfl); (case aB => exact (hb_ HB)); (case aF => exact (fun _ _ => trivial)); (case aO => exact (rk_ HO_3)); (case aS => exact (below_size (hb_ HB))); (case aL => have := LMc22.out; omega); intro v509 w28 ho hb hg hat; rw [← Ny508.out] at ho; have n0_ := Aside0.mk (Kd.R_over' (rk_ HO_5) (Kd.R_typed (rk_ HO_3)) (by decide) hg); have n1_ := Aside0.mk (Kd.R_over' (rk_ HO499) (Kd.R_typed (rk_ HO_3)) (by decide) hg); have n2_ := Aside0.mk (Kd.R_over' (rk_ HO506) (Kd.R_typed (rk_ HO_3)) (by decide) hg); have n3_ := Aside0.mk (hb); have n4_ := Aside0.mk (ho); clear HO_5; clear HO499; clear HO506; clear HB; clear HO_3; have HO_5 := n0_; have HO499 := n1_; have HO506 := n2_; have HB := n3_; have HO510 := n4_; clear n0_ n1_ n2_ n3_ n4_; clear ho hb hg hat)))
             go_roundg k2
             case measure => have := HK1.out; have := HK2.out; omega
             case rel => exact ⟨(y508), (wrap64 (x4_1 + 1)), (by first | rfl | (simp; done) | (simp [*]; done)), H', ⟨by have := HK1.out; have := HK2.out; omega⟩, ⟨by (with_reducible repeat (first | apply Kd.R_alloc | apply Kd.R_drewN | apply Kd.R_drew)); exact HO510.out⟩, ⟨hb_ HB⟩⟩
            ·(rw [if_neg c22] at H); (exact absurd H (by simp))
           ·replace c21 := Bool.eq_false_iff.mpr c21
            (subst c21); (have H1 : (gangsawref40_Kinds.l1 k2 l0 x3_2 x4_1 t493 (wrap64 (x6_2 + 1))) = some r := by rw [if_neg (show ¬ (false = true) by decide)] at H; exact H); (clear H); (have H := H1); (clear H1); (have H' := Aside0.mk H); (clear H); (have p496 : 0 ≤ (x6_2 : Int) := of_decide_eq_true (by first | (with_reducible assumption) | assumption)); (have q496 : x6_2 < (l0.length : Int) := of_decide_eq_true (by first | (with_reducible assumption) | assumption)); (obtain ⟨ad496, A496_0, c496_0, e496, hx496_0, hl496_0, hi496_0⟩ := at_L2 HR0.out x6_2 p496 q496); (obtain rfl : ad492 = ad496 := (by injection e496)); (replace hx496_0 := (HB.out.cell (World.block_lt_of_cell? w _ hx496_0)).trans hx496_0); (have HR496_0 := Aside0.mk hi496_0); (have HC496_0 := Aside0.mk hl496_0); (clear hi496_0 hl496_0); (replace p496 := eq_true p496); (replace q496 := eq_true q496); (go_wp2_with (first | ((with_reducible refine gate_callee (f := 30) rfl ?_); refine goesL_ (some 29) rfl rfl Try.func30 (by kernel_rfl) rfl #[.slice A496_0 (rd_L2 l0 x6_2).length c496_0] rfl (by (try simp only [List.map_toArray, List.map_cons, List.map_nil]); first | done | rfl | (simp only [List.length_drop, List.length_take]; rfl)) ?_; (with_reducible refine (gangsawref40_Template.calls k2 _ _ (rd_L2 l0 x6_2) t497 _ ?side1 ?side2 A11.out).mono ?_); (case side1 => repeat (first | exact (Kd.C_below HR496_0.out HB.out) | (with_reducible refine Kd.C_alloc ?_ _) | (with_reducible refine Kd.C_drewN ?_ _) | (with_reducible refine Kd.C_drew ?_))); (case side2 => exact HC496_0.out); rintro e w29 ⟨v498, rfl, ho0, hb⟩; refine ⟨_, rfl, ?_⟩; replace HO_3 := rb_ HO_3 hb; have HO499 := Aside0.mk (Kd.R_lower (Kd.R_new' ho0 (Kd.R_lt (rk_ HO_5))) (below_size (hb_ HB))); replace HO_5 := Aside0.mk (Kd.R_elder' (rk_ HO_5) (Kd.R_base ho0) hb); replace HB := hs_ HB hb; (try clear hb); (try clear hb2); (try clear hk); (try clear hi); (try clear ho0); obtain ⟨Ao30, co30, eo30⟩ := Kd.R_slice HO_5.out; subst eo30; obtain ⟨Ao31, co31, eo31⟩ := Kd.R_slice HO499.out; subst eo31) | ((with_reducible refine gate_callee (f := 29) rfl ?_); refine goesL_ (some 32) rfl rfl Try.func29 (by kernel_rfl) rfl #[.slice Ao30 t493.length co30, .slice Ao31 t497.length co31] rfl (by (try simp only [List.map_toArray, List.map_cons, List.map_nil]); first | done | rfl | (simp only [List.length_drop, List.length_take]; rfl)) ?_; (with_reducible refine (gangsawref40_SameLine.calls k2 _ _ t493 _ _ t497 false _ ?side1 ?side2 ?side3 ?side4 A12.out).mono ?_); (case side1 => repeat (first | exact (Kd.R_reads' HO_5.out).2.2 | (with_reducible refine Kd.C_alloc ?_ _) | (with_reducible refine Kd.C_drewN ?_ _) | (with_reducible refine Kd.C_drew ?_))); (case side2 => exact (Kd.R_reads' HO_5.out).2.1); (case side3 => repeat (first | exact (Kd.R_reads' HO499.out).2.2 | (with_reducible refine Kd.C_alloc ?_ _) | (with_reducible refine Kd.C_drewN ?_ _) | (with_reducible refine Kd.C_drew ?_))); (case side4 => exact (Kd.R_reads' HO499.out).2.1); rintro e w' ⟨rfl, ⟨nd, rfl⟩⟩; refine ⟨_, rfl, ?_⟩) | (go_at_call 57; (with_reducible refine (gangsawref40_mirrored.calls k2 _ _ t497 t504 _ ?side1 ?side2 A19.out).mono ?_); (case side1 => repeat (first | exact (Kd.R_reads' HO499.out).2.2 | (with_reducible refine Kd.C_alloc ?_ _) | (with_reducible refine Kd.C_drewN ?_ _) | (with_reducible refine Kd.C_drew ?_))); (case side2 => exact (Kd.R_reads' HO499.out).2.1); rintro e w32 ⟨v505, rfl, ho0, hb⟩; replace HO_3 := rb_ HO_3 hb; have HO506 := Aside0.mk (Kd.R_lower (Kd.R_new' (Kd.R_new' ho0 (Kd.R_lt (rk_ HO_5))) (Kd.R_lt (rk_ HO499))) (below_size (hb_ HB))); replace HO_5 := Aside0.mk (Kd.R_elder' (rk_ HO_5) (Kd.R_base ho0) hb); replace HO499 := Aside0.mk (Kd.R_elder' (rk_ HO499) (Kd.R_base ho0) hb); replace HB := hs_ HB hb; (try clear hb); (try clear hb2); (try clear hk); (try clear hi); (try clear ho0); obtain ⟨Ao33, co33, eo33⟩ := Kd.R_slice HO506.out; subst eo33) | (go_at_call 29; (with_reducible refine (gangsawref40_SameLine.calls k2 _ _ t493 _ _ t504 false _ ?side1 ?side2 ?side3 ?side4 A20.out).mono ?_); (case side1 => repeat (first | exact (Kd.R_reads' HO_5.out).2.2 | (with_reducible refine Kd.C_alloc ?_ _) | (with_reducible refine Kd.C_drewN ?_ _) | (with_reducible refine Kd.C_drew ?_))); (case side2 => exact (Kd.R_reads' HO_5.out).2.1); (case side3 => repeat (first | exact (Kd.R_reads' HO506.out).2.2 | (with_reducible refine Kd.C_alloc ?_ _) | (with_reducible refine Kd.C_drewN ?_ _) | (with_reducible refine Kd.C_drew ?_))); (case side4 => exact (Kd.R_reads' HO506.out).2.1); rintro e w' ⟨rfl, ⟨nd, rfl⟩⟩)))
            go_roundg k2
            case measure => have := HK1.out; have := HK2.out; omega
            case rel => exact ⟨(x3_2), (wrap64 (x6_2 + 1)), (by first | rfl | (simp; done) | (simp [*]; done)), H', ⟨by have := HK1.out; have := HK2.out; omega⟩, ⟨by (with_reducible repeat (first | apply Kd.R_alloc | apply Kd.R_drewN | apply Kd.R_drew)); exact HO_3.out⟩, ⟨by (with_reducible repeat (first | apply Kd.R_alloc | apply Kd.R_drewN | apply Kd.R_drew)); exact Kd.R_mono HO_5.out (fun _ hk => trivial)⟩, ⟨hb_ HB⟩⟩
         ·(rw [if_neg c10] at H); (exact absurd H (by simp))
        ·(rw [if_neg c9] at H); (exact absurd H (by simp))
       ·rw [if_neg c8] at H
        (have c8b0 := decide_eq_false c8); (clear c8); (have H' := Aside0.mk H); (clear H); (go_wp2); (go_roundg k2)
        case measure => have := HK1.out; have := HK2.out; omega
        case rel => exact ⟨(x3_2), (wrap64 (x4_1 + 1)), (by first | rfl | (simp; done) | (simp [*]; done)), H', ⟨by have := HK1.out; have := HK2.out; omega⟩, ⟨by (with_reducible repeat (first | apply Kd.R_alloc | apply Kd.R_drewN | apply Kd.R_drew)); exact HO_3.out⟩, ⟨hb_ HB⟩⟩
    ·(rw [if_neg c5] at H); (exact absurd H (by simp))
   ·(rw [if_neg c4] at H); (have c4b0 := decide_eq_false c4); (clear c4); (obtain rfl := Option.some.inj H); (go_wp2); (go_ret); (exact ⟨_, by first | rfl | (simp [errW_none, errW_some] <;> rfl) | (simp [*, errW_none, errW_some] <;> rfl), by (with_reducible repeat (first | apply Kd.R_alloc | apply Kd.R_drewN | apply Kd.R_drew)); exact HO_3.out, hb_ HB⟩)

end Go.Proofs.Ytjlljjnkjhdljaa.XA
