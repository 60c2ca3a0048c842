-- written by xprint.py, this project's own program (wip/), over the words of print.sh
import Derived.Test.YtecbmcheojolnaaXAx0
import Derived.Test.YtecbmcheojolnaaXAx34
import Derived.Test.YtecbmcheojolnaaXAx35
import Derived.Test.YtecbmcheojolnaaFlat
namespace Go.Proofs.Ytecbmcheojolnaa.XA
open Go.Proofs.Ytecbmcheojolnaa.Flat Go.RowKit Go.Proofs.Ytecbmcheojolnaa.Opens Go.Proofs.YtecbmcheojolnaaW.PrintWords Go.Proofs.YtecbmcheojolnaaW.PrintLast Go.Proofs.YtecbmcheojolnaaW.PrintMore
attribute [local go_sem] max2_int min2_int max_two min_two max_three min_three max_four min_four cell_some cell_same   -- for this text's walks alone
set_option linter.unusedVariables false
set_option linter.unusedSimpArgs false

/-! ### rf_Cycle: function 14 -/
mutual
def rf_Cycle.l0 : Nat → Int → Int → Int → List (S47) → Option (List Int)
 | 0, _, _, _, _ => none
 | k + 1, x3, x4, x422000, x422001 => if x4 < x422000 then ((rf_steps.f k x422000 x422001 x4).bind fun t422 => (if 0 ≤ x4 then (if x4 < (t422.length : Int) then (if (rd t422 x4) > 0 then (if x3 = 0 then (rf_Cycle.l0 k (rd t422 x4) (wrap64 (x4 + 1)) x422000 x422001) else (if (rd t422 x4) < x3 then (rf_Cycle.l0 k (rd t422 x4) (wrap64 (x4 + 1)) x422000 x422001) else (rf_Cycle.l0 k x3 (wrap64 (x4 + 1)) x422000 x422001))) else (rf_Cycle.l0 k x3 (wrap64 (x4 + 1)) x422000 x422001)) else (none)) else (none))) else (rf_Cycle.l1 k x3 0 x422000 x422001)
def rf_Cycle.l1 : Nat → Int → Int → Int → List (S47) → Option (List Int)
 | 0, _, _, _, _ => none
 | k + 1, x3, x6, x422000, x422001 => if x6 < x422000 then (rf_Cycle.j2 k x3 x6 (decide (x3 > 0)) x422000 x422001) else (rf_Cycle.j2 k x3 x6 false x422000 x422001)
def rf_Cycle.j2 : Nat → Int → Int → Bool → Int → List (S47) → Option (List Int)
 | 0, _, _, _, _, _ => none
 | k + 1, x3, x6, x42, x422000, x422001 => if x42 = true then ((rf_steps.f k x422000 x422001 x6).bind fun t429 => (if 0 ≤ x6 then (if x6 < (t429.length : Int) then (if (rd t429 x6) = x3 then (rf_Cycle.l2 k x6 t429 (([x6] : List Int)) (wrap64 (x3 - 1)) x422000 x422001) else (rf_Cycle.l1 k x3 (wrap64 (x6 + 1)) x422000 x422001)) else (none)) else (none))) else (some (([] : List Int)))
def rf_Cycle.l2 : Nat → Int → List Int → List Int → Int → Int → List (S47) → Option (List Int)
 | 0, _, _, _, _, _, _ => none
 | k + 1, x6, x7, x8, x9, x422000, x422001 => if x9 > 0 then (rf_Cycle.l3 k x6 x7 x8 x9 0 x422000 x422001) else (some x8)
def rf_Cycle.l3 : Nat → Int → List Int → List Int → Int → Int → Int → List (S47) → Option (List Int)
 | 0, _, _, _, _, _, _, _ => none
 | k + 1, x6, x7, x8, x9, x10, x422000, x422001 => if x10 < x422000 then (if x10 = x6 then (rf_Cycle.l3 k x6 x7 x8 x9 (wrap64 (x10 + 1)) x422000 x422001) else (if 0 ≤ x10 then (if x10 < (x7.length : Int) then (if (rd x7 x10) = x9 then (if 0 ≤ (wrap64 ((x8.length : Int) - 1)) then (if (wrap64 ((x8.length : Int) - 1)) < (x8.length : Int) then ((rf_Edge.f k x422000 x422001 (rd x8 (wrap64 ((x8.length : Int) - 1))) x10).bind fun t438 => (if t438 = true then (if x8.length < 17592186044416 then (rf_Cycle.l2 k x6 x7 (x8 ++ [x10]) (wrap64 (x9 - 1)) x422000 x422001) else (none)) else (rf_Cycle.l3 k x6 x7 x8 x9 (wrap64 (x10 + 1)) x422000 x422001))) else (none)) else (none)) else (rf_Cycle.l3 k x6 x7 x8 x9 (wrap64 (x10 + 1)) x422000 x422001)) else (none)) else (none))) else (rf_Cycle.l2 k x6 x7 x8 (wrap64 (x9 - 1)) x422000 x422001)
end
def rf_Cycle.f (k : Nat) (a0_0 : Int) (l0_1 : List (S47)) : Option (List Int) := rf_Cycle.l0 k 0 0 a0_0 l0_1
theorem rf_Cycle.mono_l : ∀ k, (∀ y0 y1 y2 y3, LeO (rf_Cycle.l0 k y0 y1 y2 y3) (rf_Cycle.l0 (k + 1) y0 y1 y2 y3)) ∧ (∀ y0 y1 y2 y3, LeO (rf_Cycle.l1 k y0 y1 y2 y3) (rf_Cycle.l1 (k + 1) y0 y1 y2 y3)) ∧ (∀ y0 y1 y2 y3 y4, LeO (rf_Cycle.j2 k y0 y1 y2 y3 y4) (rf_Cycle.j2 (k + 1) y0 y1 y2 y3 y4)) ∧ (∀ y0 y1 y2 y3 y4 y5, LeO (rf_Cycle.l2 k y0 y1 y2 y3 y4 y5) (rf_Cycle.l2 (k + 1) y0 y1 y2 y3 y4 y5)) ∧ (∀ y0 y1 y2 y3 y4 y5 y6, LeO (rf_Cycle.l3 k y0 y1 y2 y3 y4 y5 y6) (rf_Cycle.l3 (k + 1) y0 y1 y2 y3 y4 y5 y6))
 | 0 => ⟨fun _ _ _ _ r h => by simp [rf_Cycle.l0] at h, fun _ _ _ _ r h => by simp [rf_Cycle.l1] at h, fun _ _ _ _ _ r h => by simp [rf_Cycle.j2] at h, fun _ _ _ _ _ _ r h => by simp [rf_Cycle.l2] at h, fun _ _ _ _ _ _ _ r h => by simp [rf_Cycle.l3] at h⟩
 | k + 1 => by
  obtain ⟨ih0, ih1, ih2, ih3, ih4⟩ := rf_Cycle.mono_l k; refine ⟨?_, ?_, ?_, ?_, ?_⟩; (all_goals (intros; (first | unfold rf_Cycle.l0 | unfold rf_Cycle.l1 | unfold rf_Cycle.j2 | unfold rf_Cycle.l2 | unfold rf_Cycle.l3)))
  all_goals (repeat' first
   | (with_reducible exact ih0 _ _ _ _)
   | (with_reducible exact ih1 _ _ _ _)
   | (with_reducible exact ih2 _ _ _ _ _)
   | (with_reducible exact ih3 _ _ _ _ _ _)
   | (with_reducible exact ih4 _ _ _ _ _ _ _)
   | (with_reducible exact rf_Edge.mono _ _ _ _ _)
   | (with_reducible exact rf_steps.mono _ _ _ _)
   | (with_reducible exact LeO.refl _)
   | (with_reducible refine LeO.ite ?_ ?_)
   | (with_reducible refine LeO.bind ?_ (fun _ => ?_))
   )
theorem rf_Cycle.mono : ∀ a0 a1 k, LeO (rf_Cycle.f k a0 a1) (rf_Cycle.f (k + 1) a0 a1) := by
 intro a0 a1 k
 obtain ⟨ih0, ih1, ih2, ih3, ih4⟩ := rf_Cycle.mono_l k
 unfold rf_Cycle.f
 repeat' (with_reducible exact ih0 _ _ _ _)
def rf_Cycle.T20 : Bool × List (List Nat × List Nat) := (true, [([], []), ([], []), ([0, 1], [0, 1]), ([2], [2]), ([3], [3]), ([3], [3]), ([4, 5, 3], [3, 4, 5]), ([6, 3], [3, 6]), ([3], [3]), ([7, 8, 3], [3, 7, 8]), ([3, 9], [3, 9]), ([10, 3], [10]), ([11], [11]), ([11], [11]), ([11], [11]), ([14, 11], [11, 14]), ([15, 11], [11, 15]), ([13, 16, 11], [11, 13, 16]), ([17, 11], [11, 17]), ([11], [11]), ([12, 18, 19, 11, 11], [11, 12, 18, 19]), ([11, 20], [11, 20])])
def rf_Cycle.B20 : List Nat := [0, 0, 3, 7, 15, 15, 63, 127, 15, 511, 1023, 2047, 4095, 4095, 4095, 20479, 53247, 126975, 258047, 4095, 1048575, 2097151]
theorem rf_Cycle.tab20 : rtab .any (opsOf Try.f14 20) = rf_Cycle.T20 := by kernel_rfl
theorem rf_Cycle.bits20 : waitsOk rf_Cycle.T20.2 rf_Cycle.B20 = true := by kernel_rfl
set_option maxHeartbeats 8000000 in
set_option maxRecDepth 100000 in
theorem rf_Cycle.calls (k : Nat) (a0_0 : Int) (A0_1 : Option Addr) (c0_1 : Nat) (l0_1 : List (S47)) (r : List Int) (w : World) (hr0_1 : Kd.C k47 w A0_1 l0_1.length l0_1) (hc0_1 : l0_1.length ≤ c0_1) (h : rf_Cycle.f k a0_0 l0_1 = some r) :
  Calls Try.prog 14 #[.agg #[.int .i64 a0_0, .slice A0_1 l0_1.length c0_1]] w fun e w' => ∃ v0_ : Value, e = .returned (v0_) ∧ Kd.R (Kd.int .i64) 3 w' w.heap.size (fun _ => True) v0_ r ∧ Below w.heap.size w w' := by
 have hu24 := Try.underlying24
 have HR0_1 := ak hr0_1
 have HC0_1 := ak hc0_1
 clear hr0_1 hc0_1
 have HB := ak (Below.refl w.heap.size w)
 have H : (rf_Cycle.l0 k 0 0 a0_0 l0_1) = some r := h
 clear h
 have H' := ak H
 clear H
 go_enter Try.func14, Try.ntmps14
 go_wp2_with (first | ((with_reducible refine gate_dst (N := 1) rfl ?_); refine box_event ?hg (N := 1) ?hd (cs := #[.int .i64 a0_0, .slice A0_1 l0_1.length c0_1]) (t := 24) ?hr ?_; (case hd => rfl); (case hg => rfl); (case hr => (go_simp; done)); intro gb421 hg w2 hbox hb; have BK421 := ak (hbox); have GW421 := gw_ HB hg; have GE421 := gw_ HB hg; replace HB := hs_ HB hb; clear hb hbox hg))
 go_loopg [3, 4] k (fun kq v3 v4 w' => ∃ (x3_1 : Int) (x4_1 : Int), v3 = .int .i64 x3_1 ∧ v4 = .int .i64 x4_1 ∧ Aside0 (rf_Cycle.l0 kq x3_1 x4_1 a0_0 l0_1 = some r) ∧ Aside0 (kq ≤ k) ∧ Aside0 (w'.heap[gb421]? = some (.cells #[.int .i64 a0_0, (.slice A0_1 l0_1.length c0_1)] 24 (0, 0))) ∧ Aside0 (Below w.heap.size w w'))
 case atStart => exact ⟨(0), (0), (by rfl), (by rfl), H', ⟨Nat.le_refl _⟩, ⟨bk_ BK421⟩, ⟨hb_ HB⟩⟩
 clear H'; obtain ⟨x3_1, x4_1, rfl, rfl, HA, HK1, BK421, HB⟩ := hrel
 cases gk with
 | zero => exact absurd HA.1 (by simp [rf_Cycle.l0])
 | succ k1 =>
  have H := HA.1; clear HA; simp only [rf_Cycle.l0] at H; (by_cases c3 : x4_1 < a0_0)
  ·rw [if_pos c3] at H
   have c3b0 := decide_eq_true c3; clear c3; replace H := Option.bind_eq_some_iff.mp H; obtain ⟨t422, A40, H⟩ := H; (replace H : (if 0 ≤ x4_1 then (if x4_1 < (t422.length : Int) then (if (rd t422 x4_1) > 0 then (if x3_1 = 0 then (rf_Cycle.l0 k1 (rd t422 x4_1) (wrap64 (x4_1 + 1)) a0_0 l0_1) else (if (rd t422 x4_1) < x3_1 then (rf_Cycle.l0 k1 (rd t422 x4_1) (wrap64 (x4_1 + 1)) a0_0 l0_1) else (rf_Cycle.l0 k1 x3_1 (wrap64 (x4_1 + 1)) a0_0 l0_1))) else (rf_Cycle.l0 k1 x3_1 (wrap64 (x4_1 + 1)) a0_0 l0_1)) else (none)) else (none)) = some r := H); have A4 := ak A40; clear A40; (by_cases c5 : 0 ≤ x4_1)
   ·rw [if_pos c5] at H
    have c5b0 := decide_eq_true c5; clear c5; (by_cases c6 : x4_1 < (t422.length : Int))
    ·rw [if_pos c6] at H
     have c6b0 := decide_eq_true c6; clear c6; (by_cases c7 : (rd t422 x4_1) > 0)
     ·rw [if_pos c7] at H
      have c7b0 := decide_eq_true c7; clear c7; (by_cases c8 : x3_1 = 0)
      ·rw [if_pos c8] at H
       have c8b0 := beq_iff_eq.mpr c8; have c8b1 := bne_eq_false_iff_eq.mpr c8; clear c8; have H' := ak H; clear H; obtain ⟨hcz9_0, hcz9_1, hfz9_0, hfz9_1⟩ := cz2_ BK421; (go_wp2_with (first | ((with_reducible refine gate_callee (f := 32) rfl ?_); refine goesL_ (some 19) rfl rfl Try.func32 (by kernel_rfl) rfl #[.agg #[.int .i64 a0_0, .slice A0_1 l0_1.length c0_1], .int .i64 x4_1] rfl am_ ?_; (with_reducible refine (rf_steps.calls k1 a0_0 _ _ l0_1 x4_1 t422 _ ?side1 ?side2 A4.1).mono ?_); (case side1 => exact (Kd.C_below HR0_1.1 HB.1)); (case side2 => exact HC0_1.1); rintro e w10 ⟨v423, rfl, ho0, hb⟩; refine ⟨_, rfl, ?_⟩; have HO424 := ak (Kd.R_lower ho0 (below_size (hb_ HB))); replace BK421 := bb_ BK421 hb; replace HB := hs_ HB hb; (try clear hb); (try clear ho0); obtain ⟨Ao11, co11, eo11⟩ := Kd.R_slice HO424.1; subst eo11; have p425 : 0 ≤ (x4_1 : Int) := od_; have q425 : x4_1 < (t422.length : Int) := od_; obtain ⟨ad425, e425, hx425_0⟩ := Kd.at_int (Kd.R_reads' HO424.1).2.2 x4_1 p425 q425; cases e425; replace p425 := eq_true p425; replace q425 := eq_true q425))); (go_roundg k1)
       case measure => have := HK1.1; omega
       case rel => exact ⟨(rd t422 x4_1), (wrap64 (x4_1 + 1)), (by rfl), (by rfl), H', ⟨by have := HK1.1; omega⟩, ⟨bk_ BK421⟩, ⟨hb_ HB⟩⟩
      rw [if_neg c8] at H
      have c8b0 := beq_eq_false_iff_ne.mpr c8; have c8b1 := bne_iff_ne.mpr c8; (by_cases c12 : (rd t422 x4_1) < x3_1)
      ·rw [if_pos c12] at H
       have c12b0 := decide_eq_true c12; clear c12; have H' := ak H; clear H; obtain ⟨hcz13_0, hcz13_1, hfz13_0, hfz13_1⟩ := cz2_ BK421; (go_wp2_with (first | ((with_reducible refine gate_callee (f := 32) rfl ?_); refine goesL_ (some 19) rfl rfl Try.func32 (by kernel_rfl) rfl #[.agg #[.int .i64 a0_0, .slice A0_1 l0_1.length c0_1], .int .i64 x4_1] rfl am_ ?_; (with_reducible refine (rf_steps.calls k1 a0_0 _ _ l0_1 x4_1 t422 _ ?side1 ?side2 A4.1).mono ?_); (case side1 => exact (Kd.C_below HR0_1.1 HB.1)); (case side2 => exact HC0_1.1); rintro e w14 ⟨v423, rfl, ho0, hb⟩; refine ⟨_, rfl, ?_⟩; have HO424 := ak (Kd.R_lower ho0 (below_size (hb_ HB))); replace BK421 := bb_ BK421 hb; replace HB := hs_ HB hb; (try clear hb); (try clear ho0); obtain ⟨Ao15, co15, eo15⟩ := Kd.R_slice HO424.1; subst eo15; have p425 : 0 ≤ (x4_1 : Int) := od_; have q425 : x4_1 < (t422.length : Int) := od_; obtain ⟨ad425, e425, hx425_0⟩ := Kd.at_int (Kd.R_reads' HO424.1).2.2 x4_1 p425 q425; cases e425; replace p425 := eq_true p425; replace q425 := eq_true q425))); (go_roundg k1)
       case measure => have := HK1.1; omega
       case rel => exact ⟨(rd t422 x4_1), (wrap64 (x4_1 + 1)), (by rfl), (by rfl), H', ⟨by have := HK1.1; omega⟩, ⟨bk_ BK421⟩, ⟨hb_ HB⟩⟩
      rw [if_neg c12] at H
      have c12b0 := decide_eq_false c12; clear c12; have H' := ak H; clear H; obtain ⟨hcz16_0, hcz16_1, hfz16_0, hfz16_1⟩ := cz2_ BK421; (go_wp2_with (first | ((with_reducible refine gate_callee (f := 32) rfl ?_); refine goesL_ (some 19) rfl rfl Try.func32 (by kernel_rfl) rfl #[.agg #[.int .i64 a0_0, .slice A0_1 l0_1.length c0_1], .int .i64 x4_1] rfl am_ ?_; (with_reducible refine (rf_steps.calls k1 a0_0 _ _ l0_1 x4_1 t422 _ ?side1 ?side2 A4.1).mono ?_); (case side1 => exact (Kd.C_below HR0_1.1 HB.1)); (case side2 => exact HC0_1.1); rintro e w17 ⟨v423, rfl, ho0, hb⟩; refine ⟨_, rfl, ?_⟩; have HO424 := ak (Kd.R_lower ho0 (below_size (hb_ HB))); replace BK421 := bb_ BK421 hb; replace HB := hs_ HB hb; (try clear hb); (try clear ho0); obtain ⟨Ao18, co18, eo18⟩ := Kd.R_slice HO424.1; subst eo18; have p425 : 0 ≤ (x4_1 : Int) := od_; have q425 : x4_1 < (t422.length : Int) := od_; obtain ⟨ad425, e425, hx425_0⟩ := Kd.at_int (Kd.R_reads' HO424.1).2.2 x4_1 p425 q425; cases e425; replace p425 := eq_true p425; replace q425 := eq_true q425))); (go_roundg k1)
      case measure => have := HK1.1; omega
      case rel => exact ⟨(x3_1), (wrap64 (x4_1 + 1)), (by rfl), (by rfl), H', ⟨by have := HK1.1; omega⟩, ⟨bk_ BK421⟩, ⟨hb_ HB⟩⟩
     rw [if_neg c7] at H
     have c7b0 := decide_eq_false c7; clear c7; have H' := ak H; clear H; obtain ⟨hcz19_0, hcz19_1, hfz19_0, hfz19_1⟩ := cz2_ BK421; (go_wp2_with (first | ((with_reducible refine gate_callee (f := 32) rfl ?_); refine goesL_ (some 19) rfl rfl Try.func32 (by kernel_rfl) rfl #[.agg #[.int .i64 a0_0, .slice A0_1 l0_1.length c0_1], .int .i64 x4_1] rfl am_ ?_; (with_reducible refine (rf_steps.calls k1 a0_0 _ _ l0_1 x4_1 t422 _ ?side1 ?side2 A4.1).mono ?_); (case side1 => exact (Kd.C_below HR0_1.1 HB.1)); (case side2 => exact HC0_1.1); rintro e w20 ⟨v423, rfl, ho0, hb⟩; refine ⟨_, rfl, ?_⟩; have HO424 := ak (Kd.R_lower ho0 (below_size (hb_ HB))); replace BK421 := bb_ BK421 hb; replace HB := hs_ HB hb; (try clear hb); (try clear ho0); obtain ⟨Ao21, co21, eo21⟩ := Kd.R_slice HO424.1; subst eo21; have p425 : 0 ≤ (x4_1 : Int) := od_; have q425 : x4_1 < (t422.length : Int) := od_; obtain ⟨ad425, e425, hx425_0⟩ := Kd.at_int (Kd.R_reads' HO424.1).2.2 x4_1 p425 q425; cases e425; replace p425 := eq_true p425; replace q425 := eq_true q425))); (go_roundg k1)
     case measure => have := HK1.1; omega
     case rel => exact ⟨(x3_1), (wrap64 (x4_1 + 1)), (by rfl), (by rfl), H', ⟨by have := HK1.1; omega⟩, ⟨bk_ BK421⟩, ⟨hb_ HB⟩⟩
    rw [if_neg c6] at H; (exact absurd H (by simp))
   rw [if_neg c5] at H; (exact absurd H (by simp))
  rw [if_neg c3] at H
  have c3b0 := decide_eq_false c3; clear c3; have H' := ak H; clear H; obtain ⟨hcz22_0, hcz22_1, hfz22_0, hfz22_1⟩ := cz2_ BK421; (go_wp2); (go_loopg [6] k1 (fun kq v6 w' => ∃ (x6_2 : Int), v6 = .int .i64 x6_2 ∧ Aside0 (rf_Cycle.l1 kq x3_1 x6_2 a0_0 l0_1 = some r) ∧ Aside0 (kq ≤ k1) ∧ Aside0 (w'.heap[gb421]? = some (.cells #[.int .i64 a0_0, (.slice A0_1 l0_1.length c0_1)] 24 (0, 0))) ∧ Aside0 (Below w.heap.size w w')))
  case atStart => exact ⟨(0), (by rfl), H', ⟨Nat.le_refl _⟩, ⟨bk_ BK421⟩, ⟨hb_ HB⟩⟩
  clear H'; (try clear c3b0); (try clear hcz22_0); (try clear hcz22_1); (try clear hfz22_0); (try clear hfz22_1); obtain ⟨x6_2, rfl, HA, HK2, BK421, HB⟩ := hrel
  cases gk with
  | zero => exact absurd HA.1 (by simp [rf_Cycle.l1])
  | succ k2 =>
   have H := HA.1; clear HA; simp only [rf_Cycle.l1] at H; have HC23 := ak H; clear H; (go_upto_region 9 with (fail)); (go_cut [42] (fun v42 wc => ∃ (kq : Nat) (x42_22 : Bool), v42 = .bool x42_22 ∧ Aside0 (rf_Cycle.j2 kq x3_1 x6_2 x42_22 a0_0 l0_1 = some r) ∧ Aside0 (kq ≤ k2) ∧ Aside0 (wc.heap[gb421]? = some (.cells #[.int .i64 a0_0, (.slice A0_1 l0_1.length c0_1)] 24 (0, 0))) ∧ Aside0 (Below w.heap.size w wc)))
   case first =>
    have H := HC23.1; clear HC23; (by_cases c24 : x6_2 < a0_0)
    ·rw [if_pos c24] at H
     have c24b0 := decide_eq_true c24; clear c24; have H' := ak H; clear H; obtain ⟨hcz25_0, hcz25_1, hfz25_0, hfz25_1⟩ := cz2_ BK421; (go_wp2); (go_meet)
     case rel => exact ⟨_, (decide (x3_1 > 0)), (by rfl), H', ⟨by have := HK1.1; have := HK2.1; omega⟩, ⟨bk_ BK421⟩, ⟨hb_ HB⟩⟩
    rw [if_neg c24] at H
    have c24b0 := decide_eq_false c24; clear c24; have H' := ak H; clear H; obtain ⟨hcz26_0, hcz26_1, hfz26_0, hfz26_1⟩ := cz2_ BK421; (go_wp2); (go_meet)
    case rel => exact ⟨_, (false), (by rfl), H', ⟨by have := HK1.1; have := HK2.1; omega⟩, ⟨bk_ BK421⟩, ⟨hb_ HB⟩⟩
   clear HC23; obtain ⟨kq, x42_22, rfl, HA, HJ22, BK421, HB⟩ := hcut
   cases kq with
   | zero => exact absurd HA.1 (by simp [rf_Cycle.j2])
   | succ kj22 =>
    have H := HA.1; clear HA; simp only [rf_Cycle.j2] at H; (by_cases c27 : x42_22 = true)
    ·subst c27
     (have H1 : ((rf_steps.f kj22 a0_0 l0_1 x6_2).bind fun t429 => (if 0 ≤ x6_2 then (if x6_2 < (t429.length : Int) then (if (rd t429 x6_2) = x3_1 then (rf_Cycle.l2 kj22 x6_2 t429 (([x6_2] : List Int)) (wrap64 (x3_1 - 1)) a0_0 l0_1) else (rf_Cycle.l1 kj22 x3_1 (wrap64 (x6_2 + 1)) a0_0 l0_1)) else (none)) else (none))) = some r := by rw [if_pos rfl] at H; exact H); clear H; have H := H1; clear H1; replace H := Option.bind_eq_some_iff.mp H; obtain ⟨t429, A280, H⟩ := H; (replace H : (if 0 ≤ x6_2 then (if x6_2 < (t429.length : Int) then (if (rd t429 x6_2) = x3_1 then (rf_Cycle.l2 kj22 x6_2 t429 (([x6_2] : List Int)) (wrap64 (x3_1 - 1)) a0_0 l0_1) else (rf_Cycle.l1 kj22 x3_1 (wrap64 (x6_2 + 1)) a0_0 l0_1)) else (none)) else (none)) = some r := H); have A28 := ak A280; clear A280; (by_cases c29 : 0 ≤ x6_2)
     ·rw [if_pos c29] at H
      have c29b0 := decide_eq_true c29; clear c29; (by_cases c30 : x6_2 < (t429.length : Int))
      ·rw [if_pos c30] at H
       have c30b0 := decide_eq_true c30; clear c30; (by_cases c31 : (rd t429 x6_2) = x3_1)
       ·rw [if_pos c31] at H
        have c31b0 := beq_iff_eq.mpr c31; have c31b1 := bne_eq_false_iff_eq.mpr c31; clear c31; obtain ⟨y433, hy433⟩ : ∃ y_ : List Int, y_ = (([x6_2] : List Int)) := ⟨_, rfl⟩; (replace H : (rf_Cycle.l2 kj22 x6_2 t429 y433 (wrap64 (x3_1 - 1)) a0_0 l0_1) = some r := by (rw [hy433]; with_reducible exact H)); have Ny433 := ak hy433; clear hy433; have H' := ak H; clear H; obtain ⟨hcz32_0, hcz32_1, hfz32_0, hfz32_1⟩ := cz2_ BK421; (go_wp2_with (first | ((with_reducible refine gate_callee (f := 32) rfl ?_); refine goesL_ (some 47) rfl rfl Try.func32 (by kernel_rfl) rfl #[.agg #[.int .i64 a0_0, .slice A0_1 l0_1.length c0_1], .int .i64 x6_2] rfl am_ ?_; (with_reducible refine (rf_steps.calls kj22 a0_0 _ _ l0_1 x6_2 t429 _ ?side1 ?side2 A28.1).mono ?_); (case side1 => exact (Kd.C_below HR0_1.1 HB.1)); (case side2 => exact HC0_1.1); rintro e w33 ⟨v430, rfl, ho0, hb⟩; refine ⟨_, rfl, ?_⟩; have HO431 := ak (Kd.R_lower ho0 (below_size (hb_ HB))); replace BK421 := bb_ BK421 hb; replace HB := hs_ HB hb; (try clear hb); (try clear ho0); obtain ⟨Ao34, co34, eo34⟩ := Kd.R_slice HO431.1; subst eo34; have p432 : 0 ≤ (x6_2 : Int) := od_; have q432 : x6_2 < (t429.length : Int) := od_; obtain ⟨ad432, e432, hx432_0⟩ := Kd.at_int (Kd.R_reads' HO431.1).2.2 x6_2 p432 q432; cases e432; replace p432 := eq_true p432; replace q432 := eq_true q432) | ((with_reducible refine gate_dst (N := 55) rfl ?_); refine Kd.R_lit (Kd.int .i64) _ 3 ?hg (N := 55) ?hd (xs := ([x6_2] : List Int)) (inner := [.int .i64 x6_2]) (ok := fun _ => True) (okp := fun _ => True) ?hr ?hp (fun _ hk => hk) trivial (Below.refl _ _) (Nat.le_refl _) (by simp) ?_; (case hd => rfl); (case hg => rfl); (case hr => (go_simp; done)); (case hp => exact (Reps.one (show Kd.M (Kd.int .i64) _ _ _ x6_2 [.int .i64 x6_2] from rfl) (Reps.none _ _))); intro v434 w35 ho36 hb hg_ hnew_; clear hg_ hnew_; (rw [← Ny433.1] at ho36); have HO435 := ak (Kd.R_lower (Kd.R_new' ho36 (Kd.R_lt (rk_ HO431))) (below_size (hb_ HB))); replace HO431 := ak (Kd.R_elder' (rk_ HO431) (Kd.R_base ho36) hb); replace BK421 := bb_ BK421 hb; replace HB := hs_ HB hb; clear hb ho36))); (go_loopg [8, 9] kj22 (fun kq v8 v9 w' => ∃ (x8_4 : List Int) (x9_4 : Int), v9 = .int .i64 x9_4 ∧ Aside0 (rf_Cycle.l2 kq x6_2 t429 x8_4 x9_4 a0_0 l0_1 = some r) ∧ Aside0 (kq ≤ kj22) ∧ Aside0 (Kd.R (Kd.int .i64) 3 w' w.heap.size (fun k_ => some k_ ≠ (v8 : Value).ownBlock) (.slice (some ad432) t429.length co34) t429) ∧ Aside0 (Kd.R (Kd.int .i64) 3 w' w.heap.size (fun k_ => some k_ ≠ ((.slice (some ad432) t429.length co34) : Value).ownBlock) v8 x8_4) ∧ Aside0 (w'.heap[gb421]? = some (.cells #[.int .i64 a0_0, (.slice A0_1 l0_1.length c0_1)] 24 (0, 0))) ∧ Aside0 (Below w.heap.size w w')))
        case atStart => exact ⟨(y433), (wrap64 (x3_1 - 1)), (by rfl), H', ⟨Nat.le_refl _⟩, ⟨by exact Kd.R_mono HO431.1 (fun _ hk => hk.2)⟩, ⟨by exact Kd.R_mono HO435.1 (fun _ hk => hk.2)⟩, ⟨bk_ BK421⟩, ⟨hb_ HB⟩⟩
        clear H'; (try clear c29b0); (try clear c30b0); (try clear c31b0); (try clear c31b1); (try clear hcz32_0); (try clear hcz32_1); (try clear hfz32_0); (try clear hfz32_1); (try clear hx432_0); (try clear p432); (try clear q432); obtain ⟨x8_4, x9_4, rfl, HA, HK4, HO_7, HO_8, BK421, HB⟩ := hrel
        cases gk with
        | zero => exact absurd HA.1 (by simp [rf_Cycle.l2])
        | succ k4 =>
         have H := HA.1; clear HA; simp only [rf_Cycle.l2] at H; (by_cases c37 : x9_4 > 0)
         ·rw [if_pos c37] at H
          have c37b0 := decide_eq_true c37; clear c37; have H' := ak H; clear H; (go_wp2); (go_loopg [8, 10] k4 (fun kq v8 v10 w' => ∃ (x8_5 : List Int) (x10_5 : Int), v10 = .int .i64 x10_5 ∧ Aside0 (rf_Cycle.l3 kq x6_2 t429 x8_5 x9_4 x10_5 a0_0 l0_1 = some r) ∧ Aside0 (kq ≤ k4) ∧ Aside0 (Kd.R (Kd.int .i64) 3 w' w.heap.size (fun k_ => some k_ ≠ (v8 : Value).ownBlock) (.slice (some ad432) t429.length co34) t429) ∧ Aside0 (Kd.R (Kd.int .i64) 3 w' w.heap.size (fun k_ => some k_ ≠ ((.slice (some ad432) t429.length co34) : Value).ownBlock) v8 x8_5) ∧ Aside0 (w'.heap[gb421]? = some (.cells #[.int .i64 a0_0, (.slice A0_1 l0_1.length c0_1)] 24 (0, 0))) ∧ Aside0 (Below w.heap.size w w')))
          case atStart => exact ⟨(x8_4), (0), (by rfl), H', ⟨Nat.le_refl _⟩, ⟨by exact HO_7.1⟩, ⟨by exact HO_8.1⟩, ⟨bk_ BK421⟩, ⟨hb_ HB⟩⟩
          clear H'; (try clear c37b0); obtain ⟨x8_5, x10_5, rfl, HA, HK5, HO_7, HO_8, BK421, HB⟩ := hrel
          cases gk with
          | zero => exact absurd HA.1 (by simp [rf_Cycle.l3])
          | succ k5 =>
           have H := HA.1; clear HA; simp only [rf_Cycle.l3] at H; (by_cases c38 : x10_5 < a0_0)
           ·rw [if_pos c38] at H
            have c38b0 := decide_eq_true c38; clear c38; (by_cases c39 : x10_5 = x6_2)
            ·rw [if_pos c39] at H
             have c39b0 := beq_iff_eq.mpr c39; have c39b1 := bne_eq_false_iff_eq.mpr c39; clear c39; have H' := ak H; clear H; obtain ⟨hcz40_0, hcz40_1, hfz40_0, hfz40_1⟩ := cz2_ BK421; (try go_wp2); replace HO_7 := ak (Kd.R_drew HO_7.1); replace HO_8 := ak (Kd.R_drew HO_8.1); replace BK421 := ak (blk_drew BK421.1); replace HB := ak (below_drew1 HB.1); (refine start_ (n := 22) (S := fun w' => True) (ds := []) (bm 22 0) (by kernel_rfl) rfl rfl trivial (fun hHeld => ?_); refine with_tabW rf_Cycle.tab20 rf_Cycle.bits20 (fun HT_ HW_ => ?_)); generalize wr.drew = w41 at HO_7 HO_8 BK421 HB hHeld ⊢; refine pv_ 0 HT_ ?_; refine pv_ 1 HT_ ?_; refine pv_ 2 HT_ ?_; refine pv_ 3 HT_ ?_; refine pu_ 4 72 (bm 22 31) HT_ ?_; refine pu_ 5 73 (bm 22 63) HT_ ?_; refine pu_ 6 74 (bm 22 127) HT_ ?_; refine pu_ 7 75 (bm 22 255) HT_ ?_; refine pu_ 8 76 (bm 22 511) HT_ ?_; refine pu_ 9 77 (bm 22 1023) HT_ ?_; refine pv_ 10 HT_ ?_; refine pv_ 11 HT_ ?_; refine pu_ 12 80 (bm 22 8191) HT_ ?_; refine pu_ 13 81 (bm 22 16383) HT_ ?_; refine pu_ 14 82 (bm 22 32767) HT_ ?_; refine pu_ 15 83 (bm 22 65535) HT_ ?_; refine pu_ 16 84 (bm 22 131071) HT_ ?_; refine pu_ 17 85 (bm 22 262143) HT_ ?_; refine pu_ 18 86 (bm 22 524287) HT_ ?_; refine pu_ 19 87 (bm 22 1048575) HT_ ?_; refine pu_ 20 88 (bm 22 2097151) HT_ ?_; refine pv_ 21 HT_ ?_; (refine done_ (done_of HT_.1 (by kernel_rfl)) ?_); (try go_wp2); (go_roundg k5)
             case measure => have := HK1.1; have := HK2.1; have := HJ22.1; have := HK4.1; have := HK5.1; omega
             case rel => exact ⟨(x8_5), (wrap64 (x10_5 + 1)), (by rfl), H', ⟨by have := HK1.1; have := HK2.1; have := HJ22.1; have := HK4.1; have := HK5.1; omega⟩, ⟨by exact HO_7.1⟩, ⟨by exact HO_8.1⟩, ⟨bk_ BK421⟩, ⟨hb_ HB⟩⟩
            rw [if_neg c39] at H
            have c39b0 := beq_eq_false_iff_ne.mpr c39; have c39b1 := bne_iff_ne.mpr c39; (by_cases c42 : 0 ≤ x10_5)
            ·rw [if_pos c42] at H
             have c42b0 := decide_eq_true c42; clear c42; (by_cases c43 : x10_5 < (t429.length : Int))
             ·rw [if_pos c43] at H
              have c43b0 := decide_eq_true c43; clear c43; (by_cases c44 : (rd t429 x10_5) = x9_4)
              ·rw [if_pos c44] at H
               have c44b0 := beq_iff_eq.mpr c44; have c44b1 := bne_eq_false_iff_eq.mpr c44; clear c44; obtain ⟨ji45, hji45⟩ : ∃ j_ : Int, (wrap64 ((x8_5.length : Int) - 1)) = j_ := ⟨_, rfl⟩; (replace H : (if 0 ≤ (ji45) then (if (ji45) < (x8_5.length : Int) then ((rf_Edge.f k5 a0_0 l0_1 (rd x8_5 (ji45)) x10_5).bind fun t438 => (if t438 = true then (if x8_5.length < 17592186044416 then (rf_Cycle.l2 k5 x6_2 t429 (x8_5 ++ [x10_5]) (wrap64 (x9_4 - 1)) a0_0 l0_1) else (none)) else (rf_Cycle.l3 k5 x6_2 t429 x8_5 x9_4 (wrap64 (x10_5 + 1)) a0_0 l0_1))) else (none)) else (none)) = some r := by (rw [hji45] at H; exact H)); have hji45w : (IntKind.i64.wrap ((x8_5.length : Int) - 1)) = ji45 := (i64_w _).trans hji45; (by_cases c46 : 0 ≤ (ji45))
               ·rw [if_pos c46] at H
                have c46b0 := decide_eq_true c46; clear c46; (by_cases c47 : (ji45) < (x8_5.length : Int))
                ·rw [if_pos c47] at H
                 have c47b0 := decide_eq_true c47; clear c47; replace H := Option.bind_eq_some_iff.mp H; obtain ⟨t438, A480, H⟩ := H; (replace H : (if t438 = true then (if x8_5.length < 17592186044416 then (rf_Cycle.l2 k5 x6_2 t429 (x8_5 ++ [x10_5]) (wrap64 (x9_4 - 1)) a0_0 l0_1) else (none)) else (rf_Cycle.l3 k5 x6_2 t429 x8_5 x9_4 (wrap64 (x10_5 + 1)) a0_0 l0_1)) = some r := H); have A48 := ak A480; clear A480; (by_cases c49 : t438 = true)
                 ·subst c49
                  (have H1 : (if x8_5.length < 17592186044416 then (rf_Cycle.l2 k5 x6_2 t429 (x8_5 ++ [x10_5]) (wrap64 (x9_4 - 1)) a0_0 l0_1) else (none)) = some r := by rw [if_pos rfl] at H; exact H); clear H; have H := H1; clear H1; (by_cases c50 : x8_5.length < 17592186044416)
                  ·rw [if_pos c50] at H
                   have LMc50 := ak c50; clear c50; obtain ⟨y439, hy439⟩ : ∃ y_ : List Int, y_ = (x8_5 ++ [x10_5]) := ⟨_, rfl⟩; (replace H : (rf_Cycle.l2 k5 x6_2 t429 y439 (wrap64 (x9_4 - 1)) a0_0 l0_1) = some r := by (rw [hy439]; with_reducible exact H)); have Ny439 := ak hy439; clear hy439; have H' := ak H; clear H; obtain ⟨hcz51_0, hcz51_1, hfz51_0, hfz51_1⟩ := cz2_ BK421; (try go_wp2); replace HO_7 := ak (Kd.R_drew HO_7.1); replace HO_8 := ak (Kd.R_drew HO_8.1); replace BK421 := ak (blk_drew BK421.1); replace HB := ak (below_drew1 HB.1); have p436 : 0 ≤ (x10_5 : Int) := od_; have q436 : x10_5 < (t429.length : Int) := od_; obtain ⟨ad436, e436, hx436_0⟩ := Kd.at_int (Kd.R_reads' HO_7.1).2.2 x10_5 p436 q436; (obtain rfl : ad432 = ad436 := (by injection e436)); replace p436 := eq_true p436; replace q436 := eq_true q436; obtain ⟨Ao53, co53, eo53⟩ := Kd.R_slice HO_8.1; ((subst eo53)); have p437 : 0 ≤ ((ji45) : Int) := od_; have q437 : (ji45) < (x8_5.length : Int) := od_; obtain ⟨ad437, e437, hx437_0⟩ := Kd.at_int (Kd.R_reads' HO_8.1).2.2 (ji45) p437 q437; (cases e437); replace p437 := eq_true p437; replace q437 := eq_true q437; (refine start_ (n := 22) (S := fun w' => w'.cell? ⟨gb421, 0, none⟩ = some (.int .i64 a0_0) ∧ w'.cell? ⟨gb421, 1, none⟩ = some (.slice A0_1 l0_1.length c0_1) ∧ w'.cell? (ad432.add (x10_5).toNat) = some (.int .i64 (rd t429 x10_5)) ∧ w'.cell? (ad437.add ((ji45)).toNat) = some (.int .i64 (rd x8_5 (ji45)))) (ds := []) (bm 22 0) (by kernel_rfl) rfl rfl ⟨(blk_cell BK421.1 0).trans rfl, (blk_cell BK421.1 1).trans rfl, hx436_0, hx437_0⟩ (fun hHeld => ?_); refine with_tabW rf_Cycle.tab20 rf_Cycle.bits20 (fun HT_ HW_ => ?_)); generalize wr.drew = w52 at HO_7 HO_8 BK421 HB hx436_0 hx437_0 hHeld ⊢; refine pv_ 0 HT_ ?_; refine pv_ 1 HT_ ?_; refine pv_ 2 HT_ ?_; refine pv_ 3 HT_ ?_; refine pv_ 4 HT_ ?_; refine pv_ 5 HT_ ?_; refine pv_ 6 HT_ ?_; refine pv_ 8 HT_ ?_; refine tv_ 7 HT_ HW_ hHeld ?_; refine pv_ 9 HT_ ?_; refine pv_ 10 HT_ ?_; refine pv_ 11 HT_ ?_; refine pv_ 13 HT_ ?_; refine pv_ 14 HT_ ?_; refine pv_ 15 HT_ ?_; refine pv_ 16 HT_ ?_; refine pv_ 17 HT_ ?_; refine pv_ 19 HT_ ?_; refine tv_ 12 HT_ HW_ hHeld ?_; refine tv_ 18 HT_ HW_ hHeld ?_; (refine one_ (i := 20) (N := some 88) (bm 22 2097151) rfl rfl (one_of HT_.1 (by kernel_rfl)) (by decide) (fun K hK => ?_))
                   (refine goes_ Try.func27 (by kernel_rfl) rfl #[.agg #[.int .i64 a0_0, .slice A0_1 l0_1.length c0_1], .int .i64 (rd x8_5 (ji45)), .int .i64 x10_5] (by rfl) rfl rfl am_ ?_); (with_reducible refine (rf_Edge.calls k5 a0_0 _ _ l0_1 (rd x8_5 (ji45)) x10_5 true _ ?side1 ?side2 A48.1).mono ?_); ((case side1 => exact (Kd.C_below HR0_1.1 HB.1))); ((case side2 => exact HC0_1.1)); rintro e w54 ⟨rfl, hb⟩; have HS2_ := (hb.cell (World.block_lt_of_cell? _ _ (hHeld.2.2.1))).trans (hHeld.2.2.1); have HS3_ := (hb.cell (World.block_lt_of_cell? _ _ (hHeld.2.2.2))).trans (hHeld.2.2.2); refine ⟨_, rfl, ?_⟩; replace HO_7 := rb_ HO_7 hb; replace HO_8 := rb_ HO_8 hb; replace BK421 := bb_ BK421 hb; replace HB := hs_ HB hb; ((try clear hb)); (refine hK.out _ _ ⟨(blk_cell BK421.1 0).trans rfl, (blk_cell BK421.1 1).trans rfl, HS2_, HS3_⟩ (fun hHeld => ?_)); clear hK K; refine nv_ ?_; refine pv_ 21 HT_ ?_; (refine done_ (done_of HT_.1 (by kernel_rfl)) ?_); (try go_wp2_with (first | ((with_reducible refine gate_builtin (b := .append) (xs := #[.tmp 90, .tmp 92]) rfl ?_); at_builtin; refine Kd.R_append (Kd.int .i64) (w0 := w) w.heap.size rfl (.tmp 90) (.tmp 92) 27 3 (.int .i64 0) 8 rfl Try.underlying27 info3 rfl (by decide) (by omega) (.slice (some ad437) x8_5.length co53) x8_5 x10_5 [.int .i64 x10_5] (fun k_ => some k_ ≠ (.slice (some ad432) t429.length co34 : Value).ownBlock) (fun _ => False) rfl rfl ?aP (fun _ hk => hk.elim) ?aF ?aO ?aB ?aS ?aL ?_; (case aP => exact rfl); (case aB => exact (hb_ HB)); (case aF => exact (fun k_ hk => Kd.fresh' (Kd.R_lt (rk_ HO_7)) k_ hk)); (case aO => exact (rk_ HO_8)); (case aS => exact (below_size (hb_ HB))); (case aL => have := LMc50.1; omega); intro v440 w55 ho hb hg hat; rw [← Ny439.1] at ho; have n0_ := ak (Kd.R_after (ok := (fun _ => True)) (by exact Kd.R_mono HO_7.1 (fun _ hk => ⟨trivial, hk⟩)) hg hat); have n1_ := ak (blk_grown (bk_ BK421) hg (Kd.R_ne HO_8.1 BK421.1 (by decide))); have n2_ := ak (hb); have n3_ := ak (ho); clear HO_7; clear BK421; clear HB; clear HO_8; have HO_7 := n0_; have BK421 := n1_; have HB := n2_; have HO441 := n3_; clear n0_ n1_ n2_ n3_; clear ho hb hg hat))); (go_roundg k5)
                   case measure => have := HK1.1; have := HK2.1; have := HJ22.1; have := HK4.1; have := HK5.1; omega
                   case rel => exact ⟨(y439), (wrap64 (x9_4 - 1)), (by rfl), H', ⟨by have := HK1.1; have := HK2.1; have := HJ22.1; have := HK4.1; have := HK5.1; omega⟩, ⟨by exact Kd.R_mono HO_7.1 (fun _ hk => hk.2)⟩, ⟨by exact HO441.1⟩, ⟨bk_ BK421⟩, ⟨hb_ HB⟩⟩
                  rw [if_neg c50] at H; (exact absurd H (by simp))
                 replace c49 := Bool.eq_false_iff.mpr c49
                 subst c49; (have H1 : (rf_Cycle.l3 k5 x6_2 t429 x8_5 x9_4 (wrap64 (x10_5 + 1)) a0_0 l0_1) = some r := by rw [if_neg (show ¬ (false = true) by decide)] at H; exact H); clear H; have H := H1; clear H1; have H' := ak H; clear H; obtain ⟨hcz56_0, hcz56_1, hfz56_0, hfz56_1⟩ := cz2_ BK421; (try go_wp2); replace HO_7 := ak (Kd.R_drew HO_7.1); replace HO_8 := ak (Kd.R_drew HO_8.1); replace BK421 := ak (blk_drew BK421.1); replace HB := ak (below_drew1 HB.1); have p436 : 0 ≤ (x10_5 : Int) := od_; have q436 : x10_5 < (t429.length : Int) := od_; obtain ⟨ad436, e436, hx436_0⟩ := Kd.at_int (Kd.R_reads' HO_7.1).2.2 x10_5 p436 q436; (obtain rfl : ad432 = ad436 := (by injection e436)); replace p436 := eq_true p436; replace q436 := eq_true q436; obtain ⟨Ao58, co58, eo58⟩ := Kd.R_slice HO_8.1; ((subst eo58)); have p437 : 0 ≤ ((ji45) : Int) := od_; have q437 : (ji45) < (x8_5.length : Int) := od_; obtain ⟨ad437, e437, hx437_0⟩ := Kd.at_int (Kd.R_reads' HO_8.1).2.2 (ji45) p437 q437; (cases e437); replace p437 := eq_true p437; replace q437 := eq_true q437; (refine start_ (n := 22) (S := fun w' => w'.cell? ⟨gb421, 0, none⟩ = some (.int .i64 a0_0) ∧ w'.cell? ⟨gb421, 1, none⟩ = some (.slice A0_1 l0_1.length c0_1) ∧ w'.cell? (ad432.add (x10_5).toNat) = some (.int .i64 (rd t429 x10_5)) ∧ w'.cell? (ad437.add ((ji45)).toNat) = some (.int .i64 (rd x8_5 (ji45)))) (ds := []) (bm 22 0) (by kernel_rfl) rfl rfl ⟨(blk_cell BK421.1 0).trans rfl, (blk_cell BK421.1 1).trans rfl, hx436_0, hx437_0⟩ (fun hHeld => ?_); refine with_tabW rf_Cycle.tab20 rf_Cycle.bits20 (fun HT_ HW_ => ?_)); generalize wr.drew = w57 at HO_7 HO_8 BK421 HB hx436_0 hx437_0 hHeld ⊢; refine pv_ 0 HT_ ?_; refine pv_ 1 HT_ ?_; refine pv_ 2 HT_ ?_; refine pv_ 3 HT_ ?_; refine pv_ 4 HT_ ?_; refine pv_ 5 HT_ ?_; refine pv_ 6 HT_ ?_; refine pv_ 8 HT_ ?_; refine tv_ 7 HT_ HW_ hHeld ?_; refine pv_ 9 HT_ ?_; refine pv_ 10 HT_ ?_; refine pv_ 11 HT_ ?_; refine pv_ 13 HT_ ?_; refine pv_ 14 HT_ ?_; refine pv_ 15 HT_ ?_; refine pv_ 16 HT_ ?_; refine pv_ 17 HT_ ?_; refine pv_ 19 HT_ ?_; refine tv_ 12 HT_ HW_ hHeld ?_; refine tv_ 18 HT_ HW_ hHeld ?_; (refine one_ (i := 20) (N := some 88) (bm 22 2097151) rfl rfl (one_of HT_.1 (by kernel_rfl)) (by decide) (fun K hK => ?_)); (refine goes_ Try.func27 (by kernel_rfl) rfl #[.agg #[.int .i64 a0_0, .slice A0_1 l0_1.length c0_1], .int .i64 (rd x8_5 (ji45)), .int .i64 x10_5] (by rfl) rfl rfl am_ ?_)
                 (with_reducible refine (rf_Edge.calls k5 a0_0 _ _ l0_1 (rd x8_5 (ji45)) x10_5 false _ ?side1 ?side2 A48.1).mono ?_); ((case side1 => exact (Kd.C_below HR0_1.1 HB.1))); ((case side2 => exact HC0_1.1)); rintro e w59 ⟨rfl, hb⟩; have HS2_ := (hb.cell (World.block_lt_of_cell? _ _ (hHeld.2.2.1))).trans (hHeld.2.2.1); have HS3_ := (hb.cell (World.block_lt_of_cell? _ _ (hHeld.2.2.2))).trans (hHeld.2.2.2); refine ⟨_, rfl, ?_⟩; replace HO_7 := rb_ HO_7 hb; replace HO_8 := rb_ HO_8 hb; replace BK421 := bb_ BK421 hb; replace HB := hs_ HB hb; ((try clear hb)); (refine hK.out _ _ ⟨(blk_cell BK421.1 0).trans rfl, (blk_cell BK421.1 1).trans rfl, HS2_, HS3_⟩ (fun hHeld => ?_)); clear hK K; refine nv_ ?_; refine pv_ 21 HT_ ?_; (refine done_ (done_of HT_.1 (by kernel_rfl)) ?_); (try go_wp2); (go_roundg k5)
                 case measure => have := HK1.1; have := HK2.1; have := HJ22.1; have := HK4.1; have := HK5.1; omega
                 case rel => exact ⟨(x8_5), (wrap64 (x10_5 + 1)), (by rfl), H', ⟨by have := HK1.1; have := HK2.1; have := HJ22.1; have := HK4.1; have := HK5.1; omega⟩, ⟨by exact HO_7.1⟩, ⟨by exact HO_8.1⟩, ⟨bk_ BK421⟩, ⟨hb_ HB⟩⟩
                rw [if_neg c47] at H; (exact absurd H (by simp))
               rw [if_neg c46] at H; (exact absurd H (by simp))
              rw [if_neg c44] at H
              have c44b0 := beq_eq_false_iff_ne.mpr c44; have c44b1 := bne_iff_ne.mpr c44; have H' := ak H; clear H; obtain ⟨hcz60_0, hcz60_1, hfz60_0, hfz60_1⟩ := cz2_ BK421; (try go_wp2); replace HO_7 := ak (Kd.R_drew HO_7.1); replace HO_8 := ak (Kd.R_drew HO_8.1); replace BK421 := ak (blk_drew BK421.1); replace HB := ak (below_drew1 HB.1); have p436 : 0 ≤ (x10_5 : Int) := od_; have q436 : x10_5 < (t429.length : Int) := od_; obtain ⟨ad436, e436, hx436_0⟩ := Kd.at_int (Kd.R_reads' HO_7.1).2.2 x10_5 p436 q436; (obtain rfl : ad432 = ad436 := (by injection e436)); replace p436 := eq_true p436; replace q436 := eq_true q436; (refine start_ (n := 22) (S := fun w' => w'.cell? (ad432.add (x10_5).toNat) = some (.int .i64 (rd t429 x10_5))) (ds := []) (bm 22 0) (by kernel_rfl) rfl rfl (hx436_0) (fun hHeld => ?_); refine with_tabW rf_Cycle.tab20 rf_Cycle.bits20 (fun HT_ HW_ => ?_)); generalize wr.drew = w61 at HO_7 HO_8 BK421 HB hx436_0 hHeld ⊢; refine pv_ 0 HT_ ?_; refine pv_ 1 HT_ ?_; refine pv_ 2 HT_ ?_; refine pv_ 3 HT_ ?_; refine pv_ 4 HT_ ?_; refine pv_ 5 HT_ ?_; refine pv_ 6 HT_ ?_; refine pv_ 8 HT_ ?_; refine tv_ 7 HT_ HW_ hHeld ?_; refine pv_ 9 HT_ ?_; refine pv_ 10 HT_ ?_; refine pv_ 11 HT_ ?_; refine pu_ 12 80 (bm 22 8191) HT_ ?_; refine pu_ 13 81 (bm 22 16383) HT_ ?_; refine pu_ 14 82 (bm 22 32767) HT_ ?_; refine pu_ 15 83 (bm 22 65535) HT_ ?_; refine pu_ 16 84 (bm 22 131071) HT_ ?_; refine pu_ 17 85 (bm 22 262143) HT_ ?_; refine pu_ 18 86 (bm 22 524287) HT_ ?_; refine pu_ 19 87 (bm 22 1048575) HT_ ?_; refine pu_ 20 88 (bm 22 2097151) HT_ ?_; refine pv_ 21 HT_ ?_; (refine done_ (done_of HT_.1 (by kernel_rfl)) ?_); (try go_wp2); (go_roundg k5)
              case measure => have := HK1.1; have := HK2.1; have := HJ22.1; have := HK4.1; have := HK5.1; omega
              case rel => exact ⟨(x8_5), (wrap64 (x10_5 + 1)), (by rfl), H', ⟨by have := HK1.1; have := HK2.1; have := HJ22.1; have := HK4.1; have := HK5.1; omega⟩, ⟨by exact HO_7.1⟩, ⟨by exact HO_8.1⟩, ⟨bk_ BK421⟩, ⟨hb_ HB⟩⟩
             rw [if_neg c43] at H; (exact absurd H (by simp))
            rw [if_neg c42] at H; (exact absurd H (by simp))
           rw [if_neg c38] at H
           have c38b0 := decide_eq_false c38; clear c38; have H' := ak H; clear H; obtain ⟨hcz62_0, hcz62_1, hfz62_0, hfz62_1⟩ := cz2_ BK421; (go_wp2); (go_roundg k5)
           case measure => have := HK1.1; have := HK2.1; have := HJ22.1; have := HK4.1; have := HK5.1; omega
           case rel => exact ⟨(x8_5), (wrap64 (x9_4 - 1)), (by rfl), H', ⟨by have := HK1.1; have := HK2.1; have := HJ22.1; have := HK4.1; have := HK5.1; omega⟩, ⟨by exact HO_7.1⟩, ⟨by exact HO_8.1⟩, ⟨bk_ BK421⟩, ⟨hb_ HB⟩⟩
         rw [if_neg c37] at H; have c37b0 := decide_eq_false c37; clear c37; obtain rfl := Option.some.inj H; (go_wp2); (go_ret); (exact ⟨_, by rfl, by exact Kd.R_mono HO_8.1 (fun _ hk => trivial), hb_ HB⟩)
       rw [if_neg c31] at H
       have c31b0 := beq_eq_false_iff_ne.mpr c31; have c31b1 := bne_iff_ne.mpr c31; have H' := ak H; clear H; obtain ⟨hcz63_0, hcz63_1, hfz63_0, hfz63_1⟩ := cz2_ BK421; (go_wp2_with (first | ((with_reducible refine gate_callee (f := 32) rfl ?_); refine goesL_ (some 47) rfl rfl Try.func32 (by kernel_rfl) rfl #[.agg #[.int .i64 a0_0, .slice A0_1 l0_1.length c0_1], .int .i64 x6_2] rfl am_ ?_; (with_reducible refine (rf_steps.calls kj22 a0_0 _ _ l0_1 x6_2 t429 _ ?side1 ?side2 A28.1).mono ?_); (case side1 => exact (Kd.C_below HR0_1.1 HB.1)); (case side2 => exact HC0_1.1); rintro e w64 ⟨v430, rfl, ho0, hb⟩; refine ⟨_, rfl, ?_⟩; have HO431 := ak (Kd.R_lower ho0 (below_size (hb_ HB))); replace BK421 := bb_ BK421 hb; replace HB := hs_ HB hb; (try clear hb); (try clear ho0); obtain ⟨Ao65, co65, eo65⟩ := Kd.R_slice HO431.1; subst eo65; have p432 : 0 ≤ (x6_2 : Int) := od_; have q432 : x6_2 < (t429.length : Int) := od_; obtain ⟨ad432, e432, hx432_0⟩ := Kd.at_int (Kd.R_reads' HO431.1).2.2 x6_2 p432 q432; cases e432; replace p432 := eq_true p432; replace q432 := eq_true q432))); (go_roundg kj22)
       case measure => have := HK1.1; have := HK2.1; have := HJ22.1; omega
       case rel => exact ⟨(wrap64 (x6_2 + 1)), (by rfl), H', ⟨by have := HK1.1; have := HK2.1; have := HJ22.1; omega⟩, ⟨bk_ BK421⟩, ⟨hb_ HB⟩⟩
      rw [if_neg c30] at H; (exact absurd H (by simp))
     rw [if_neg c29] at H; (exact absurd H (by simp))
    replace c27 := Bool.eq_false_iff.mpr c27
    subst c27; (have H1 : (some (([] : List Int))) = some r := by rw [if_neg (show ¬ (false = true) by decide)] at H; exact H); clear H; have H := H1; clear H1; obtain ⟨y426, hy426⟩ : ∃ y_ : List Int, y_ = (([] : List Int)) := ⟨_, rfl⟩; (replace H : (some y426) = some r := by (rw [hy426]; with_reducible exact H)); have Ny426 := ak hy426; clear hy426; obtain rfl := Option.some.inj H; (go_wp2_with (first | ((with_reducible refine gate_dst (N := 95) rfl ?_); refine Kd.R_lit (Kd.int .i64) _ 3 ?hg (N := 95) ?hd (xs := ([] : List Int)) (inner := []) (ok := fun _ => True) (okp := fun _ => True) ?hr ?hp (fun _ hk => hk) trivial (Below.refl _ _) (Nat.le_refl _) (by simp) ?_; (case hd => rfl); (case hg => rfl); (case hr => (go_simp; done)); (case hp => exact (Reps.none _ _)); intro v427 w66 ho67 hb hg_ hnew_; clear hg_ hnew_; (rw [← Ny426.1] at ho67); have HO428 := ak (Kd.R_lower ho67 (below_size (hb_ HB))); replace BK421 := bb_ BK421 hb; replace HB := hs_ HB hb; clear hb ho67))); (go_ret); (exact ⟨_, by rfl, by exact HO428.1, hb_ HB⟩)

end Go.Proofs.Ytecbmcheojolnaa.XA
