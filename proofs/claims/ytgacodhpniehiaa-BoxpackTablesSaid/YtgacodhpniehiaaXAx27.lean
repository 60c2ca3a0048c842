import Derived.Test.YtgacodhpniehiaaXAx24
import Derived.Test.YtgacodhpniehiaaXAx25
namespace Go.Proofs.Ytgacodhpniehiaa.XA
open Flat Go.RowKit Opens YtgacodhpniehiaaW.PrintWords YtgacodhpniehiaaW.PrintLast YtgacodhpniehiaaW.PrintMore
attribute [local go_sem] max2_int min2_int max_two min_two max_three min_three max_four min_four cell_some cell_same
set_option linter.unusedVariables false
set_option linter.unusedSimpArgs false

mutual
def rf_CheckTable.l0 : Nat → List Int → Int → Int → Int → Int → Int → List (S56) → Option (Int × Int)
 | 0, _, _, _, _, _, _, _ => none
 | k + 1, x1, x6, x359000, x359001, x359002, x359003, x359004 => if x6 < (x1.length : Int) then (if 0 ≤ x6 then (if (rd x1 x6) < 0 then (some (0, 1)) else (if (rd x1 x6) > 100000000000000 then (some (0, 1)) else (rf_CheckTable.l0 k x1 (wrap64 (x6 + 1)) x359000 x359001 x359002 x359003 x359004))) else (none)) else (rf_CheckTable.l1 k x1 0 x359000 x359001 x359002 x359003 x359004)
def rf_CheckTable.l1 : Nat → List Int → Int → Int → Int → Int → Int → List (S56) → Option (Int × Int)
 | 0, _, _, _, _, _, _, _ => none
 | k + 1, x1, x7, x359000, x359001, x359002, x359003, x359004 => if x7 < (x1.length : Int) then (if 0 ≤ x7 then ((rf_size.f x359000 x359001 x359002 x359003 x359004 x7).bind fun bt363 => ((rf_need.f k x359000 x359001 x359002 x359003 x359004 x1 bt363.1 bt363.2.1 bt363.2.2).bind fun t366 => (if (rd x1 x7) < t366 then (some (x7, 10)) else (rf_CheckTable.l1 k x1 (wrap64 (x7 + 1)) x359000 x359001 x359002 x359003 x359004)))) else (none)) else (some ((x1.length : Int), 0))
end
def rf_CheckTable.f (k : Nat) (a0_0 : Int) (a0_1 : Int) (a0_2 : Int) (a0_3 : Int) (l0_4 : List (S56)) (l1 : List Int) : Option (Int × Int) := (rf_count.f a0_0 a0_1 a0_2 a0_3 l0_4).bind fun t359 => (if (l1.length : Int) = t359 then (rf_CheckTable.l0 k l1 0 a0_0 a0_1 a0_2 a0_3 l0_4) else (some (0, 1)))
theorem rf_CheckTable.mono_l : ∀ k, (∀ y0 y1 y2 y3 y4 y5 y6, LeO (rf_CheckTable.l0 k y0 y1 y2 y3 y4 y5 y6) (rf_CheckTable.l0 (k + 1) y0 y1 y2 y3 y4 y5 y6)) ∧ (∀ y0 y1 y2 y3 y4 y5 y6, LeO (rf_CheckTable.l1 k y0 y1 y2 y3 y4 y5 y6) (rf_CheckTable.l1 (k + 1) y0 y1 y2 y3 y4 y5 y6))
 | 0 => ⟨fun _ _ _ _ _ _ _ r h => by simp [rf_CheckTable.l0] at h, fun _ _ _ _ _ _ _ r h => by simp [rf_CheckTable.l1] at h⟩
 | k + 1 => by
  obtain ⟨ih0, ih1⟩ := rf_CheckTable.mono_l k; refine ⟨?_, ?_⟩; (all_goals (intros; (first | unfold rf_CheckTable.l0 | unfold rf_CheckTable.l1)))
  all_goals (repeat' first
   | (with_reducible exact ih0 _ _ _ _ _ _ _)
   | (with_reducible exact ih1 _ _ _ _ _ _ _)
   | (with_reducible exact rf_need.mono _ _ _ _ _ _ _ _ _ _)
   | (with_reducible exact LeO.refl _)
   | (with_reducible refine LeO.ite ?_ ?_)
   | (with_reducible refine LeO.bind ?_ (fun _ => ?_))
   )
theorem rf_CheckTable.mono : ∀ a0 a1 a2 a3 a4 a5 k, LeO (rf_CheckTable.f k a0 a1 a2 a3 a4 a5) (rf_CheckTable.f (k + 1) a0 a1 a2 a3 a4 a5) := by
 intro a0 a1 a2 a3 a4 a5 k
 obtain ⟨ih0, ih1⟩ := rf_CheckTable.mono_l k
 unfold rf_CheckTable.f
 repeat' first
   | (with_reducible exact ih0 _ _ _ _ _ _ _)
   | (with_reducible exact LeO.refl _)
   | (with_reducible refine LeO.ite ?_ ?_)
   | (with_reducible refine LeO.bind ?_ (fun _ => ?_))
   
def rf_CheckTable.T11 : Bool × List (List Nat × List Nat) := (true, [([], []), ([], []), ([0, 1], [0, 1]), ([2], [2]), ([], []), ([], []), ([], []), ([], []), ([6, 7], [6, 7]), ([4, 5, 8, 8], [4, 5, 8]), ([3, 9], [3, 9])])
def rf_CheckTable.B11 : List Nat := [0, 0, 3, 7, 0, 0, 0, 0, 192, 496, 1023]
theorem rf_CheckTable.tab11 : rtab .any (opsOf Try.f23 11) = rf_CheckTable.T11 := by kernel_rfl
theorem rf_CheckTable.bits11 : waitsOk rf_CheckTable.T11.2 rf_CheckTable.B11 = true := by kernel_rfl
set_option maxHeartbeats 8000000 in
set_option maxRecDepth 100000 in
theorem rf_CheckTable.calls (k : Nat) (a0_0 : Int) (a0_1 : Int) (a0_2 : Int) (a0_3 : Int) (A0_4 : Option Addr) (c0_4 : Nat) (l0_4 : List (S56)) (A1 : Option Addr) (c1 : Nat) (l1 : List Int) (r1 : Int) (r2 : Int) (w : World) (hr0_4 : Kd.C k56 w A0_4 l0_4.length l0_4) (hc0_4 : l0_4.length ≤ c0_4) (hr1 : Kd.C (Kd.int .i64) w A1 l1.length l1) (hc1 : l1.length ≤ c1) (h : rf_CheckTable.f k a0_0 a0_1 a0_2 a0_3 l0_4 l1 = some (r1, r2)) :
  Calls Try.prog 23 #[.agg #[.int .i64 a0_0, .int .i64 a0_1, .int .i64 a0_2, .int .i64 a0_3, .slice A0_4 l0_4.length c0_4], .slice A1 l1.length c1] w fun e w' => e = .returned (.tuple #[.int .i64 r1, .int .i64 r2]) ∧ Below w.heap.size w w' := by
 have hu26 := Try.underlying26
 have HR0_4 := ak hr0_4
 have HC0_4 := ak hc0_4
 clear hr0_4 hc0_4
 have HR1 := ak hr1
 have HC1 := ak hc1
 clear hr1 hc1
 have HB := ak (Below.refl w.heap.size w)
 have H : ((rf_count.f a0_0 a0_1 a0_2 a0_3 l0_4).bind fun t359 => (if (l1.length : Int) = t359 then (rf_CheckTable.l0 k l1 0 a0_0 a0_1 a0_2 a0_3 l0_4) else (some (0, 1)))) = some (r1, r2) := h
 clear h
 replace H := Option.bind_eq_some_iff.mp H
 obtain ⟨t359, A30, H⟩ := H
 replace H : (if (l1.length : Int) = t359 then (rf_CheckTable.l0 k l1 0 a0_0 a0_1 a0_2 a0_3 l0_4) else (some (0, 1))) = some (r1, r2) := H
 have A3 := ak A30
 clear A30
 by_cases c4 : (l1.length : Int) = t359
 ·rw [if_pos c4] at H
  have c4b0 := beq_iff_eq.mpr c4; have c4b1 := bne_eq_false_iff_eq.mpr c4; clear c4; have H' := ak H; clear H; (go_enter Try.func23, Try.ntmps23); (go_wp2_with (first | ((with_reducible refine gate_dst (N := 2) rfl ?_); refine box_event ?hg (N := 2) ?hd (cs := #[.int .i64 a0_0, .int .i64 a0_1, .int .i64 a0_2, .int .i64 a0_3, .slice A0_4 l0_4.length c0_4]) (t := 26) ?hr ?_; (case hd => rfl); (case hg => rfl); (case hr => (go_simp; done)); intro gb358 hg w5 hbox hb; have BK358 := ak (hbox); have GW358 := gw_ HB hg; have GE358 := gw_ HB hg; replace HB := hs_ HB hb; clear hb hbox hg; obtain ⟨hcz6_0, hcz6_1, hcz6_2, hcz6_3, hcz6_4, hfz6_0, hfz6_1, hfz6_2, hfz6_3, hfz6_4⟩ := cz5_ BK358) | ((with_reducible refine gate_callee (f := 50) rfl ?_); refine goesL_ (some 11) rfl rfl Try.func50 (by kernel_rfl) rfl #[.agg #[.int .i64 a0_0, .int .i64 a0_1, .int .i64 a0_2, .int .i64 a0_3, .slice A0_4 l0_4.length c0_4]] rfl am_ ?_; (with_reducible refine (rf_count.calls a0_0 a0_1 a0_2 a0_3 _ _ l0_4 t359 _ ?side1 ?side2 A3.1).mono ?_); (case side1 => exact (Kd.C_below HR0_4.1 HB.1)); (case side2 => exact HC0_4.1); rintro e w7 ⟨rfl, hb⟩; refine ⟨_, rfl, ?_⟩; replace BK358 := bb_ BK358 hb; replace HB := hs_ HB hb; (try clear hb)))); (go_loopg [6] k (fun kq v6 w' => ∃ (x6_1 : Int), v6 = .int .i64 x6_1 ∧ Aside0 (rf_CheckTable.l0 kq l1 x6_1 a0_0 a0_1 a0_2 a0_3 l0_4 = some (r1, r2)) ∧ Aside0 (kq ≤ k) ∧ Aside0 (w'.heap[gb358]? = some (.cells #[.int .i64 a0_0, .int .i64 a0_1, .int .i64 a0_2, .int .i64 a0_3, (.slice A0_4 l0_4.length c0_4)] 26 (0, 0))) ∧ Aside0 (Below w.heap.size w w')))
  case atStart => exact ⟨(0), (by rfl), H', ⟨Nat.le_refl _⟩, ⟨bk_ BK358⟩, ⟨hb_ HB⟩⟩
  clear H'; (try clear c4b0); (try clear c4b1); (try clear hcz6_0); (try clear hcz6_1); (try clear hcz6_2); (try clear hcz6_3); (try clear hcz6_4); (try clear hfz6_0); (try clear hfz6_1); (try clear hfz6_2); (try clear hfz6_3); (try clear hfz6_4); obtain ⟨x6_1, rfl, HA, HK1, BK358, HB⟩ := hrel
  cases gk with
  | zero => exact absurd HA.1 (by simp [rf_CheckTable.l0])
  | succ k1 =>
   have H := HA.1; clear HA; simp only [rf_CheckTable.l0] at H; (by_cases c8 : x6_1 < (l1.length : Int))
   ·rw [if_pos c8] at H
    have c8b0 := decide_eq_true c8; clear c8; (by_cases c9 : 0 ≤ x6_1)
    ·rw [if_pos c9] at H
     have c9b0 := decide_eq_true c9; clear c9; (by_cases c10 : (rd l1 x6_1) < 0)
     ·rw [if_pos c10] at H; have c10b0 := decide_eq_true c10; clear c10; simp only [Option.some.injEq, Prod.mk.injEq] at H; obtain ⟨rfl, rfl⟩ := H; have p360 : 0 ≤ (x6_1 : Int) := od_; have q360 : x6_1 < (l1.length : Int) := od_; obtain ⟨ad360, e360, hx360_0⟩ := Kd.at_int HR1.1 x6_1 p360 q360; (cases e360); replace hx360_0 := (hc_ HB hx360_0).trans hx360_0; replace p360 := eq_true p360; replace q360 := eq_true q360; (go_wp2); (go_ret2); (exact ⟨by rfl, hb_ HB⟩)
     rw [if_neg c10] at H
     have c10b0 := decide_eq_false c10; clear c10; (by_cases c11 : (rd l1 x6_1) > 100000000000000)
     ·rw [if_pos c11] at H; have c11b0 := decide_eq_true c11; clear c11; simp only [Option.some.injEq, Prod.mk.injEq] at H; obtain ⟨rfl, rfl⟩ := H; have p360 : 0 ≤ (x6_1 : Int) := od_; have q360 : x6_1 < (l1.length : Int) := od_; obtain ⟨ad360, e360, hx360_0⟩ := Kd.at_int HR1.1 x6_1 p360 q360; (cases e360); replace hx360_0 := (hc_ HB hx360_0).trans hx360_0; replace p360 := eq_true p360; replace q360 := eq_true q360; have p361 : 0 ≤ (x6_1 : Int) := od_; have q361 : x6_1 < (l1.length : Int) := od_; obtain ⟨ad361, e361, hx361_0⟩ := Kd.at_int HR1.1 x6_1 p361 q361; (obtain rfl : ad360 = ad361 := (by injection e361)); replace hx361_0 := (hc_ HB hx361_0).trans hx361_0; replace p361 := eq_true p361; replace q361 := eq_true q361; (go_wp2); (go_ret2); (exact ⟨by rfl, hb_ HB⟩)
     rw [if_neg c11] at H
     have c11b0 := decide_eq_false c11; clear c11; have H' := ak H; clear H; have p360 : 0 ≤ (x6_1 : Int) := od_; have q360 : x6_1 < (l1.length : Int) := od_; obtain ⟨ad360, e360, hx360_0⟩ := Kd.at_int HR1.1 x6_1 p360 q360; (cases e360); replace hx360_0 := (hc_ HB hx360_0).trans hx360_0; replace p360 := eq_true p360; replace q360 := eq_true q360; have p361 : 0 ≤ (x6_1 : Int) := od_; have q361 : x6_1 < (l1.length : Int) := od_; obtain ⟨ad361, e361, hx361_0⟩ := Kd.at_int HR1.1 x6_1 p361 q361; (obtain rfl : ad360 = ad361 := (by injection e361)); replace hx361_0 := (hc_ HB hx361_0).trans hx361_0; replace p361 := eq_true p361; replace q361 := eq_true q361; (go_wp2); (go_roundg k1)
     case measure => have := HK1.1; omega
     case rel => exact ⟨(wrap64 (x6_1 + 1)), (by rfl), H', ⟨by have := HK1.1; omega⟩, ⟨bk_ BK358⟩, ⟨hb_ HB⟩⟩
    rw [if_neg c9] at H; (exact absurd H (by simp))
   rw [if_neg c8] at H
   have c8b0 := decide_eq_false c8; clear c8; have H' := ak H; clear H; (go_wp2); (go_loopg [7] k1 (fun kq v7 w' => ∃ (x7_2 : Int), v7 = .int .i64 x7_2 ∧ Aside0 (rf_CheckTable.l1 kq l1 x7_2 a0_0 a0_1 a0_2 a0_3 l0_4 = some (r1, r2)) ∧ Aside0 (kq ≤ k1) ∧ Aside0 (w'.heap[gb358]? = some (.cells #[.int .i64 a0_0, .int .i64 a0_1, .int .i64 a0_2, .int .i64 a0_3, (.slice A0_4 l0_4.length c0_4)] 26 (0, 0))) ∧ Aside0 (Below w.heap.size w w')))
   case atStart => exact ⟨(0), (by rfl), H', ⟨Nat.le_refl _⟩, ⟨bk_ BK358⟩, ⟨hb_ HB⟩⟩
   clear H'; (try clear c8b0); obtain ⟨x7_2, rfl, HA, HK2, BK358, HB⟩ := hrel
   cases gk with
   | zero => exact absurd HA.1 (by simp [rf_CheckTable.l1])
   | succ k2 =>
    have H := HA.1; clear HA; simp only [rf_CheckTable.l1] at H; (by_cases c12 : x7_2 < (l1.length : Int))
    ·rw [if_pos c12] at H
     have c12b0 := decide_eq_true c12; clear c12; (by_cases c13 : 0 ≤ x7_2)
     ·rw [if_pos c13] at H
      have c13b0 := decide_eq_true c13; clear c13; obtain ⟨⟨t363, t364, t365⟩, A140, H⟩ := obs_ H; (replace H : ((rf_need.f k2 a0_0 a0_1 a0_2 a0_3 l0_4 l1 t363 t364 t365).bind fun t366 => (if (rd l1 x7_2) < t366 then (some (x7_2, 10)) else (rf_CheckTable.l1 k2 l1 (wrap64 (x7_2 + 1)) a0_0 a0_1 a0_2 a0_3 l0_4))) = some (r1, r2) := H); have A14 := ak A140; clear A140; obtain ⟨t366, A150, H⟩ := obs_ H; (replace H : (if (rd l1 x7_2) < t366 then (some (x7_2, 10)) else (rf_CheckTable.l1 k2 l1 (wrap64 (x7_2 + 1)) a0_0 a0_1 a0_2 a0_3 l0_4)) = some (r1, r2) := H); have A15 := ak A150; clear A150; (by_cases c16 : (rd l1 x7_2) < t366)
      ·rw [if_pos c16] at H
       have c16b0 := decide_eq_true c16; clear c16; simp only [Option.some.injEq, Prod.mk.injEq] at H; obtain ⟨rfl, rfl⟩ := H; (try go_wp2); replace BK358 := bq_ BK358; replace HB := ak (below_drew1 HB.1); have p362 : 0 ≤ (x7_2 : Int) := od_; have q362 : x7_2 < (l1.length : Int) := od_; obtain ⟨ad362, e362, hx362_0⟩ := Kd.at_int HR1.1 x7_2 p362 q362; have hw362_0 := hx362_0; (cases e362); replace hx362_0 := (hc_ HB hx362_0).trans hx362_0; replace p362 := eq_true p362; replace q362 := eq_true q362; (refine start_ (n := 11) (S := fun w' => w'.cell? ⟨gb358, 0, none⟩ = some (.int .i64 a0_0) ∧ w'.cell? ⟨gb358, 1, none⟩ = some (.int .i64 a0_1) ∧ w'.cell? ⟨gb358, 2, none⟩ = some (.int .i64 a0_2) ∧ w'.cell? ⟨gb358, 3, none⟩ = some (.int .i64 a0_3) ∧ w'.cell? ⟨gb358, 4, none⟩ = some (.slice A0_4 l0_4.length c0_4) ∧ w'.cell? (ad362.add (x7_2).toNat) = some (.int .i64 (rd l1 x7_2))) (ds := []) (bm 11 0) (by kernel_rfl) rfl rfl ⟨(blk_cell BK358.1 0).trans rfl, (blk_cell BK358.1 1).trans rfl, (blk_cell BK358.1 2).trans rfl, (blk_cell BK358.1 3).trans rfl, (blk_cell BK358.1 4).trans rfl, ((hc_ HB hw362_0).trans hw362_0)⟩ (fun hHeld => ?_); refine with_tabW rf_CheckTable.tab11 rf_CheckTable.bits11 (fun HT_ HW_ => ?_)); generalize wr.drew = w17 at BK358 HB hx362_0 hHeld ⊢; refine pv_ 0 HT_ ?_; refine pv_ 1 HT_ ?_; refine pv_ 2 HT_ ?_; refine pv_ 5 HT_ ?_; refine pv_ 7 HT_ ?_; refine tv_ 3 HT_ HW_ hHeld ?_; refine tv_ 4 HT_ HW_ hHeld ?_; refine tv_ 6 HT_ HW_ hHeld ?_; (refine one_ (i := 8) (N := some 45) (bm 11 511) rfl rfl (one_of HT_.1 (by kernel_rfl)) (by decide) (fun K hK => ?_)); (refine goes_ Try.func52 (by kernel_rfl) rfl #[.agg #[.int .i64 a0_0, .int .i64 a0_1, .int .i64 a0_2, .int .i64 a0_3, .slice A0_4 l0_4.length c0_4], .int .i64 x7_2] (by rfl) rfl rfl am_ ?_); (with_reducible refine (rf_size.calls a0_0 a0_1 a0_2 a0_3 _ _ l0_4 x7_2 t363 t364 t365 _ ?side1 ?side2 A14.1).mono ?_); ((case side1 => exact (Kd.C_below HR0_4.1 HB.1))); ((case side2 => exact HC0_4.1)); rintro e w18 ⟨rfl, hb⟩; refine ⟨_, rfl, ?_⟩; replace BK358 := bb_ BK358 hb; replace HB := hs_ HB hb; ((try clear hb)); (refine hK.out _ _ ⟨(blk_cell BK358.1 0).trans rfl, (blk_cell BK358.1 1).trans rfl, (blk_cell BK358.1 2).trans rfl, (blk_cell BK358.1 3).trans rfl, (blk_cell BK358.1 4).trans rfl, ((hc_ HB hw362_0).trans hw362_0)⟩ (fun hHeld => ?_))
       clear hK K; refine nv_ ?_; (refine one_ (i := 9) (N := some 46) (bm 11 1023) rfl rfl (one_of HT_.1 (by kernel_rfl)) (by decide) (fun K hK => ?_)); (refine goes_ Try.func51 (by kernel_rfl) rfl #[.agg #[.int .i64 a0_0, .int .i64 a0_1, .int .i64 a0_2, .int .i64 a0_3, .slice A0_4 l0_4.length c0_4], .slice (some ad362) l1.length c1, .agg #[.int .i64 t363, .int .i64 t364, .int .i64 t365]] (by rfl) rfl rfl am_ ?_); (with_reducible refine (rf_need.calls k2 a0_0 a0_1 a0_2 a0_3 _ _ l0_4 _ _ l1 t363 t364 t365 t366 _ ?side1 ?side2 ?side3 ?side4 A15.1).mono ?_); ((case side1 => exact (Kd.C_below HR0_4.1 HB.1))); ((case side2 => exact HC0_4.1)); ((case side3 => exact (Kd.C_below HR1.1 HB.1))); ((case side4 => exact HC1.1)); rintro e w19 ⟨rfl, hb⟩; refine ⟨_, rfl, ?_⟩; replace BK358 := bb_ BK358 hb; replace HB := hs_ HB hb; ((try clear hb)); (refine hK.out _ _ ⟨(blk_cell BK358.1 0).trans rfl, (blk_cell BK358.1 1).trans rfl, (blk_cell BK358.1 2).trans rfl, (blk_cell BK358.1 3).trans rfl, (blk_cell BK358.1 4).trans rfl, ((hc_ HB hw362_0).trans hw362_0)⟩ (fun hHeld => ?_)); clear hK K; refine nv_ ?_; refine pv_ 10 HT_ ?_; (refine done_ (done_of HT_.1 (by kernel_rfl)) ?_); (try go_wp2); (go_ret2); (exact ⟨by rfl, hb_ HB⟩)
      rw [if_neg c16] at H
      have c16b0 := decide_eq_false c16; clear c16; have H' := ak H; clear H; (try go_wp2); replace BK358 := bq_ BK358; replace HB := ak (below_drew1 HB.1); have p362 : 0 ≤ (x7_2 : Int) := od_; have q362 : x7_2 < (l1.length : Int) := od_; obtain ⟨ad362, e362, hx362_0⟩ := Kd.at_int HR1.1 x7_2 p362 q362; have hw362_0 := hx362_0; (cases e362); replace hx362_0 := (hc_ HB hx362_0).trans hx362_0; replace p362 := eq_true p362; replace q362 := eq_true q362; (refine start_ (n := 11) (S := fun w' => w'.cell? ⟨gb358, 0, none⟩ = some (.int .i64 a0_0) ∧ w'.cell? ⟨gb358, 1, none⟩ = some (.int .i64 a0_1) ∧ w'.cell? ⟨gb358, 2, none⟩ = some (.int .i64 a0_2) ∧ w'.cell? ⟨gb358, 3, none⟩ = some (.int .i64 a0_3) ∧ w'.cell? ⟨gb358, 4, none⟩ = some (.slice A0_4 l0_4.length c0_4) ∧ w'.cell? (ad362.add (x7_2).toNat) = some (.int .i64 (rd l1 x7_2))) (ds := []) (bm 11 0) (by kernel_rfl) rfl rfl ⟨(blk_cell BK358.1 0).trans rfl, (blk_cell BK358.1 1).trans rfl, (blk_cell BK358.1 2).trans rfl, (blk_cell BK358.1 3).trans rfl, (blk_cell BK358.1 4).trans rfl, ((hc_ HB hw362_0).trans hw362_0)⟩ (fun hHeld => ?_); refine with_tabW rf_CheckTable.tab11 rf_CheckTable.bits11 (fun HT_ HW_ => ?_)); generalize wr.drew = w20 at BK358 HB hx362_0 hHeld ⊢; refine pv_ 0 HT_ ?_; refine pv_ 1 HT_ ?_; refine pv_ 2 HT_ ?_; refine pv_ 5 HT_ ?_; refine pv_ 7 HT_ ?_; refine tv_ 3 HT_ HW_ hHeld ?_; refine tv_ 4 HT_ HW_ hHeld ?_; refine tv_ 6 HT_ HW_ hHeld ?_; (refine one_ (i := 8) (N := some 45) (bm 11 511) rfl rfl (one_of HT_.1 (by kernel_rfl)) (by decide) (fun K hK => ?_)); (refine goes_ Try.func52 (by kernel_rfl) rfl #[.agg #[.int .i64 a0_0, .int .i64 a0_1, .int .i64 a0_2, .int .i64 a0_3, .slice A0_4 l0_4.length c0_4], .int .i64 x7_2] (by rfl) rfl rfl am_ ?_); (with_reducible refine (rf_size.calls a0_0 a0_1 a0_2 a0_3 _ _ l0_4 x7_2 t363 t364 t365 _ ?side1 ?side2 A14.1).mono ?_); ((case side1 => exact (Kd.C_below HR0_4.1 HB.1))); ((case side2 => exact HC0_4.1)); rintro e w21 ⟨rfl, hb⟩; refine ⟨_, rfl, ?_⟩; replace BK358 := bb_ BK358 hb; replace HB := hs_ HB hb; ((try clear hb)); (refine hK.out _ _ ⟨(blk_cell BK358.1 0).trans rfl, (blk_cell BK358.1 1).trans rfl, (blk_cell BK358.1 2).trans rfl, (blk_cell BK358.1 3).trans rfl, (blk_cell BK358.1 4).trans rfl, ((hc_ HB hw362_0).trans hw362_0)⟩ (fun hHeld => ?_)); clear hK K; refine nv_ ?_
      (refine one_ (i := 9) (N := some 46) (bm 11 1023) rfl rfl (one_of HT_.1 (by kernel_rfl)) (by decide) (fun K hK => ?_)); (refine goes_ Try.func51 (by kernel_rfl) rfl #[.agg #[.int .i64 a0_0, .int .i64 a0_1, .int .i64 a0_2, .int .i64 a0_3, .slice A0_4 l0_4.length c0_4], .slice (some ad362) l1.length c1, .agg #[.int .i64 t363, .int .i64 t364, .int .i64 t365]] (by rfl) rfl rfl am_ ?_); (with_reducible refine (rf_need.calls k2 a0_0 a0_1 a0_2 a0_3 _ _ l0_4 _ _ l1 t363 t364 t365 t366 _ ?side1 ?side2 ?side3 ?side4 A15.1).mono ?_); ((case side1 => exact (Kd.C_below HR0_4.1 HB.1))); ((case side2 => exact HC0_4.1)); ((case side3 => exact (Kd.C_below HR1.1 HB.1))); ((case side4 => exact HC1.1)); rintro e w22 ⟨rfl, hb⟩; refine ⟨_, rfl, ?_⟩; replace BK358 := bb_ BK358 hb; replace HB := hs_ HB hb; ((try clear hb)); (refine hK.out _ _ ⟨(blk_cell BK358.1 0).trans rfl, (blk_cell BK358.1 1).trans rfl, (blk_cell BK358.1 2).trans rfl, (blk_cell BK358.1 3).trans rfl, (blk_cell BK358.1 4).trans rfl, ((hc_ HB hw362_0).trans hw362_0)⟩ (fun hHeld => ?_)); clear hK K; refine nv_ ?_; refine pv_ 10 HT_ ?_; (refine done_ (done_of HT_.1 (by kernel_rfl)) ?_); (try go_wp2); (go_roundg k2)
      case measure => have := HK1.1; have := HK2.1; omega
      case rel => exact ⟨(wrap64 (x7_2 + 1)), (by rfl), H', ⟨by have := HK1.1; have := HK2.1; omega⟩, ⟨bk_ BK358⟩, ⟨hb_ HB⟩⟩
     rw [if_neg c13] at H; (exact absurd H (by simp))
    rw [if_neg c12] at H; have c12b0 := decide_eq_false c12; clear c12; simp only [Option.some.injEq, Prod.mk.injEq] at H; obtain ⟨rfl, rfl⟩ := H; (go_wp2); (go_ret2); (exact ⟨by rfl, hb_ HB⟩)
 rw [if_neg c4] at H
 have c4b0 := beq_eq_false_iff_ne.mpr c4; have c4b1 := bne_iff_ne.mpr c4; simp only [Option.some.injEq, Prod.mk.injEq] at H; obtain ⟨rfl, rfl⟩ := H; (go_enter Try.func23, Try.ntmps23); (go_wp2_with (first | ((with_reducible refine gate_dst (N := 2) rfl ?_); refine box_event ?hg (N := 2) ?hd (cs := #[.int .i64 a0_0, .int .i64 a0_1, .int .i64 a0_2, .int .i64 a0_3, .slice A0_4 l0_4.length c0_4]) (t := 26) ?hr ?_; (case hd => rfl); (case hg => rfl); (case hr => (go_simp; done)); intro gb358 hg w23 hbox hb; have BK358 := ak (hbox); have GW358 := gw_ HB hg; have GE358 := gw_ HB hg; replace HB := hs_ HB hb; clear hb hbox hg; obtain ⟨hcz24_0, hcz24_1, hcz24_2, hcz24_3, hcz24_4, hfz24_0, hfz24_1, hfz24_2, hfz24_3, hfz24_4⟩ := cz5_ BK358) | ((with_reducible refine gate_callee (f := 50) rfl ?_); refine goesL_ (some 11) rfl rfl Try.func50 (by kernel_rfl) rfl #[.agg #[.int .i64 a0_0, .int .i64 a0_1, .int .i64 a0_2, .int .i64 a0_3, .slice A0_4 l0_4.length c0_4]] rfl am_ ?_; (with_reducible refine (rf_count.calls a0_0 a0_1 a0_2 a0_3 _ _ l0_4 t359 _ ?side1 ?side2 A3.1).mono ?_); (case side1 => exact (Kd.C_below HR0_4.1 HB.1)); (case side2 => exact HC0_4.1); rintro e w25 ⟨rfl, hb⟩; refine ⟨_, rfl, ?_⟩; replace BK358 := bb_ BK358 hb; replace HB := hs_ HB hb; (try clear hb)))); (go_ret2); (exact ⟨by rfl, hb_ HB⟩)

end Go.Proofs.Ytgacodhpniehiaa.XA
