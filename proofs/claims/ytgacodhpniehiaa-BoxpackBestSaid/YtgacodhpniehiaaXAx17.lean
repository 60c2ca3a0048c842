import Derived.Test.YtgacodhpniehiaaXAx16
namespace Go.Proofs.Ytgacodhpniehiaa.XA
open Flat Go.RowKit Opens YtgacodhpniehiaaW.PrintWords YtgacodhpniehiaaW.PrintLast YtgacodhpniehiaaW.PrintMore
attribute [local go_sem] max2_int min2_int max_two min_two max_three min_three max_four min_four cell_some cell_same
set_option linter.unusedVariables false
set_option linter.unusedSimpArgs false

mutual
def rf_Check.l0 : Nat → Int → Int → Int → Int → Int → List (S56) → Option (Int)
 | 0, _, _, _, _, _, _ => none
 | k + 1, x3, x254000, x254001, x254002, x254003, x254004 => if x3 < (x254004.length : Int) then (if 0 ≤ x3 then (if ((rd_T56 x254004 x3).f0).toList = ([] : List UInt8) then (some 4) else (rf_Check.l0 k (wrap64 (x3 + 1)) x254000 x254001 x254002 x254003 x254004)) else (none)) else ((rf_sized.f k x254000 x254001 x254002).bind fun t255 => (if t255 = true then (if x254003 ≥ 0 then (rf_Check.j1 k (decide (x254003 ≤ 24)) x254000 x254001 x254002 x254003 x254004) else (rf_Check.j1 k false x254000 x254001 x254002 x254003 x254004)) else (rf_Check.j1 k false x254000 x254001 x254002 x254003 x254004)))
def rf_Check.j1 : Nat → Bool → Int → Int → Int → Int → List (S56) → Option (Int)
 | 0, _, _, _, _, _, _ => none
 | k + 1, x4, x254000, x254001, x254002, x254003, x254004 => rf_Check.l1 k x4 0 x254000 x254001 x254002 x254003 x254004
def rf_Check.l1 : Nat → Bool → Int → Int → Int → Int → Int → List (S56) → Option (Int)
 | 0, _, _, _, _, _, _, _ => none
 | k + 1, x4, x5, x254000, x254001, x254002, x254003, x254004 => if x5 < (x254004.length : Int) then (if x4 = true then (if 0 ≤ x5 then ((rf_sized.f k ((rd_T56 x254004 x5).f1.f0) ((rd_T56 x254004 x5).f1.f1) ((rd_T56 x254004 x5).f1.f2)).bind fun t257 => (if t257 = true then (if ((rd_T56 x254004 x5).f2) ≥ 0 then (rf_Check.l1 k (decide (((rd_T56 x254004 x5).f2) ≤ 1000000000)) (wrap64 (x5 + 1)) x254000 x254001 x254002 x254003 x254004) else (rf_Check.l1 k false (wrap64 (x5 + 1)) x254000 x254001 x254002 x254003 x254004)) else (rf_Check.l1 k false (wrap64 (x5 + 1)) x254000 x254001 x254002 x254003 x254004))) else (none)) else (rf_Check.l1 k false (wrap64 (x5 + 1)) x254000 x254001 x254002 x254003 x254004)) else (if x4 = true then (rf_Check.l2 k 0 x254000 x254001 x254002 x254003 x254004) else (some 6))
def rf_Check.l2 : Nat → Int → Int → Int → Int → Int → List (S56) → Option (Int)
 | 0, _, _, _, _, _, _ => none
 | k + 1, x6, x254000, x254001, x254002, x254003, x254004 => if x6 < (x254004.length : Int) then (rf_Check.l3 k x6 0 x254000 x254001 x254002 x254003 x254004) else (some 0)
def rf_Check.l3 : Nat → Int → Int → Int → Int → Int → Int → List (S56) → Option (Int)
 | 0, _, _, _, _, _, _, _ => none
 | k + 1, x6, x7, x254000, x254001, x254002, x254003, x254004 => if x7 < x6 then (if 0 ≤ x6 then (if x6 < (x254004.length : Int) then (if 0 ≤ x7 then (if x7 < (x254004.length : Int) then (if ((rd_T56 x254004 x6).f0).toList = ((rd_T56 x254004 x7).f0).toList then (some 5) else (rf_Check.l3 k x6 (wrap64 (x7 + 1)) x254000 x254001 x254002 x254003 x254004)) else (none)) else (none)) else (none)) else (none)) else (rf_Check.l2 k (wrap64 (x6 + 1)) x254000 x254001 x254002 x254003 x254004)
end
def rf_Check.f (k : Nat) (a0_0 : Int) (a0_1 : Int) (a0_2 : Int) (a0_3 : Int) (l0_4 : List (S56)) : Option (Int) := if (l0_4.length : Int) > 6 then (some 7) else (rf_Check.l0 k 0 a0_0 a0_1 a0_2 a0_3 l0_4)
theorem rf_Check.mono_l : ∀ k, (∀ y0 y1 y2 y3 y4 y5, LeO (rf_Check.l0 k y0 y1 y2 y3 y4 y5) (rf_Check.l0 (k + 1) y0 y1 y2 y3 y4 y5)) ∧ (∀ y0 y1 y2 y3 y4 y5, LeO (rf_Check.j1 k y0 y1 y2 y3 y4 y5) (rf_Check.j1 (k + 1) y0 y1 y2 y3 y4 y5)) ∧ (∀ y0 y1 y2 y3 y4 y5 y6, LeO (rf_Check.l1 k y0 y1 y2 y3 y4 y5 y6) (rf_Check.l1 (k + 1) y0 y1 y2 y3 y4 y5 y6)) ∧ (∀ y0 y1 y2 y3 y4 y5, LeO (rf_Check.l2 k y0 y1 y2 y3 y4 y5) (rf_Check.l2 (k + 1) y0 y1 y2 y3 y4 y5)) ∧ (∀ y0 y1 y2 y3 y4 y5 y6, LeO (rf_Check.l3 k y0 y1 y2 y3 y4 y5 y6) (rf_Check.l3 (k + 1) y0 y1 y2 y3 y4 y5 y6))
 | 0 => ⟨fun _ _ _ _ _ _ r h => by simp [rf_Check.l0] at h, fun _ _ _ _ _ _ r h => by simp [rf_Check.j1] at h, fun _ _ _ _ _ _ _ r h => by simp [rf_Check.l1] at h, fun _ _ _ _ _ _ r h => by simp [rf_Check.l2] at h, fun _ _ _ _ _ _ _ r h => by simp [rf_Check.l3] at h⟩
 | k + 1 => by
  obtain ⟨ih0, ih1, ih2, ih3, ih4⟩ := rf_Check.mono_l k; refine ⟨?_, ?_, ?_, ?_, ?_⟩; (all_goals (intros; (first | unfold rf_Check.l0 | unfold rf_Check.j1 | unfold rf_Check.l1 | unfold rf_Check.l2 | unfold rf_Check.l3)))
  all_goals (repeat' first
   | (with_reducible exact ih0 _ _ _ _ _ _)
   | (with_reducible exact ih1 _ _ _ _ _ _)
   | (with_reducible exact ih2 _ _ _ _ _ _ _)
   | (with_reducible exact ih3 _ _ _ _ _ _)
   | (with_reducible exact ih4 _ _ _ _ _ _ _)
   | (with_reducible exact rf_sized.mono _ _ _ _)
   | (with_reducible exact LeO.refl _)
   | (with_reducible refine LeO.ite ?_ ?_)
   | (with_reducible refine LeO.bind ?_ (fun _ => ?_))
   )
theorem rf_Check.mono : ∀ a0 a1 a2 a3 a4 k, LeO (rf_Check.f k a0 a1 a2 a3 a4) (rf_Check.f (k + 1) a0 a1 a2 a3 a4) := by
 intro a0 a1 a2 a3 a4 k
 obtain ⟨ih0, ih1, ih2, ih3, ih4⟩ := rf_Check.mono_l k
 unfold rf_Check.f
 repeat' first
   | (with_reducible exact ih0 _ _ _ _ _ _)
   | (with_reducible exact LeO.refl _)
   | (with_reducible refine LeO.ite ?_ ?_)
set_option maxHeartbeats 8000000 in
set_option maxRecDepth 100000 in
theorem rf_Check.calls (k : Nat) (a0_0 : Int) (a0_1 : Int) (a0_2 : Int) (a0_3 : Int) (A0_4 : Option Addr) (c0_4 : Nat) (l0_4 : List (S56)) (r : Int) (w : World) (hr0_4 : Kd.C k56 w A0_4 l0_4.length l0_4) (hc0_4 : l0_4.length ≤ c0_4) (h : rf_Check.f k a0_0 a0_1 a0_2 a0_3 l0_4 = some r) :
  Calls Try.prog 13 #[.agg #[.int .i64 a0_0, .int .i64 a0_1, .int .i64 a0_2, .int .i64 a0_3, .slice A0_4 l0_4.length c0_4]] w fun e w' => e = .returned (.int .i64 r) ∧ Below w.heap.size w w' := by
 have hu26 := Try.underlying26
 have hu23 := Try.underlying23
 have HR0_4 := ak hr0_4
 have HC0_4 := ak hc0_4
 clear hr0_4 hc0_4
 have HB := ak (Below.refl w.heap.size w)
 have H : (if (l0_4.length : Int) > 6 then (some 7) else (rf_Check.l0 k 0 a0_0 a0_1 a0_2 a0_3 l0_4)) = some r := h
 clear h
 by_cases c2 : (l0_4.length : Int) > 6
 ·rw [if_pos c2] at H
  have c2b0 := decide_eq_true c2; (have c2b1 : decide (6 < l0_4.length) = true := decide_eq_true (by omega)); clear c2; obtain rfl := Option.some.inj H; (go_enter Try.func13, Try.ntmps13); (iterate 2 (go_wp2_with (first | ((with_reducible refine gate_dst (N := 1) rfl ?_); refine bx_ 1 #[.int .i64 a0_0, .int .i64 a0_1, .int .i64 a0_2, .int .i64 a0_3, .slice A0_4 l0_4.length c0_4] 26 ?_; intro gb253 hg w3 hbox hb; have BK253 := ak (hbox); have GW253 := gw_ HB hg; have GE253 := gw_ HB hg; replace HB := hs_ HB hb; clear hb hbox hg; obtain ⟨hcz4_0, hcz4_1, hcz4_2, hcz4_3, hcz4_4, hfz4_0, hfz4_1, hfz4_2, hfz4_3, hfz4_4⟩ := cz5_ BK253)))); (go_ret); (exact ⟨by rfl, hb_ HB⟩)
 rw [if_neg c2] at H
 have c2b0 := decide_eq_false c2; (have c2b1 : decide (6 < l0_4.length) = false := decide_eq_false (by omega)); clear c2; have H' := ak H; clear H; (go_enter Try.func13, Try.ntmps13); (iterate 2 (go_wp2_with (first | ((with_reducible refine gate_dst (N := 1) rfl ?_); refine bx_ 1 #[.int .i64 a0_0, .int .i64 a0_1, .int .i64 a0_2, .int .i64 a0_3, .slice A0_4 l0_4.length c0_4] 26 ?_; intro gb253 hg w5 hbox hb; have BK253 := ak (hbox); have GW253 := gw_ HB hg; have GE253 := gw_ HB hg; replace HB := hs_ HB hb; clear hb hbox hg; obtain ⟨hcz6_0, hcz6_1, hcz6_2, hcz6_3, hcz6_4, hfz6_0, hfz6_1, hfz6_2, hfz6_3, hfz6_4⟩ := cz5_ BK253)))); (go_loopg [3] k (fun kq v3 w' => ∃ (x3_1 : Int), v3 = .int .i64 x3_1 ∧ Aside0 (rf_Check.l0 kq x3_1 a0_0 a0_1 a0_2 a0_3 l0_4 = some r) ∧ Aside0 (kq ≤ k) ∧ Aside0 (w'.heap[gb253]? = some (.cells #[.int .i64 a0_0, .int .i64 a0_1, .int .i64 a0_2, .int .i64 a0_3, (.slice A0_4 l0_4.length c0_4)] 26 (0, 0))) ∧ Aside0 (Below w.heap.size w w')))
 case atStart => exact ⟨(0), (by rfl), H', ⟨Nat.le_refl _⟩, ⟨bk_ BK253⟩, ⟨hb_ HB⟩⟩
 clear H'; (try clear c2b0); (try clear c2b1); (try clear hcz6_0); (try clear hcz6_1); (try clear hcz6_2); (try clear hcz6_3); (try clear hcz6_4); (try clear hfz6_0); (try clear hfz6_1); (try clear hfz6_2); (try clear hfz6_3); (try clear hfz6_4); obtain ⟨x3_1, rfl, HA, HK1, BK253, HB⟩ := hrel
 cases gk with
 | zero => exact absurd HA.1 (by simp [rf_Check.l0])
 | succ k1 =>
  have H := HA.1; clear HA; simp only [rf_Check.l0] at H; (by_cases c7 : x3_1 < (l0_4.length : Int))
  ·rw [if_pos c7] at H
   have c7b0 := decide_eq_true c7; clear c7; (by_cases c8 : 0 ≤ x3_1)
   ·rw [if_pos c8] at H
    have c8b0 := decide_eq_true c8; clear c8; (by_cases c9 : ((rd_T56 l0_4 x3_1).f0).toList = ([] : List UInt8))
    ·rw [if_pos c9] at H; have c9b0 := beq_iff_eq.mpr c9; have c9b1 := bne_eq_false_iff_eq.mpr c9; clear c9; obtain rfl := Option.some.inj H; obtain ⟨hcz10_0, hcz10_1, hcz10_2, hcz10_3, hcz10_4, hfz10_0, hfz10_1, hfz10_2, hfz10_3, hfz10_4⟩ := cz5_ BK253; have p254 : 0 ≤ (x3_1 : Int) := od_; have q254 : x3_1 < (l0_4.length : Int) := od_; obtain ⟨ad254, e254, hx254_0, hx254_1, hx254_2, hx254_3, hx254_4, hx254_5, hx254_6⟩ := at_T56 HR0_4.1 x3_1 p254 q254; (cases e254); replace hx254_0 := (hc_ HB hx254_0).trans hx254_0; replace hx254_1 := (hc_ HB hx254_1).trans hx254_1; replace hx254_2 := (hc_ HB hx254_2).trans hx254_2; replace hx254_3 := (hc_ HB hx254_3).trans hx254_3; replace hx254_4 := (hc_ HB hx254_4).trans hx254_4; replace hx254_5 := (hc_ HB hx254_5).trans hx254_5; replace hx254_6 := (hc_ HB hx254_6).trans hx254_6; replace p254 := eq_true p254; replace q254 := eq_true q254; (go_wp2); (go_ret); (exact ⟨by rfl, hb_ HB⟩)
    rw [if_neg c9] at H
    have c9b0 := beq_eq_false_iff_ne.mpr c9; have c9b1 := bne_iff_ne.mpr c9; have H' := ak H; clear H; obtain ⟨hcz11_0, hcz11_1, hcz11_2, hcz11_3, hcz11_4, hfz11_0, hfz11_1, hfz11_2, hfz11_3, hfz11_4⟩ := cz5_ BK253; have p254 : 0 ≤ (x3_1 : Int) := od_; have q254 : x3_1 < (l0_4.length : Int) := od_; obtain ⟨ad254, e254, hx254_0, hx254_1, hx254_2, hx254_3, hx254_4, hx254_5, hx254_6⟩ := at_T56 HR0_4.1 x3_1 p254 q254; (cases e254); replace hx254_0 := (hc_ HB hx254_0).trans hx254_0; replace hx254_1 := (hc_ HB hx254_1).trans hx254_1; replace hx254_2 := (hc_ HB hx254_2).trans hx254_2; replace hx254_3 := (hc_ HB hx254_3).trans hx254_3; replace hx254_4 := (hc_ HB hx254_4).trans hx254_4; replace hx254_5 := (hc_ HB hx254_5).trans hx254_5; replace hx254_6 := (hc_ HB hx254_6).trans hx254_6; replace p254 := eq_true p254; replace q254 := eq_true q254; (go_wp2); (go_roundg k1)
    case measure => have := HK1.1; omega
    case rel => exact ⟨(wrap64 (x3_1 + 1)), (by rfl), H', ⟨by have := HK1.1; omega⟩, ⟨bk_ BK253⟩, ⟨hb_ HB⟩⟩
   rw [if_neg c8] at H; (exact absurd H (by simp))
  rw [if_neg c7] at H
  have c7b0 := decide_eq_false c7; clear c7; have HC12 := ak H; clear H; obtain ⟨hcz13_0, hcz13_1, hcz13_2, hcz13_3, hcz13_4, hfz13_0, hfz13_1, hfz13_2, hfz13_3, hfz13_4⟩ := cz5_ BK253; (go_upto_region 8 with (fail)); (go_cut [4] (fun v4 wc => ∃ (kq : Nat) (x4_11 : Bool), v4 = .bool x4_11 ∧ Aside0 (rf_Check.j1 kq x4_11 a0_0 a0_1 a0_2 a0_3 l0_4 = some r) ∧ Aside0 (kq ≤ k1) ∧ Aside0 (wc.heap[gb253]? = some (.cells #[.int .i64 a0_0, .int .i64 a0_1, .int .i64 a0_2, .int .i64 a0_3, (.slice A0_4 l0_4.length c0_4)] 26 (0, 0))) ∧ Aside0 (Below w.heap.size w wc)))
  case first =>
   have H := HC12.1; clear HC12; obtain ⟨t255, A140, H⟩ := obs_ H; (try dsimp only at H); have A14 := ak A140; clear A140; (by_cases c15 : t255 = true)
   ·subst c15
    (replace H : (if a0_3 ≥ 0 then (rf_Check.j1 k1 (decide (a0_3 ≤ 24)) a0_0 a0_1 a0_2 a0_3 l0_4) else (rf_Check.j1 k1 false a0_0 a0_1 a0_2 a0_3 l0_4)) = some r := by rw [if_pos rfl] at H; exact H); (by_cases c16 : a0_3 ≥ 0)
    ·rw [if_pos c16] at H
     have c16b0 := decide_eq_true c16; clear c16; have H' := ak H; clear H; obtain ⟨hcz17_0, hcz17_1, hcz17_2, hcz17_3, hcz17_4, hfz17_0, hfz17_1, hfz17_2, hfz17_3, hfz17_4⟩ := cz5_ BK253; (iterate 2 (go_wp2_with (first | (go_at_call 33; (with_reducible refine (rf_sized.calls k1 a0_0 a0_1 a0_2 true _ A14.1).mono ?_); rintro e w18 ⟨rfl, hb⟩; replace BK253 := bb_ BK253 hb; replace HB := hs_ HB hb; (try clear hb); obtain ⟨hcz19_0, hcz19_1, hcz19_2, hcz19_3, hcz19_4, hfz19_0, hfz19_1, hfz19_2, hfz19_3, hfz19_4⟩ := cz5_ BK253)))); (go_meet)
     case rel => exact ⟨_, (decide (a0_3 ≤ 24)), (by rfl), H', ⟨by have := HK1.1; omega⟩, ⟨bk_ BK253⟩, ⟨hb_ HB⟩⟩
    rw [if_neg c16] at H
    have c16b0 := decide_eq_false c16; clear c16; have H' := ak H; clear H; obtain ⟨hcz20_0, hcz20_1, hcz20_2, hcz20_3, hcz20_4, hfz20_0, hfz20_1, hfz20_2, hfz20_3, hfz20_4⟩ := cz5_ BK253; (iterate 2 (go_wp2_with (first | (go_at_call 33; (with_reducible refine (rf_sized.calls k1 a0_0 a0_1 a0_2 true _ A14.1).mono ?_); rintro e w21 ⟨rfl, hb⟩; replace BK253 := bb_ BK253 hb; replace HB := hs_ HB hb; (try clear hb); obtain ⟨hcz22_0, hcz22_1, hcz22_2, hcz22_3, hcz22_4, hfz22_0, hfz22_1, hfz22_2, hfz22_3, hfz22_4⟩ := cz5_ BK253)))); (go_meet)
    case rel => exact ⟨_, (false), (by rfl), H', ⟨by have := HK1.1; omega⟩, ⟨bk_ BK253⟩, ⟨hb_ HB⟩⟩
   replace c15 := Bool.eq_false_iff.mpr c15
   subst c15; (replace H : (rf_Check.j1 k1 false a0_0 a0_1 a0_2 a0_3 l0_4) = some r := by rw [if_neg (show ¬ (false = true) by decide)] at H; exact H); have H' := ak H; clear H; obtain ⟨hcz23_0, hcz23_1, hcz23_2, hcz23_3, hcz23_4, hfz23_0, hfz23_1, hfz23_2, hfz23_3, hfz23_4⟩ := cz5_ BK253; (iterate 2 (go_wp2_with (first | (go_at_call 33; (with_reducible refine (rf_sized.calls k1 a0_0 a0_1 a0_2 false _ A14.1).mono ?_); rintro e w24 ⟨rfl, hb⟩; replace BK253 := bb_ BK253 hb; replace HB := hs_ HB hb; (try clear hb))))); (go_meet)
   case rel => exact ⟨_, (false), (by rfl), H', ⟨by have := HK1.1; omega⟩, ⟨bk_ BK253⟩, ⟨hb_ HB⟩⟩
  clear HC12; (try clear c7b0); (try clear hcz13_0); (try clear hcz13_1); (try clear hcz13_2); (try clear hcz13_3); (try clear hcz13_4); (try clear hfz13_0); (try clear hfz13_1); (try clear hfz13_2); (try clear hfz13_3); (try clear hfz13_4); obtain ⟨kq, x4_11, rfl, HA, HJ11, BK253, HB⟩ := hcut
  cases kq with
  | zero => exact absurd HA.1 (by simp [rf_Check.j1])
  | succ kj11 =>
   have H := HA.1; clear HA; simp only [rf_Check.j1] at H; have H' := ak H; clear H; (go_wp2); (go_loopg [4, 5] kj11 (fun kq v4 v5 w' => ∃ (x4_3 : Bool) (x5_3 : Int), v4 = .bool x4_3 ∧ v5 = .int .i64 x5_3 ∧ Aside0 (rf_Check.l1 kq x4_3 x5_3 a0_0 a0_1 a0_2 a0_3 l0_4 = some r) ∧ Aside0 (kq ≤ kj11) ∧ Aside0 (w'.heap[gb253]? = some (.cells #[.int .i64 a0_0, .int .i64 a0_1, .int .i64 a0_2, .int .i64 a0_3, (.slice A0_4 l0_4.length c0_4)] 26 (0, 0))) ∧ Aside0 (Below w.heap.size w w')))
   case atStart => exact ⟨(x4_11), (0), (by rfl), (by rfl), H', ⟨Nat.le_refl _⟩, ⟨bk_ BK253⟩, ⟨hb_ HB⟩⟩
   clear H'; obtain ⟨x4_3, x5_3, rfl, rfl, HA, HK3, BK253, HB⟩ := hrel
   cases gk with
   | zero => exact absurd HA.1 (by simp [rf_Check.l1])
   | succ k3 =>
    have H := HA.1; clear HA; simp only [rf_Check.l1] at H; (by_cases c25 : x5_3 < (l0_4.length : Int))
    ·rw [if_pos c25] at H
     have c25b0 := decide_eq_true c25; clear c25; (by_cases c26 : x4_3 = true)
     ·subst c26
      (replace H : (if 0 ≤ x5_3 then ((rf_sized.f k3 ((rd_T56 l0_4 x5_3).f1.f0) ((rd_T56 l0_4 x5_3).f1.f1) ((rd_T56 l0_4 x5_3).f1.f2)).bind fun t257 => (if t257 = true then (if ((rd_T56 l0_4 x5_3).f2) ≥ 0 then (rf_Check.l1 k3 (decide (((rd_T56 l0_4 x5_3).f2) ≤ 1000000000)) (wrap64 (x5_3 + 1)) a0_0 a0_1 a0_2 a0_3 l0_4) else (rf_Check.l1 k3 false (wrap64 (x5_3 + 1)) a0_0 a0_1 a0_2 a0_3 l0_4)) else (rf_Check.l1 k3 false (wrap64 (x5_3 + 1)) a0_0 a0_1 a0_2 a0_3 l0_4))) else (none)) = some r := by rw [if_pos rfl] at H; exact H); (by_cases c27 : 0 ≤ x5_3)
      ·rw [if_pos c27] at H
       have c27b0 := decide_eq_true c27; clear c27; obtain ⟨t257, A280, H⟩ := obs_ H; (try dsimp only at H); have A28 := ak A280; clear A280; (by_cases c29 : t257 = true)
       ·subst c29
        (replace H : (if ((rd_T56 l0_4 x5_3).f2) ≥ 0 then (rf_Check.l1 k3 (decide (((rd_T56 l0_4 x5_3).f2) ≤ 1000000000)) (wrap64 (x5_3 + 1)) a0_0 a0_1 a0_2 a0_3 l0_4) else (rf_Check.l1 k3 false (wrap64 (x5_3 + 1)) a0_0 a0_1 a0_2 a0_3 l0_4)) = some r := by rw [if_pos rfl] at H; exact H); (by_cases c30 : ((rd_T56 l0_4 x5_3).f2) ≥ 0)
        ·rw [if_pos c30] at H
         have c30b0 := decide_eq_true c30; clear c30; have H' := ak H; clear H; obtain ⟨hcz31_0, hcz31_1, hcz31_2, hcz31_3, hcz31_4, hfz31_0, hfz31_1, hfz31_2, hfz31_3, hfz31_4⟩ := cz5_ BK253; have p256 : 0 ≤ (x5_3 : Int) := od_; have q256 : x5_3 < (l0_4.length : Int) := od_; obtain ⟨ad256, e256, hx256_0, hx256_1, hx256_2, hx256_3, hx256_4, hx256_5, hx256_6⟩ := at_T56 HR0_4.1 x5_3 p256 q256; (cases e256); replace hx256_0 := (hc_ HB hx256_0).trans hx256_0; replace hx256_1 := (hc_ HB hx256_1).trans hx256_1; replace hx256_2 := (hc_ HB hx256_2).trans hx256_2; replace hx256_3 := (hc_ HB hx256_3).trans hx256_3; replace hx256_4 := (hc_ HB hx256_4).trans hx256_4; replace hx256_5 := (hc_ HB hx256_5).trans hx256_5; replace hx256_6 := (hc_ HB hx256_6).trans hx256_6; replace p256 := eq_true p256; replace q256 := eq_true q256; (iterate 2 (go_wp2_with (first | (go_at_call 33; (with_reducible refine (rf_sized.calls k3 ((rd_T56 l0_4 x5_3).f1.f0) ((rd_T56 l0_4 x5_3).f1.f1) ((rd_T56 l0_4 x5_3).f1.f2) true _ A28.1).mono ?_); rintro e w32 ⟨rfl, hb⟩; replace BK253 := bb_ BK253 hb; replace HB := hs_ HB hb; (try clear hb); obtain ⟨hcz33_0, hcz33_1, hcz33_2, hcz33_3, hcz33_4, hfz33_0, hfz33_1, hfz33_2, hfz33_3, hfz33_4⟩ := cz5_ BK253; have p258 : 0 ≤ (x5_3 : Int) := od_; have q258 : x5_3 < (l0_4.length : Int) := od_; obtain ⟨ad258, e258, hx258_0, hx258_1, hx258_2, hx258_3, hx258_4, hx258_5, hx258_6⟩ := at_T56 HR0_4.1 x5_3 p258 q258; obtain rfl : ad256 = ad258 := (by injection e258); replace hx258_0 := (hc_ HB hx258_0).trans hx258_0; replace hx258_1 := (hc_ HB hx258_1).trans hx258_1; replace hx258_2 := (hc_ HB hx258_2).trans hx258_2; replace hx258_3 := (hc_ HB hx258_3).trans hx258_3; replace hx258_4 := (hc_ HB hx258_4).trans hx258_4; replace hx258_5 := (hc_ HB hx258_5).trans hx258_5; replace hx258_6 := (hc_ HB hx258_6).trans hx258_6; replace p258 := eq_true p258; replace q258 := eq_true q258; have p259 : 0 ≤ (x5_3 : Int) := od_; have q259 : x5_3 < (l0_4.length : Int) := od_; obtain ⟨ad259, e259, hx259_0, hx259_1, hx259_2, hx259_3, hx259_4, hx259_5, hx259_6⟩ := at_T56 HR0_4.1 x5_3 p259 q259; obtain rfl : ad256 = ad259 := (by injection e259); replace hx259_0 := (hc_ HB hx259_0).trans hx259_0; replace hx259_1 := (hc_ HB hx259_1).trans hx259_1; replace hx259_2 := (hc_ HB hx259_2).trans hx259_2; replace hx259_3 := (hc_ HB hx259_3).trans hx259_3; replace hx259_4 := (hc_ HB hx259_4).trans hx259_4; replace hx259_5 := (hc_ HB hx259_5).trans hx259_5; replace hx259_6 := (hc_ HB hx259_6).trans hx259_6; replace p259 := eq_true p259; replace q259 := eq_true q259))))
         go_roundg k3
         case measure => have := HK1.1; have := HJ11.1; have := HK3.1; omega
         case rel => exact ⟨(decide (((rd_T56 l0_4 x5_3).f2) ≤ 1000000000)), (wrap64 (x5_3 + 1)), (by rfl), (by rfl), H', ⟨by have := HK1.1; have := HJ11.1; have := HK3.1; omega⟩, ⟨bk_ BK253⟩, ⟨hb_ HB⟩⟩
        rw [if_neg c30] at H
        have c30b0 := decide_eq_false c30; clear c30; have H' := ak H; clear H; obtain ⟨hcz34_0, hcz34_1, hcz34_2, hcz34_3, hcz34_4, hfz34_0, hfz34_1, hfz34_2, hfz34_3, hfz34_4⟩ := cz5_ BK253; have p256 : 0 ≤ (x5_3 : Int) := od_; have q256 : x5_3 < (l0_4.length : Int) := od_; obtain ⟨ad256, e256, hx256_0, hx256_1, hx256_2, hx256_3, hx256_4, hx256_5, hx256_6⟩ := at_T56 HR0_4.1 x5_3 p256 q256; (cases e256); replace hx256_0 := (hc_ HB hx256_0).trans hx256_0; replace hx256_1 := (hc_ HB hx256_1).trans hx256_1; replace hx256_2 := (hc_ HB hx256_2).trans hx256_2; replace hx256_3 := (hc_ HB hx256_3).trans hx256_3; replace hx256_4 := (hc_ HB hx256_4).trans hx256_4; replace hx256_5 := (hc_ HB hx256_5).trans hx256_5; replace hx256_6 := (hc_ HB hx256_6).trans hx256_6; replace p256 := eq_true p256; replace q256 := eq_true q256; (iterate 2 (go_wp2_with (first | (go_at_call 33; (with_reducible refine (rf_sized.calls k3 ((rd_T56 l0_4 x5_3).f1.f0) ((rd_T56 l0_4 x5_3).f1.f1) ((rd_T56 l0_4 x5_3).f1.f2) true _ A28.1).mono ?_); rintro e w35 ⟨rfl, hb⟩; replace BK253 := bb_ BK253 hb; replace HB := hs_ HB hb; (try clear hb); obtain ⟨hcz36_0, hcz36_1, hcz36_2, hcz36_3, hcz36_4, hfz36_0, hfz36_1, hfz36_2, hfz36_3, hfz36_4⟩ := cz5_ BK253; have p258 : 0 ≤ (x5_3 : Int) := od_; have q258 : x5_3 < (l0_4.length : Int) := od_; obtain ⟨ad258, e258, hx258_0, hx258_1, hx258_2, hx258_3, hx258_4, hx258_5, hx258_6⟩ := at_T56 HR0_4.1 x5_3 p258 q258; obtain rfl : ad256 = ad258 := (by injection e258); replace hx258_0 := (hc_ HB hx258_0).trans hx258_0; replace hx258_1 := (hc_ HB hx258_1).trans hx258_1; replace hx258_2 := (hc_ HB hx258_2).trans hx258_2; replace hx258_3 := (hc_ HB hx258_3).trans hx258_3; replace hx258_4 := (hc_ HB hx258_4).trans hx258_4; replace hx258_5 := (hc_ HB hx258_5).trans hx258_5; replace hx258_6 := (hc_ HB hx258_6).trans hx258_6; replace p258 := eq_true p258; replace q258 := eq_true q258))))
        go_roundg k3
        case measure => have := HK1.1; have := HJ11.1; have := HK3.1; omega
        case rel => exact ⟨(false), (wrap64 (x5_3 + 1)), (by rfl), (by rfl), H', ⟨by have := HK1.1; have := HJ11.1; have := HK3.1; omega⟩, ⟨bk_ BK253⟩, ⟨hb_ HB⟩⟩
       replace c29 := Bool.eq_false_iff.mpr c29
       subst c29; (replace H : (rf_Check.l1 k3 false (wrap64 (x5_3 + 1)) a0_0 a0_1 a0_2 a0_3 l0_4) = some r := by rw [if_neg (show ¬ (false = true) by decide)] at H; exact H); have H' := ak H; clear H; obtain ⟨hcz37_0, hcz37_1, hcz37_2, hcz37_3, hcz37_4, hfz37_0, hfz37_1, hfz37_2, hfz37_3, hfz37_4⟩ := cz5_ BK253; have p256 : 0 ≤ (x5_3 : Int) := od_; have q256 : x5_3 < (l0_4.length : Int) := od_; obtain ⟨ad256, e256, hx256_0, hx256_1, hx256_2, hx256_3, hx256_4, hx256_5, hx256_6⟩ := at_T56 HR0_4.1 x5_3 p256 q256; (cases e256); replace hx256_0 := (hc_ HB hx256_0).trans hx256_0; replace hx256_1 := (hc_ HB hx256_1).trans hx256_1; replace hx256_2 := (hc_ HB hx256_2).trans hx256_2; replace hx256_3 := (hc_ HB hx256_3).trans hx256_3; replace hx256_4 := (hc_ HB hx256_4).trans hx256_4; replace hx256_5 := (hc_ HB hx256_5).trans hx256_5; replace hx256_6 := (hc_ HB hx256_6).trans hx256_6; replace p256 := eq_true p256; replace q256 := eq_true q256; (iterate 2 (go_wp2_with (first | (go_at_call 33; (with_reducible refine (rf_sized.calls k3 ((rd_T56 l0_4 x5_3).f1.f0) ((rd_T56 l0_4 x5_3).f1.f1) ((rd_T56 l0_4 x5_3).f1.f2) false _ A28.1).mono ?_); rintro e w38 ⟨rfl, hb⟩; replace BK253 := bb_ BK253 hb; replace HB := hs_ HB hb; (try clear hb))))); (go_roundg k3)
       case measure => have := HK1.1; have := HJ11.1; have := HK3.1; omega
       case rel => exact ⟨(false), (wrap64 (x5_3 + 1)), (by rfl), (by rfl), H', ⟨by have := HK1.1; have := HJ11.1; have := HK3.1; omega⟩, ⟨bk_ BK253⟩, ⟨hb_ HB⟩⟩
      rw [if_neg c27] at H; (exact absurd H (by simp))
     replace c26 := Bool.eq_false_iff.mpr c26
     subst c26; (replace H : (rf_Check.l1 k3 false (wrap64 (x5_3 + 1)) a0_0 a0_1 a0_2 a0_3 l0_4) = some r := by rw [if_neg (show ¬ (false = true) by decide)] at H; exact H); have H' := ak H; clear H; obtain ⟨hcz39_0, hcz39_1, hcz39_2, hcz39_3, hcz39_4, hfz39_0, hfz39_1, hfz39_2, hfz39_3, hfz39_4⟩ := cz5_ BK253; (go_wp2); (go_roundg k3)
     case measure => have := HK1.1; have := HJ11.1; have := HK3.1; omega
     case rel => exact ⟨(false), (wrap64 (x5_3 + 1)), (by rfl), (by rfl), H', ⟨by have := HK1.1; have := HJ11.1; have := HK3.1; omega⟩, ⟨bk_ BK253⟩, ⟨hb_ HB⟩⟩
    rw [if_neg c25] at H
    have c25b0 := decide_eq_false c25; clear c25; (by_cases c40 : x4_3 = true)
    ·subst c40
     (replace H : (rf_Check.l2 k3 0 a0_0 a0_1 a0_2 a0_3 l0_4) = some r := by rw [if_pos rfl] at H; exact H); have H' := ak H; clear H; obtain ⟨hcz41_0, hcz41_1, hcz41_2, hcz41_3, hcz41_4, hfz41_0, hfz41_1, hfz41_2, hfz41_3, hfz41_4⟩ := cz5_ BK253; (go_wp2); (go_loopg [6] k3 (fun kq v6 w' => ∃ (x6_4 : Int), v6 = .int .i64 x6_4 ∧ Aside0 (rf_Check.l2 kq x6_4 a0_0 a0_1 a0_2 a0_3 l0_4 = some r) ∧ Aside0 (kq ≤ k3) ∧ Aside0 (w'.heap[gb253]? = some (.cells #[.int .i64 a0_0, .int .i64 a0_1, .int .i64 a0_2, .int .i64 a0_3, (.slice A0_4 l0_4.length c0_4)] 26 (0, 0))) ∧ Aside0 (Below w.heap.size w w')))
     case atStart => exact ⟨(0), (by rfl), H', ⟨Nat.le_refl _⟩, ⟨bk_ BK253⟩, ⟨hb_ HB⟩⟩
     clear H'; (try clear c25b0); (try clear hcz41_0); (try clear hcz41_1); (try clear hcz41_2); (try clear hcz41_3); (try clear hcz41_4)
     (try clear hfz41_0); (try clear hfz41_1); (try clear hfz41_2); (try clear hfz41_3); (try clear hfz41_4); obtain ⟨x6_4, rfl, HA, HK4, BK253, HB⟩ := hrel
     cases gk with
     | zero => exact absurd HA.1 (by simp [rf_Check.l2])
     | succ k4 =>
      have H := HA.1; clear HA; simp only [rf_Check.l2] at H; (by_cases c42 : x6_4 < (l0_4.length : Int))
      ·rw [if_pos c42] at H
       have c42b0 := decide_eq_true c42; clear c42; have H' := ak H; clear H; obtain ⟨hcz43_0, hcz43_1, hcz43_2, hcz43_3, hcz43_4, hfz43_0, hfz43_1, hfz43_2, hfz43_3, hfz43_4⟩ := cz5_ BK253; (go_wp2); (go_loopg [7] k4 (fun kq v7 w' => ∃ (x7_5 : Int), v7 = .int .i64 x7_5 ∧ Aside0 (rf_Check.l3 kq x6_4 x7_5 a0_0 a0_1 a0_2 a0_3 l0_4 = some r) ∧ Aside0 (kq ≤ k4) ∧ Aside0 (w'.heap[gb253]? = some (.cells #[.int .i64 a0_0, .int .i64 a0_1, .int .i64 a0_2, .int .i64 a0_3, (.slice A0_4 l0_4.length c0_4)] 26 (0, 0))) ∧ Aside0 (Below w.heap.size w w')))
       case atStart => exact ⟨(0), (by rfl), H', ⟨Nat.le_refl _⟩, ⟨bk_ BK253⟩, ⟨hb_ HB⟩⟩
       clear H'; (try clear c42b0); (try clear hcz43_0); (try clear hcz43_1); (try clear hcz43_2); (try clear hcz43_3); (try clear hcz43_4)
       (try clear hfz43_0); (try clear hfz43_1); (try clear hfz43_2); (try clear hfz43_3); (try clear hfz43_4); obtain ⟨x7_5, rfl, HA, HK5, BK253, HB⟩ := hrel
       cases gk with
       | zero => exact absurd HA.1 (by simp [rf_Check.l3])
       | succ k5 =>
        have H := HA.1; clear HA; simp only [rf_Check.l3] at H; (by_cases c44 : x7_5 < x6_4)
        ·rw [if_pos c44] at H
         have c44b0 := decide_eq_true c44; clear c44; (by_cases c45 : 0 ≤ x6_4)
         ·rw [if_pos c45] at H
          have c45b0 := decide_eq_true c45; clear c45; (by_cases c46 : x6_4 < (l0_4.length : Int))
          ·rw [if_pos c46] at H
           have c46b0 := decide_eq_true c46; clear c46; (by_cases c47 : 0 ≤ x7_5)
           ·rw [if_pos c47] at H
            have c47b0 := decide_eq_true c47; clear c47; (by_cases c48 : x7_5 < (l0_4.length : Int))
            ·rw [if_pos c48] at H
             have c48b0 := decide_eq_true c48; clear c48; (by_cases c49 : ((rd_T56 l0_4 x6_4).f0).toList = ((rd_T56 l0_4 x7_5).f0).toList)
             ·rw [if_pos c49] at H
              have c49b0 := beq_iff_eq.mpr c49; have c49b1 := bne_eq_false_iff_eq.mpr c49; clear c49; obtain rfl := Option.some.inj H; obtain ⟨hcz50_0, hcz50_1, hcz50_2, hcz50_3, hcz50_4, hfz50_0, hfz50_1, hfz50_2, hfz50_3, hfz50_4⟩ := cz5_ BK253; have p260 : 0 ≤ (x6_4 : Int) := od_; have q260 : x6_4 < (l0_4.length : Int) := od_; obtain ⟨ad260, e260, hx260_0, hx260_1, hx260_2, hx260_3, hx260_4, hx260_5, hx260_6⟩ := at_T56 HR0_4.1 x6_4 p260 q260; (cases e260); replace hx260_0 := (hc_ HB hx260_0).trans hx260_0; replace hx260_1 := (hc_ HB hx260_1).trans hx260_1; replace hx260_2 := (hc_ HB hx260_2).trans hx260_2; replace hx260_3 := (hc_ HB hx260_3).trans hx260_3; replace hx260_4 := (hc_ HB hx260_4).trans hx260_4; replace hx260_5 := (hc_ HB hx260_5).trans hx260_5; replace hx260_6 := (hc_ HB hx260_6).trans hx260_6; replace p260 := eq_true p260; replace q260 := eq_true q260; have p261 : 0 ≤ (x7_5 : Int) := od_; have q261 : x7_5 < (l0_4.length : Int) := od_; obtain ⟨ad261, e261, hx261_0, hx261_1, hx261_2, hx261_3, hx261_4, hx261_5, hx261_6⟩ := at_T56 HR0_4.1 x7_5 p261 q261; (obtain rfl : ad260 = ad261 := (by injection e261)); replace hx261_0 := (hc_ HB hx261_0).trans hx261_0; replace hx261_1 := (hc_ HB hx261_1).trans hx261_1; replace hx261_2 := (hc_ HB hx261_2).trans hx261_2; replace hx261_3 := (hc_ HB hx261_3).trans hx261_3; replace hx261_4 := (hc_ HB hx261_4).trans hx261_4; replace hx261_5 := (hc_ HB hx261_5).trans hx261_5; replace hx261_6 := (hc_ HB hx261_6).trans hx261_6; replace p261 := eq_true p261; replace q261 := eq_true q261; (go_wp2); (repeat (go_quiet (fail); try go_wp2)); (go_ret); (exact ⟨by rfl, hb_ HB⟩)
             rw [if_neg c49] at H
             have c49b0 := beq_eq_false_iff_ne.mpr c49; have c49b1 := bne_iff_ne.mpr c49; have H' := ak H; clear H; obtain ⟨hcz51_0, hcz51_1, hcz51_2, hcz51_3, hcz51_4, hfz51_0, hfz51_1, hfz51_2, hfz51_3, hfz51_4⟩ := cz5_ BK253; have p260 : 0 ≤ (x6_4 : Int) := od_; have q260 : x6_4 < (l0_4.length : Int) := od_; obtain ⟨ad260, e260, hx260_0, hx260_1, hx260_2, hx260_3, hx260_4, hx260_5, hx260_6⟩ := at_T56 HR0_4.1 x6_4 p260 q260; (cases e260); replace hx260_0 := (hc_ HB hx260_0).trans hx260_0; replace hx260_1 := (hc_ HB hx260_1).trans hx260_1; replace hx260_2 := (hc_ HB hx260_2).trans hx260_2; replace hx260_3 := (hc_ HB hx260_3).trans hx260_3; replace hx260_4 := (hc_ HB hx260_4).trans hx260_4; replace hx260_5 := (hc_ HB hx260_5).trans hx260_5; replace hx260_6 := (hc_ HB hx260_6).trans hx260_6; replace p260 := eq_true p260; replace q260 := eq_true q260; have p261 : 0 ≤ (x7_5 : Int) := od_; have q261 : x7_5 < (l0_4.length : Int) := od_; obtain ⟨ad261, e261, hx261_0, hx261_1, hx261_2, hx261_3, hx261_4, hx261_5, hx261_6⟩ := at_T56 HR0_4.1 x7_5 p261 q261; (obtain rfl : ad260 = ad261 := (by injection e261)); replace hx261_0 := (hc_ HB hx261_0).trans hx261_0; replace hx261_1 := (hc_ HB hx261_1).trans hx261_1; replace hx261_2 := (hc_ HB hx261_2).trans hx261_2; replace hx261_3 := (hc_ HB hx261_3).trans hx261_3; replace hx261_4 := (hc_ HB hx261_4).trans hx261_4; replace hx261_5 := (hc_ HB hx261_5).trans hx261_5; replace hx261_6 := (hc_ HB hx261_6).trans hx261_6; replace p261 := eq_true p261; replace q261 := eq_true q261; (go_wp2); (repeat (go_quiet (fail); try go_wp2)); (go_roundg k5)
             case measure => have := HK1.1; have := HJ11.1; have := HK3.1; have := HK4.1; have := HK5.1; omega
             case rel => exact ⟨(wrap64 (x7_5 + 1)), (by rfl), H', ⟨by have := HK1.1; have := HJ11.1; have := HK3.1; have := HK4.1; have := HK5.1; omega⟩, ⟨bk_ BK253⟩, ⟨hb_ HB⟩⟩
            rw [if_neg c48] at H; (exact absurd H (by simp))
           rw [if_neg c47] at H; (exact absurd H (by simp))
          rw [if_neg c46] at H; (exact absurd H (by simp))
         rw [if_neg c45] at H; (exact absurd H (by simp))
        rw [if_neg c44] at H
        have c44b0 := decide_eq_false c44; clear c44; have H' := ak H; clear H; (go_wp2); (go_roundg k5)
        case measure => have := HK1.1; have := HJ11.1; have := HK3.1; have := HK4.1; have := HK5.1; omega
        case rel => exact ⟨(wrap64 (x6_4 + 1)), (by rfl), H', ⟨by have := HK1.1; have := HJ11.1; have := HK3.1; have := HK4.1; have := HK5.1; omega⟩, ⟨bk_ BK253⟩, ⟨hb_ HB⟩⟩
      rw [if_neg c42] at H; have c42b0 := decide_eq_false c42; clear c42; obtain rfl := Option.some.inj H; obtain ⟨hcz52_0, hcz52_1, hcz52_2, hcz52_3, hcz52_4, hfz52_0, hfz52_1, hfz52_2, hfz52_3, hfz52_4⟩ := cz5_ BK253; (go_wp2); (go_ret); (exact ⟨by rfl, hb_ HB⟩)
    replace c40 := Bool.eq_false_iff.mpr c40; subst c40; (replace H : (some 6) = some r := by rw [if_neg (show ¬ (false = true) by decide)] at H; exact H); obtain rfl := Option.some.inj H; obtain ⟨hcz53_0, hcz53_1, hcz53_2, hcz53_3, hcz53_4, hfz53_0, hfz53_1, hfz53_2, hfz53_3, hfz53_4⟩ := cz5_ BK253; (go_wp2); (go_ret); (exact ⟨by rfl, hb_ HB⟩)

def rf_Small.f (k : Nat) (a0_0 : Int) (a0_1 : Int) (a0_2 : Int) (a0_3 : Int) (l0_4 : List (S56)) (a1 : Int) : Option (Bool) := if (l0_4.length : Int) > 8 then (some false) else ((rf_Check.f k a0_0 a0_1 a0_2 a0_3 l0_4).bind fun t263 => (if t263 = 0 then (if a0_0 ≤ a1 then (if a0_1 ≤ a1 then (some (decide (a0_2 ≤ a1))) else (some false)) else (some false)) else (some true)))
theorem rf_Small.mono : ∀ a0 a1 a2 a3 a4 a5 k, LeO (rf_Small.f k a0 a1 a2 a3 a4 a5) (rf_Small.f (k + 1) a0 a1 a2 a3 a4 a5) := by
  intro a0 a1 a2 a3 a4 a5 k
  unfold rf_Small.f
  repeat' first
      | (with_reducible exact rf_Check.mono _ _ _ _ _ _)
      | (with_reducible exact LeO.refl _)
      | (with_reducible refine LeO.ite ?_ ?_)
      | (with_reducible refine LeO.bind ?_ (fun _ => ?_))
set_option maxHeartbeats 8000000 in
set_option maxRecDepth 100000 in
theorem rf_Small.calls (k : Nat) (a0_0 : Int) (a0_1 : Int) (a0_2 : Int) (a0_3 : Int) (A0_4 : Option Addr) (c0_4 : Nat) (l0_4 : List (S56)) (a1 : Int) (r : Bool) (w : World) (hr0_4 : Kd.C k56 w A0_4 l0_4.length l0_4) (hc0_4 : l0_4.length ≤ c0_4) (h : rf_Small.f k a0_0 a0_1 a0_2 a0_3 l0_4 a1 = some r) :
    Calls Try.prog 11 #[.agg #[.int .i64 a0_0, .int .i64 a0_1, .int .i64 a0_2, .int .i64 a0_3, .slice A0_4 l0_4.length c0_4], .int .i64 a1] w fun e w' => e = .returned (.bool r) ∧ Below w.heap.size w w' := by
  have hu26 := Try.underlying26
  have HR0_4 := ak hr0_4
  have HC0_4 := ak hc0_4
  clear hr0_4 hc0_4
  have HB := ak (Below.refl w.heap.size w)
  have H : (if (l0_4.length : Int) > 8 then (some false) else ((rf_Check.f k a0_0 a0_1 a0_2 a0_3 l0_4).bind fun t263 => (if t263 = 0 then (if a0_0 ≤ a1 then (if a0_1 ≤ a1 then (some (decide (a0_2 ≤ a1))) else (some false)) else (some false)) else (some true)))) = some r := h
  clear h
  by_cases c3 : (l0_4.length : Int) > 8
  · rw [if_pos c3] at H
    have c3b0 : decide (8 < (l0_4.length : Int)) = true := decide_eq_true c3
    have c3b1 : decide (8 < l0_4.length) = true := decide_eq_true (by omega)
    clear c3
    obtain rfl := Option.some.inj H
    go_enter Try.func11, Try.ntmps11
    go_wp2_with (first | ((with_reducible refine gate_dst (N := 2) rfl ?_); refine bx_ 2 #[.int .i64 a0_0, .int .i64 a0_1, .int .i64 a0_2, .int .i64 a0_3, .slice A0_4 l0_4.length c0_4] 26 ?_; intro gb262 hg w4 hbox hb; have n0_ := ak (below_step HB.1 hb); have n1_ := ak (hbox); have n2_ := ak ((by rw [hg]; exact (below_size HB.1) : w.heap.size ≤ gb262)); have n3_ := ak ((by rw [hg]; exact (below_size HB.1) : w.heap.size ≤ gb262)); clear HB; have HB := n0_; have BK262 := n1_; have GW262 := n2_; have GE262 := n3_; clear n0_ n1_ n2_ n3_; clear hb hbox hg; have hcz5_0 : w4.cell? ⟨gb262, 0, none⟩ = some (.int .i64 a0_0) := bc_ BK262 0; have hcz5_1 : w4.cell? ⟨gb262, 1, none⟩ = some (.int .i64 a0_1) := bc_ BK262 1; have hcz5_2 : w4.cell? ⟨gb262, 2, none⟩ = some (.int .i64 a0_2) := bc_ BK262 2; have hcz5_3 : w4.cell? ⟨gb262, 3, none⟩ = some (.int .i64 a0_3) := bc_ BK262 3; have hcz5_4 : w4.cell? ⟨gb262, 4, none⟩ = some (.slice A0_4 l0_4.length c0_4) := bc_ BK262 4; have hfz5_0 := blk_frozen BK262.1 0; have hfz5_1 := blk_frozen BK262.1 1; have hfz5_2 := blk_frozen BK262.1 2; have hfz5_3 := blk_frozen BK262.1 3; have hfz5_4 := blk_frozen BK262.1 4))
    go_ret
    exact ⟨by rfl, by repeat (with_reducible exact HB.1)⟩
  rw [if_neg c3] at H
  have c3b0 : decide (8 < (l0_4.length : Int)) = false := decide_eq_false c3
  have c3b1 : decide (8 < l0_4.length) = false := decide_eq_false (by omega)
  clear c3
  replace H := Option.bind_eq_some_iff.mp H
  obtain ⟨t263, A60, H⟩ := H
  (try dsimp only at H)
  have A6 := ak A60
  clear A60
  by_cases c7 : t263 = 0
  · rw [if_pos c7] at H
    have c7b0 : (t263 == 0) = true := beq_iff_eq.mpr c7
    have c7b1 : (t263 != 0) = false := bne_eq_false_iff_eq.mpr c7
    clear c7
    by_cases c8 : a0_0 ≤ a1
    · rw [if_pos c8] at H
      have c8b0 : decide (a0_0 ≤ a1) = true := decide_eq_true c8
      clear c8
      by_cases c9 : a0_1 ≤ a1
      · rw [if_pos c9] at H
        have c9b0 : decide (a0_1 ≤ a1) = true := decide_eq_true c9
        clear c9
        obtain rfl := Option.some.inj H
        go_enter Try.func11, Try.ntmps11
        go_wp2_with (first | ((with_reducible refine gate_dst (N := 2) rfl ?_); refine bx_ 2 #[.int .i64 a0_0, .int .i64 a0_1, .int .i64 a0_2, .int .i64 a0_3, .slice A0_4 l0_4.length c0_4] 26 ?_; intro gb262 hg w10 hbox hb; have n0_ := ak (below_step HB.1 hb); have n1_ := ak (hbox); have n2_ := ak ((by rw [hg]; exact (below_size HB.1) : w.heap.size ≤ gb262)); have n3_ := ak ((by rw [hg]; exact (below_size HB.1) : w.heap.size ≤ gb262)); clear HB; have HB := n0_; have BK262 := n1_; have GW262 := n2_; have GE262 := n3_; clear n0_ n1_ n2_ n3_; clear hb hbox hg; have hcz11_0 : w10.cell? ⟨gb262, 0, none⟩ = some (.int .i64 a0_0) := bc_ BK262 0; have hcz11_1 : w10.cell? ⟨gb262, 1, none⟩ = some (.int .i64 a0_1) := bc_ BK262 1; have hcz11_2 : w10.cell? ⟨gb262, 2, none⟩ = some (.int .i64 a0_2) := bc_ BK262 2; have hcz11_3 : w10.cell? ⟨gb262, 3, none⟩ = some (.int .i64 a0_3) := bc_ BK262 3; have hcz11_4 : w10.cell? ⟨gb262, 4, none⟩ = some (.slice A0_4 l0_4.length c0_4) := bc_ BK262 4; have hfz11_0 := blk_frozen BK262.1 0; have hfz11_1 := blk_frozen BK262.1 1; have hfz11_2 := blk_frozen BK262.1 2; have hfz11_3 := blk_frozen BK262.1 3; have hfz11_4 := blk_frozen BK262.1 4) | ((with_reducible refine gate_callee (f := 13) rfl ?_); refine gl_ 10 Try.func13 #[.agg #[.int .i64 a0_0, .int .i64 a0_1, .int .i64 a0_2, .int .i64 a0_3, .slice A0_4 l0_4.length c0_4]] ?_; (with_reducible refine (rf_Check.calls k a0_0 a0_1 a0_2 a0_3 _ _ l0_4 t263 _ ?side1 ?side2 A6.1).mono ?_); (case side1 => exact (Kd.C_below HR0_4.1 HB.1)); (case side2 => exact HC0_4.1); rintro e w12 ⟨rfl, hb⟩; refine ⟨_, rfl, ?_⟩; have n0_ := ak (blk_below (g := gb262) (o := .cells #[.int .i64 a0_0, .int .i64 a0_1, .int .i64 a0_2, .int .i64 a0_3, .slice A0_4 l0_4.length c0_4] 26 (0, 0)) (by exact BK262.1) hb); have n1_ := ak (below_step HB.1 hb); clear BK262; clear HB; have BK262 := n0_; have HB := n1_; clear n0_ n1_; (try clear hb); have hcz13_0 : w12.cell? ⟨gb262, 0, none⟩ = some (.int .i64 a0_0) := bc_ BK262 0; have hcz13_1 : w12.cell? ⟨gb262, 1, none⟩ = some (.int .i64 a0_1) := bc_ BK262 1; have hcz13_2 : w12.cell? ⟨gb262, 2, none⟩ = some (.int .i64 a0_2) := bc_ BK262 2; have hcz13_3 : w12.cell? ⟨gb262, 3, none⟩ = some (.int .i64 a0_3) := bc_ BK262 3; have hcz13_4 : w12.cell? ⟨gb262, 4, none⟩ = some (.slice A0_4 l0_4.length c0_4) := bc_ BK262 4; have hfz13_0 := blk_frozen BK262.1 0; have hfz13_1 := blk_frozen BK262.1 1; have hfz13_2 := blk_frozen BK262.1 2; have hfz13_3 := blk_frozen BK262.1 3; have hfz13_4 := blk_frozen BK262.1 4))
        go_ret
        exact ⟨by rfl, by repeat (with_reducible exact HB.1)⟩
      rw [if_neg c9] at H
      have c9b0 : decide (a0_1 ≤ a1) = false := decide_eq_false c9
      clear c9
      obtain rfl := Option.some.inj H
      go_enter Try.func11, Try.ntmps11
      go_wp2_with (first | ((with_reducible refine gate_dst (N := 2) rfl ?_); refine bx_ 2 #[.int .i64 a0_0, .int .i64 a0_1, .int .i64 a0_2, .int .i64 a0_3, .slice A0_4 l0_4.length c0_4] 26 ?_; intro gb262 hg w14 hbox hb; have n0_ := ak (below_step HB.1 hb); have n1_ := ak (hbox); have n2_ := ak ((by rw [hg]; exact (below_size HB.1) : w.heap.size ≤ gb262)); have n3_ := ak ((by rw [hg]; exact (below_size HB.1) : w.heap.size ≤ gb262)); clear HB; have HB := n0_; have BK262 := n1_; have GW262 := n2_; have GE262 := n3_; clear n0_ n1_ n2_ n3_; clear hb hbox hg; have hcz15_0 : w14.cell? ⟨gb262, 0, none⟩ = some (.int .i64 a0_0) := bc_ BK262 0; have hcz15_1 : w14.cell? ⟨gb262, 1, none⟩ = some (.int .i64 a0_1) := bc_ BK262 1; have hcz15_2 : w14.cell? ⟨gb262, 2, none⟩ = some (.int .i64 a0_2) := bc_ BK262 2; have hcz15_3 : w14.cell? ⟨gb262, 3, none⟩ = some (.int .i64 a0_3) := bc_ BK262 3; have hcz15_4 : w14.cell? ⟨gb262, 4, none⟩ = some (.slice A0_4 l0_4.length c0_4) := bc_ BK262 4; have hfz15_0 := blk_frozen BK262.1 0; have hfz15_1 := blk_frozen BK262.1 1; have hfz15_2 := blk_frozen BK262.1 2; have hfz15_3 := blk_frozen BK262.1 3; have hfz15_4 := blk_frozen BK262.1 4) | ((with_reducible refine gate_callee (f := 13) rfl ?_); refine gl_ 10 Try.func13 #[.agg #[.int .i64 a0_0, .int .i64 a0_1, .int .i64 a0_2, .int .i64 a0_3, .slice A0_4 l0_4.length c0_4]] ?_; (with_reducible refine (rf_Check.calls k a0_0 a0_1 a0_2 a0_3 _ _ l0_4 t263 _ ?side1 ?side2 A6.1).mono ?_); (case side1 => exact (Kd.C_below HR0_4.1 HB.1)); (case side2 => exact HC0_4.1); rintro e w16 ⟨rfl, hb⟩; refine ⟨_, rfl, ?_⟩; have n0_ := ak (blk_below (g := gb262) (o := .cells #[.int .i64 a0_0, .int .i64 a0_1, .int .i64 a0_2, .int .i64 a0_3, .slice A0_4 l0_4.length c0_4] 26 (0, 0)) (by exact BK262.1) hb); have n1_ := ak (below_step HB.1 hb); clear BK262; clear HB; have BK262 := n0_; have HB := n1_; clear n0_ n1_; (try clear hb); have hcz17_0 : w16.cell? ⟨gb262, 0, none⟩ = some (.int .i64 a0_0) := bc_ BK262 0; have hcz17_1 : w16.cell? ⟨gb262, 1, none⟩ = some (.int .i64 a0_1) := bc_ BK262 1; have hcz17_2 : w16.cell? ⟨gb262, 2, none⟩ = some (.int .i64 a0_2) := bc_ BK262 2; have hcz17_3 : w16.cell? ⟨gb262, 3, none⟩ = some (.int .i64 a0_3) := bc_ BK262 3; have hcz17_4 : w16.cell? ⟨gb262, 4, none⟩ = some (.slice A0_4 l0_4.length c0_4) := bc_ BK262 4; have hfz17_0 := blk_frozen BK262.1 0; have hfz17_1 := blk_frozen BK262.1 1; have hfz17_2 := blk_frozen BK262.1 2; have hfz17_3 := blk_frozen BK262.1 3; have hfz17_4 := blk_frozen BK262.1 4))
      go_ret
      exact ⟨by rfl, by repeat (with_reducible exact HB.1)⟩
    rw [if_neg c8] at H
    have c8b0 : decide (a0_0 ≤ a1) = false := decide_eq_false c8
    clear c8
    obtain rfl := Option.some.inj H
    go_enter Try.func11, Try.ntmps11
    go_wp2_with (first | ((with_reducible refine gate_dst (N := 2) rfl ?_); refine bx_ 2 #[.int .i64 a0_0, .int .i64 a0_1, .int .i64 a0_2, .int .i64 a0_3, .slice A0_4 l0_4.length c0_4] 26 ?_; intro gb262 hg w18 hbox hb; have n0_ := ak (below_step HB.1 hb); have n1_ := ak (hbox); have n2_ := ak ((by rw [hg]; exact (below_size HB.1) : w.heap.size ≤ gb262)); have n3_ := ak ((by rw [hg]; exact (below_size HB.1) : w.heap.size ≤ gb262)); clear HB; have HB := n0_; have BK262 := n1_; have GW262 := n2_; have GE262 := n3_; clear n0_ n1_ n2_ n3_; clear hb hbox hg; have hcz19_0 : w18.cell? ⟨gb262, 0, none⟩ = some (.int .i64 a0_0) := bc_ BK262 0; have hcz19_1 : w18.cell? ⟨gb262, 1, none⟩ = some (.int .i64 a0_1) := bc_ BK262 1; have hcz19_2 : w18.cell? ⟨gb262, 2, none⟩ = some (.int .i64 a0_2) := bc_ BK262 2; have hcz19_3 : w18.cell? ⟨gb262, 3, none⟩ = some (.int .i64 a0_3) := bc_ BK262 3; have hcz19_4 : w18.cell? ⟨gb262, 4, none⟩ = some (.slice A0_4 l0_4.length c0_4) := bc_ BK262 4; have hfz19_0 := blk_frozen BK262.1 0; have hfz19_1 := blk_frozen BK262.1 1; have hfz19_2 := blk_frozen BK262.1 2; have hfz19_3 := blk_frozen BK262.1 3; have hfz19_4 := blk_frozen BK262.1 4) | ((with_reducible refine gate_callee (f := 13) rfl ?_); refine gl_ 10 Try.func13 #[.agg #[.int .i64 a0_0, .int .i64 a0_1, .int .i64 a0_2, .int .i64 a0_3, .slice A0_4 l0_4.length c0_4]] ?_; (with_reducible refine (rf_Check.calls k a0_0 a0_1 a0_2 a0_3 _ _ l0_4 t263 _ ?side1 ?side2 A6.1).mono ?_); (case side1 => exact (Kd.C_below HR0_4.1 HB.1)); (case side2 => exact HC0_4.1); rintro e w20 ⟨rfl, hb⟩; refine ⟨_, rfl, ?_⟩; have n0_ := ak (blk_below (g := gb262) (o := .cells #[.int .i64 a0_0, .int .i64 a0_1, .int .i64 a0_2, .int .i64 a0_3, .slice A0_4 l0_4.length c0_4] 26 (0, 0)) (by exact BK262.1) hb); have n1_ := ak (below_step HB.1 hb); clear BK262; clear HB; have BK262 := n0_; have HB := n1_; clear n0_ n1_; (try clear hb); have hcz21_0 : w20.cell? ⟨gb262, 0, none⟩ = some (.int .i64 a0_0) := bc_ BK262 0; have hcz21_1 : w20.cell? ⟨gb262, 1, none⟩ = some (.int .i64 a0_1) := bc_ BK262 1; have hcz21_2 : w20.cell? ⟨gb262, 2, none⟩ = some (.int .i64 a0_2) := bc_ BK262 2; have hcz21_3 : w20.cell? ⟨gb262, 3, none⟩ = some (.int .i64 a0_3) := bc_ BK262 3; have hcz21_4 : w20.cell? ⟨gb262, 4, none⟩ = some (.slice A0_4 l0_4.length c0_4) := bc_ BK262 4; have hfz21_0 := blk_frozen BK262.1 0; have hfz21_1 := blk_frozen BK262.1 1; have hfz21_2 := blk_frozen BK262.1 2; have hfz21_3 := blk_frozen BK262.1 3; have hfz21_4 := blk_frozen BK262.1 4))
    go_ret
    exact ⟨by rfl, by repeat (with_reducible exact HB.1)⟩
  rw [if_neg c7] at H
  have c7b0 : (t263 == 0) = false := beq_eq_false_iff_ne.mpr c7
  have c7b1 : (t263 != 0) = true := bne_iff_ne.mpr c7
  obtain rfl := Option.some.inj H
  go_enter Try.func11, Try.ntmps11
  go_wp2_with (first | ((with_reducible refine gate_dst (N := 2) rfl ?_); refine bx_ 2 #[.int .i64 a0_0, .int .i64 a0_1, .int .i64 a0_2, .int .i64 a0_3, .slice A0_4 l0_4.length c0_4] 26 ?_; intro gb262 hg w22 hbox hb; have n0_ := ak (below_step HB.1 hb); have n1_ := ak (hbox); have n2_ := ak ((by rw [hg]; exact (below_size HB.1) : w.heap.size ≤ gb262)); have n3_ := ak ((by rw [hg]; exact (below_size HB.1) : w.heap.size ≤ gb262)); clear HB; have HB := n0_; have BK262 := n1_; have GW262 := n2_; have GE262 := n3_; clear n0_ n1_ n2_ n3_; clear hb hbox hg; have hcz23_0 : w22.cell? ⟨gb262, 0, none⟩ = some (.int .i64 a0_0) := bc_ BK262 0; have hcz23_1 : w22.cell? ⟨gb262, 1, none⟩ = some (.int .i64 a0_1) := bc_ BK262 1; have hcz23_2 : w22.cell? ⟨gb262, 2, none⟩ = some (.int .i64 a0_2) := bc_ BK262 2; have hcz23_3 : w22.cell? ⟨gb262, 3, none⟩ = some (.int .i64 a0_3) := bc_ BK262 3; have hcz23_4 : w22.cell? ⟨gb262, 4, none⟩ = some (.slice A0_4 l0_4.length c0_4) := bc_ BK262 4; have hfz23_0 := blk_frozen BK262.1 0; have hfz23_1 := blk_frozen BK262.1 1; have hfz23_2 := blk_frozen BK262.1 2; have hfz23_3 := blk_frozen BK262.1 3; have hfz23_4 := blk_frozen BK262.1 4) | ((with_reducible refine gate_callee (f := 13) rfl ?_); refine gl_ 10 Try.func13 #[.agg #[.int .i64 a0_0, .int .i64 a0_1, .int .i64 a0_2, .int .i64 a0_3, .slice A0_4 l0_4.length c0_4]] ?_; (with_reducible refine (rf_Check.calls k a0_0 a0_1 a0_2 a0_3 _ _ l0_4 t263 _ ?side1 ?side2 A6.1).mono ?_); (case side1 => exact (Kd.C_below HR0_4.1 HB.1)); (case side2 => exact HC0_4.1); rintro e w24 ⟨rfl, hb⟩; refine ⟨_, rfl, ?_⟩; have n0_ := ak (blk_below (g := gb262) (o := .cells #[.int .i64 a0_0, .int .i64 a0_1, .int .i64 a0_2, .int .i64 a0_3, .slice A0_4 l0_4.length c0_4] 26 (0, 0)) (by exact BK262.1) hb); have n1_ := ak (below_step HB.1 hb); clear BK262; clear HB; have BK262 := n0_; have HB := n1_; clear n0_ n1_; (try clear hb)))
  go_ret
  exact ⟨by rfl, by repeat (with_reducible exact HB.1)⟩

end Go.Proofs.Ytgacodhpniehiaa.XA
