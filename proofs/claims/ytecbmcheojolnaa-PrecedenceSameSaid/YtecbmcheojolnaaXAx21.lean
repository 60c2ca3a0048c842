-- written by xprint.py, this project's own program (wip/), over the words of print.sh
import Derived.Test.YtecbmcheojolnaaXAx0
import Derived.Test.YtecbmcheojolnaaFlat
namespace Go.Proofs.Ytecbmcheojolnaa.XA
open Go.Proofs.Ytecbmcheojolnaa.Flat Go.RowKit Go.Proofs.Ytecbmcheojolnaa.Opens Go.Proofs.YtecbmcheojolnaaW.PrintWords Go.Proofs.YtecbmcheojolnaaW.PrintLast Go.Proofs.YtecbmcheojolnaaW.PrintMore
attribute [local go_sem] max2_int min2_int max_two min_two max_three min_three max_four min_four cell_some cell_same   -- for this text's walks alone
set_option linter.unusedVariables false
set_option linter.unusedSimpArgs false

/-! ### rf_Same: function 20 -/
mutual
def rf_Same.j0 : Nat → Bool → Int → List (S47) → Int → List (S47) → Option (Bool)
 | 0, _, _, _, _, _ => none
 | k + 1, x19, x265000, x265001, x266000, x266001 => if x19 = true then (some false) else (rf_Same.l0 k 0 x265000 x265001 x266000 x266001)
def rf_Same.l0 : Nat → Int → Int → List (S47) → Int → List (S47) → Option (Bool)
 | 0, _, _, _, _, _ => none
 | k + 1, x5, x265000, x265001, x266000, x266001 => if x5 < (x265001.length : Int) then (if 0 ≤ x5 then (if x5 < (x266001.length : Int) then (if ((rd_T47 x265001 x5).f0) = ((rd_T47 x266001 x5).f0) then (if ((rd_T47 x265001 x5).f1) = ((rd_T47 x266001 x5).f1) then (rf_Same.l0 k (wrap64 (x5 + 1)) x265000 x265001 x266000 x266001) else (some false)) else (some false)) else (none)) else (none)) else (some true)
end
def rf_Same.f (k : Nat) (a0_0 : Int) (l0_1 : List (S47)) (a1_0 : Int) (l1_1 : List (S47)) : Option (Bool) := if a0_0 = a1_0 then (rf_Same.j0 k ((l0_1.length : Int) != (l1_1.length : Int)) a0_0 l0_1 a1_0 l1_1) else (rf_Same.j0 k true a0_0 l0_1 a1_0 l1_1)
theorem rf_Same.mono_l : ∀ k, (∀ y0 y1 y2 y3 y4, LeO (rf_Same.j0 k y0 y1 y2 y3 y4) (rf_Same.j0 (k + 1) y0 y1 y2 y3 y4)) ∧ (∀ y0 y1 y2 y3 y4, LeO (rf_Same.l0 k y0 y1 y2 y3 y4) (rf_Same.l0 (k + 1) y0 y1 y2 y3 y4))
 | 0 => ⟨fun _ _ _ _ _ r h => by simp [rf_Same.j0] at h, fun _ _ _ _ _ r h => by simp [rf_Same.l0] at h⟩
 | k + 1 => by
  obtain ⟨ih0, ih1⟩ := rf_Same.mono_l k; refine ⟨?_, ?_⟩; (all_goals (intros; (first | unfold rf_Same.j0 | unfold rf_Same.l0)))
  all_goals (repeat' first
   | (with_reducible exact ih1 _ _ _ _ _)
   | (with_reducible exact LeO.refl _)
   | (with_reducible refine LeO.ite ?_ ?_)
   )
theorem rf_Same.mono : ∀ a0 a1 a2 a3 k, LeO (rf_Same.f k a0 a1 a2 a3) (rf_Same.f (k + 1) a0 a1 a2 a3) := by
 intro a0 a1 a2 a3 k
 obtain ⟨ih0, ih1⟩ := rf_Same.mono_l k
 unfold rf_Same.f
 repeat' first
   | (with_reducible exact ih0 _ _ _ _ _)
   | (with_reducible refine LeO.ite ?_ ?_)
   
set_option maxHeartbeats 8000000 in
set_option maxRecDepth 100000 in
theorem rf_Same.calls (k : Nat) (a0_0 : Int) (A0_1 : Option Addr) (c0_1 : Nat) (l0_1 : List (S47)) (a1_0 : Int) (A1_1 : Option Addr) (c1_1 : Nat) (l1_1 : List (S47)) (r : Bool) (w : World) (hr0_1 : Kd.C k47 w A0_1 l0_1.length l0_1) (hc0_1 : l0_1.length ≤ c0_1) (hr1_1 : Kd.C k47 w A1_1 l1_1.length l1_1) (hc1_1 : l1_1.length ≤ c1_1) (h : rf_Same.f k a0_0 l0_1 a1_0 l1_1 = some r) :
  Calls Try.prog 20 #[.agg #[.int .i64 a0_0, .slice A0_1 l0_1.length c0_1], .agg #[.int .i64 a1_0, .slice A1_1 l1_1.length c1_1]] w fun e w' => e = .returned (.bool r) ∧ Below w.heap.size w w' := by
 have hu24 := Try.underlying24
 have hu47 := Try.underlying47
 have HR0_1 := ak hr0_1
 have HC0_1 := ak hc0_1
 clear hr0_1 hc0_1
 have HR1_1 := ak hr1_1
 have HC1_1 := ak hc1_1
 clear hr1_1 hc1_1
 have HB := ak (Below.refl w.heap.size w)
 have H : (if a0_0 = a1_0 then (rf_Same.j0 k ((l0_1.length : Int) != (l1_1.length : Int)) a0_0 l0_1 a1_0 l1_1) else (rf_Same.j0 k true a0_0 l0_1 a1_0 l1_1)) = some r := h
 clear h
 have HC3 := ak H
 clear H
 go_enter Try.func20, Try.ntmps20
 go_upto_region 1 with (first | ((with_reducible refine gate_dst (N := 2) rfl ?_); refine box_event ?hg (N := 2) ?hd (cs := #[.int .i64 a0_0, .slice A0_1 l0_1.length c0_1]) (t := 24) ?hr ?_; (case hd => rfl); (case hg => rfl); (case hr => (go_simp; done)); intro gb264 hg w4 hbox hb; have BK264 := ak (hbox); have GW264 := gw_ HB hg; have GE264 := gw_ HB hg; replace HB := hs_ HB hb; clear hb hbox hg) | ((with_reducible refine gate_dst (N := 3) rfl ?_); refine box_event ?hg (N := 3) ?hd (cs := #[.int .i64 a1_0, .slice A1_1 l1_1.length c1_1]) (t := 24) ?hr ?_; (case hd => rfl); (case hg => rfl); (case hr => (go_simp; done)); intro gb265 hg w5 hbox hb; have BK265 := ak (hbox); have GW265 := gw_ HB hg; have GE265 := gw_ HB hg; replace HB := hs_ HB hb; have NB264_265 := nl_ BK264 hg; have NB265_264 := nr_ BK264 hg; replace BK264 := bb_ BK264 hb; clear hb hbox hg))
 go_cut [19] (fun v19 wc => ∃ (kq : Nat) (x19_2 : Bool), v19 = .bool x19_2 ∧ Aside0 (rf_Same.j0 kq x19_2 a0_0 l0_1 a1_0 l1_1 = some r) ∧ Aside0 (kq ≤ k) ∧ Aside0 (wc.heap[gb264]? = some (.cells #[.int .i64 a0_0, (.slice A0_1 l0_1.length c0_1)] 24 (0, 0))) ∧ Aside0 (wc.heap[gb265]? = some (.cells #[.int .i64 a1_0, (.slice A1_1 l1_1.length c1_1)] 24 (0, 0))) ∧ Aside0 (Below w.heap.size w wc))
 case first =>
  have H := HC3.1; clear HC3; (by_cases c6 : a0_0 = a1_0)
  ·rw [if_pos c6] at H
   have c6b0 := beq_iff_eq.mpr c6; have c6b1 := bne_eq_false_iff_eq.mpr c6; clear c6; have H' := ak H; clear H; have hnb7 := NB264_265.1; have hnc7 := NB265_264.1; obtain ⟨hcz8_0, hcz8_1, hfz8_0, hfz8_1⟩ := cz2_ BK264; obtain ⟨hcz9_0, hcz9_1, hfz9_0, hfz9_1⟩ := cz2_ BK265; (go_wp2); (go_meet)
   case rel => exact ⟨_, (((l0_1.length : Int) != (l1_1.length : Int))), (by rfl), H', ⟨by omega⟩, ⟨bk_ BK264⟩, ⟨bk_ BK265⟩, ⟨hb_ HB⟩⟩
  rw [if_neg c6] at H
  have c6b0 := beq_eq_false_iff_ne.mpr c6; have c6b1 := bne_iff_ne.mpr c6; have H' := ak H; clear H; have hnb10 := NB264_265.1; have hnc10 := NB265_264.1; obtain ⟨hcz11_0, hcz11_1, hfz11_0, hfz11_1⟩ := cz2_ BK264; obtain ⟨hcz12_0, hcz12_1, hfz12_0, hfz12_1⟩ := cz2_ BK265; (go_wp2); (go_meet)
  case rel => exact ⟨_, (true), (by rfl), H', ⟨by omega⟩, ⟨bk_ BK264⟩, ⟨bk_ BK265⟩, ⟨hb_ HB⟩⟩
 clear HC3; obtain ⟨kq, x19_2, rfl, HA, HJ2, BK264, BK265, HB⟩ := hcut
 cases kq with
 | zero => exact absurd HA.1 (by simp [rf_Same.j0])
 | succ kj2 =>
  have H := HA.1; clear HA; simp only [rf_Same.j0] at H; (by_cases c13 : x19_2 = true)
  ·subst c13; (have H1 : (some false) = some r := by rw [if_pos rfl] at H; exact H); clear H; have H := H1; clear H1; obtain rfl := Option.some.inj H; (go_wp2); (go_ret); (exact ⟨by rfl, hb_ HB⟩)
  replace c13 := Bool.eq_false_iff.mpr c13
  subst c13; (have H1 : (rf_Same.l0 kj2 0 a0_0 l0_1 a1_0 l1_1) = some r := by rw [if_neg (show ¬ (false = true) by decide)] at H; exact H); clear H; have H := H1; clear H1; have H' := ak H; clear H; (go_wp2); (go_loopg [5] kj2 (fun kq v5 w' => ∃ (x5_2 : Int), v5 = .int .i64 x5_2 ∧ Aside0 (rf_Same.l0 kq x5_2 a0_0 l0_1 a1_0 l1_1 = some r) ∧ Aside0 (kq ≤ kj2) ∧ Aside0 (w'.heap[gb264]? = some (.cells #[.int .i64 a0_0, (.slice A0_1 l0_1.length c0_1)] 24 (0, 0))) ∧ Aside0 (w'.heap[gb265]? = some (.cells #[.int .i64 a1_0, (.slice A1_1 l1_1.length c1_1)] 24 (0, 0))) ∧ Aside0 (Below w.heap.size w w')))
  case atStart => exact ⟨(0), (by rfl), H', ⟨Nat.le_refl _⟩, ⟨bk_ BK264⟩, ⟨bk_ BK265⟩, ⟨hb_ HB⟩⟩
  clear H'; obtain ⟨x5_2, rfl, HA, HK2, BK264, BK265, HB⟩ := hrel
  cases gk with
  | zero => exact absurd HA.1 (by simp [rf_Same.l0])
  | succ k2 =>
   have H := HA.1; clear HA; simp only [rf_Same.l0] at H; (by_cases c14 : x5_2 < (l0_1.length : Int))
   ·rw [if_pos c14] at H
    have c14b0 := decide_eq_true c14; clear c14; (by_cases c15 : 0 ≤ x5_2)
    ·rw [if_pos c15] at H
     have c15b0 := decide_eq_true c15; clear c15; (by_cases c16 : x5_2 < (l1_1.length : Int))
     ·rw [if_pos c16] at H
      have c16b0 := decide_eq_true c16; clear c16; (by_cases c17 : ((rd_T47 l0_1 x5_2).f0) = ((rd_T47 l1_1 x5_2).f0))
      ·rw [if_pos c17] at H
       have c17b0 := beq_iff_eq.mpr c17; have c17b1 := bne_eq_false_iff_eq.mpr c17; clear c17; (by_cases c18 : ((rd_T47 l0_1 x5_2).f1) = ((rd_T47 l1_1 x5_2).f1))
       ·rw [if_pos c18] at H
        have c18b0 := beq_iff_eq.mpr c18; have c18b1 := bne_eq_false_iff_eq.mpr c18; clear c18; have H' := ak H; clear H; have hnb19 := NB264_265.1; have hnc19 := NB265_264.1; obtain ⟨hcz20_0, hcz20_1, hfz20_0, hfz20_1⟩ := cz2_ BK264; have p266 : 0 ≤ (x5_2 : Int) := od_; have q266 : x5_2 < (l0_1.length : Int) := od_; obtain ⟨ad266, e266, hx266_0, hx266_1⟩ := at_T47 HR0_1.1 x5_2 p266 q266; (cases e266); replace hx266_0 := (hc_ HB hx266_0).trans hx266_0; replace hx266_1 := (hc_ HB hx266_1).trans hx266_1; replace p266 := eq_true p266; replace q266 := eq_true q266; obtain ⟨hcz21_0, hcz21_1, hfz21_0, hfz21_1⟩ := cz2_ BK265; have p267 : 0 ≤ (x5_2 : Int) := od_; have q267 : x5_2 < (l1_1.length : Int) := od_; obtain ⟨ad267, e267, hx267_0, hx267_1⟩ := at_T47 HR1_1.1 x5_2 p267 q267; (cases e267); replace hx267_0 := (hc_ HB hx267_0).trans hx267_0; replace hx267_1 := (hc_ HB hx267_1).trans hx267_1; replace p267 := eq_true p267; replace q267 := eq_true q267; have p268 : 0 ≤ (x5_2 : Int) := od_; have q268 : x5_2 < (l0_1.length : Int) := od_; obtain ⟨ad268, e268, hx268_0, hx268_1⟩ := at_T47 HR0_1.1 x5_2 p268 q268; (obtain rfl : ad266 = ad268 := (by injection e268)); replace hx268_0 := (hc_ HB hx268_0).trans hx268_0; replace hx268_1 := (hc_ HB hx268_1).trans hx268_1; replace p268 := eq_true p268; replace q268 := eq_true q268; have p269 : 0 ≤ (x5_2 : Int) := od_; have q269 : x5_2 < (l1_1.length : Int) := od_; obtain ⟨ad269, e269, hx269_0, hx269_1⟩ := at_T47 HR1_1.1 x5_2 p269 q269; (obtain rfl : ad267 = ad269 := (by injection e269)); replace hx269_0 := (hc_ HB hx269_0).trans hx269_0; replace hx269_1 := (hc_ HB hx269_1).trans hx269_1; replace p269 := eq_true p269; replace q269 := eq_true q269; (go_wp2); (repeat (go_quiet (fail); try go_wp2)); (go_roundg k2)
        case measure => have := HJ2.1; have := HK2.1; omega
        case rel => exact ⟨(wrap64 (x5_2 + 1)), (by rfl), H', ⟨by have := HJ2.1; have := HK2.1; omega⟩, ⟨bk_ BK264⟩, ⟨bk_ BK265⟩, ⟨hb_ HB⟩⟩
       rw [if_neg c18] at H
       have c18b0 := beq_eq_false_iff_ne.mpr c18; have c18b1 := bne_iff_ne.mpr c18; obtain rfl := Option.some.inj H; have hnb22 := NB264_265.1; have hnc22 := NB265_264.1; obtain ⟨hcz23_0, hcz23_1, hfz23_0, hfz23_1⟩ := cz2_ BK264; have p266 : 0 ≤ (x5_2 : Int) := od_; have q266 : x5_2 < (l0_1.length : Int) := od_; obtain ⟨ad266, e266, hx266_0, hx266_1⟩ := at_T47 HR0_1.1 x5_2 p266 q266; (cases e266); replace hx266_0 := (hc_ HB hx266_0).trans hx266_0; replace hx266_1 := (hc_ HB hx266_1).trans hx266_1; replace p266 := eq_true p266; replace q266 := eq_true q266; obtain ⟨hcz24_0, hcz24_1, hfz24_0, hfz24_1⟩ := cz2_ BK265; have p267 : 0 ≤ (x5_2 : Int) := od_; have q267 : x5_2 < (l1_1.length : Int) := od_; obtain ⟨ad267, e267, hx267_0, hx267_1⟩ := at_T47 HR1_1.1 x5_2 p267 q267; (cases e267); replace hx267_0 := (hc_ HB hx267_0).trans hx267_0; replace hx267_1 := (hc_ HB hx267_1).trans hx267_1; replace p267 := eq_true p267; replace q267 := eq_true q267; have p268 : 0 ≤ (x5_2 : Int) := od_; have q268 : x5_2 < (l0_1.length : Int) := od_; obtain ⟨ad268, e268, hx268_0, hx268_1⟩ := at_T47 HR0_1.1 x5_2 p268 q268; (obtain rfl : ad266 = ad268 := (by injection e268)); replace hx268_0 := (hc_ HB hx268_0).trans hx268_0; replace hx268_1 := (hc_ HB hx268_1).trans hx268_1; replace p268 := eq_true p268; replace q268 := eq_true q268; have p269 : 0 ≤ (x5_2 : Int) := od_; have q269 : x5_2 < (l1_1.length : Int) := od_; obtain ⟨ad269, e269, hx269_0, hx269_1⟩ := at_T47 HR1_1.1 x5_2 p269 q269; (obtain rfl : ad267 = ad269 := (by injection e269)); replace hx269_0 := (hc_ HB hx269_0).trans hx269_0; replace hx269_1 := (hc_ HB hx269_1).trans hx269_1; replace p269 := eq_true p269; replace q269 := eq_true q269; (go_wp2); (repeat (go_quiet (fail); try go_wp2)); (go_ret); (exact ⟨by rfl, hb_ HB⟩)
      rw [if_neg c17] at H; have c17b0 := beq_eq_false_iff_ne.mpr c17; have c17b1 := bne_iff_ne.mpr c17; obtain rfl := Option.some.inj H; have hnb25 := NB264_265.1; have hnc25 := NB265_264.1; obtain ⟨hcz26_0, hcz26_1, hfz26_0, hfz26_1⟩ := cz2_ BK264; have p266 : 0 ≤ (x5_2 : Int) := od_; have q266 : x5_2 < (l0_1.length : Int) := od_; obtain ⟨ad266, e266, hx266_0, hx266_1⟩ := at_T47 HR0_1.1 x5_2 p266 q266; (cases e266); replace hx266_0 := (hc_ HB hx266_0).trans hx266_0; replace hx266_1 := (hc_ HB hx266_1).trans hx266_1; replace p266 := eq_true p266; replace q266 := eq_true q266; obtain ⟨hcz27_0, hcz27_1, hfz27_0, hfz27_1⟩ := cz2_ BK265; have p267 : 0 ≤ (x5_2 : Int) := od_; have q267 : x5_2 < (l1_1.length : Int) := od_; obtain ⟨ad267, e267, hx267_0, hx267_1⟩ := at_T47 HR1_1.1 x5_2 p267 q267; (cases e267); replace hx267_0 := (hc_ HB hx267_0).trans hx267_0; replace hx267_1 := (hc_ HB hx267_1).trans hx267_1; replace p267 := eq_true p267; replace q267 := eq_true q267; (go_wp2); (repeat (go_quiet (fail); try go_wp2)); (go_ret); (exact ⟨by rfl, hb_ HB⟩)
     rw [if_neg c16] at H; (exact absurd H (by simp))
    rw [if_neg c15] at H; (exact absurd H (by simp))
   rw [if_neg c14] at H; have c14b0 := decide_eq_false c14; clear c14; obtain rfl := Option.some.inj H; have hnb28 := NB264_265.1; have hnc28 := NB265_264.1; obtain ⟨hcz29_0, hcz29_1, hfz29_0, hfz29_1⟩ := cz2_ BK264; (go_wp2); (go_ret); (exact ⟨by rfl, hb_ HB⟩)

end Go.Proofs.Ytecbmcheojolnaa.XA
