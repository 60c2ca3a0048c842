import Derived.Test.YtglkcinmohjblaaDoorXAx36
namespace Go.Proofs.YtglkcinmohjblaaDoor.XA
open Flat Go.RowKit Opens YtglkcinmohjblaaDoorW.PrintWords YtglkcinmohjblaaDoorW.PrintLast YtglkcinmohjblaaDoorW.PrintMore
attribute [local go_sem] max2_int min2_int max_two min_two max_three min_three max_four min_four cell_some cell_same
set_option linter.unusedVariables false
set_option linter.unusedSimpArgs false

mutual
def rf_Reach.l0 : Nat → List (S62) → Int → Int → Int → Int → Bool → Option (Bool)
 | 0, _, _, _, _, _, _ => none
 | k + 1, x0, x2, x3, x9, x582000, x582001 => if x9 < 2 then ((rf_Joint.f k x0 x582000 x582001 (wrap64 (x582000 + 1)) (x9 == 1)).bind fun t583 => (if t583 ≤ x3 then ((rf_Reach.f k x0 (wrap64 (x582000 + 1)) (x9 == 1) x2 x3).bind fun t584 => (if t584 = true then (some true) else (rf_Reach.l0 k x0 x2 x3 (wrap64 (x9 + 1)) x582000 x582001))) else (rf_Reach.l0 k x0 x2 x3 (wrap64 (x9 + 1)) x582000 x582001))) else (some false)
def rf_Reach.f : Nat → List (S62) → Int → Bool → Int → Int → Option (Bool)
 | 0, _, _, _, _, _ => none
 | k + 1, l0, a1_0, a1_1, a2, a3 => if a1_0 = a2 then (some true) else (rf_Reach.l0 k l0 a2 a3 0 a1_0 a1_1)
end
theorem rf_Reach.mono_l : ∀ k, (∀ y0 y1 y2 y3 y4, LeO (rf_Reach.f k y0 y1 y2 y3 y4) (rf_Reach.f (k + 1) y0 y1 y2 y3 y4)) ∧ (∀ y0 y1 y2 y3 y4 y5, LeO (rf_Reach.l0 k y0 y1 y2 y3 y4 y5) (rf_Reach.l0 (k + 1) y0 y1 y2 y3 y4 y5))
 | 0 => ⟨fun _ _ _ _ _ r h => by simp [rf_Reach.f] at h, fun _ _ _ _ _ _ r h => by simp [rf_Reach.l0] at h⟩
 | k + 1 => by
  obtain ⟨ih0, ih1⟩ := rf_Reach.mono_l k; refine ⟨?_, ?_⟩; (all_goals (intros; (first | unfold rf_Reach.f | unfold rf_Reach.l0)))
  all_goals (repeat' first
   | (with_reducible exact ih0 _ _ _ _ _)
   | (with_reducible exact ih1 _ _ _ _ _ _)
   | (with_reducible exact rf_Joint.mono _ _ _ _ _ _)
   | (with_reducible exact LeO.refl _)
   | (with_reducible refine LeO.ite ?_ ?_)
   | (with_reducible refine LeO.bind ?_ (fun _ => ?_))
   )
theorem rf_Reach.mono : ∀ a0 a1 a2 a3 a4 k, LeO (rf_Reach.f k a0 a1 a2 a3 a4) (rf_Reach.f (k + 1) a0 a1 a2 a3 a4) := by
 intro a0 a1 a2 a3 a4 k
 obtain ⟨ih0, ih1⟩ := rf_Reach.mono_l k
 exact ih0 a0 a1 a2 a3 a4
set_option maxHeartbeats 8000000 in
set_option maxRecDepth 100000 in
theorem rf_Reach.calls (k : Nat) : ∀ (A0 : Option Addr) (c0 : Nat) (l0 : List (S62)) (a1_0 : Int) (a1_1 : Bool) (a2 : Int) (a3 : Int) (r : Bool) (w : World) (hr0 : Kd.C k62 w A0 l0.length l0) (hc0 : l0.length ≤ c0) (h : rf_Reach.f k l0 a1_0 a1_1 a2 a3 = some r),
  Calls Tryd.prog 44 #[.slice A0 l0.length c0, .agg #[.int .i64 a1_0, .bool a1_1], .int .i64 a2, .int .i64 a3] w fun e w' => e = .returned (.bool r) ∧ Below w.heap.size w w' := by
 induction k using Nat.strongRecOn with
 | _ k ih =>
 intro A0 c0 l0 a1_0 a1_1 a2 a3 r w hr0 hc0 h
 cases k with
 | zero => exact absurd h (by simp [rf_Reach.f])
 | succ k =>
 simp only [rf_Reach.f] at h
 have hu68 := Tryd.underlying68
 have HR0 := ak hr0
 have HC0 := ak hc0
 clear hr0 hc0
 have HB := ak (Below.refl w.heap.size w)
 have H : (if a1_0 = a2 then (some true) else (rf_Reach.l0 k l0 a2 a3 0 a1_0 a1_1)) = some r := h
 clear h
 by_cases c5 : a1_0 = a2
 ·rw [if_pos c5] at H
  have c5b0 := beq_iff_eq.mpr c5; have c5b1 := bne_eq_false_iff_eq.mpr c5; clear c5; obtain rfl := Option.some.inj H; (go_enter Tryd.func44, Tryd.ntmps44); (go_wp2_with (first | ((with_reducible refine gate_dst (N := 5) rfl ?_); refine box_event ?hg (N := 5) ?hd (cs := #[.int .i64 a1_0, .bool a1_1]) (t := 68) ?hr ?_; (case hd => rfl); (case hg => rfl); (case hr => (go_simp; done)); intro gb581 hg w6 hbox hb; have BK581 := ak (hbox); have GW581 := gw_ HB hg; have GE581 := gw_ HB hg; replace HB := hs_ HB hb; clear hb hbox hg; obtain ⟨hcz7_0, hcz7_1, hfz7_0, hfz7_1⟩ := cz2_ BK581))); (go_ret); (exact ⟨by rfl, hb_ HB⟩)
 rw [if_neg c5] at H
 have c5b0 := beq_eq_false_iff_ne.mpr c5; have c5b1 := bne_iff_ne.mpr c5; have H' := ak H; clear H; (go_enter Tryd.func44, Tryd.ntmps44); (go_wp2_with (first | ((with_reducible refine gate_dst (N := 5) rfl ?_); refine box_event ?hg (N := 5) ?hd (cs := #[.int .i64 a1_0, .bool a1_1]) (t := 68) ?hr ?_; (case hd => rfl); (case hg => rfl); (case hr => (go_simp; done)); intro gb581 hg w8 hbox hb; have BK581 := ak (hbox); have GW581 := gw_ HB hg; have GE581 := gw_ HB hg; replace HB := hs_ HB hb; clear hb hbox hg; obtain ⟨hcz9_0, hcz9_1, hfz9_0, hfz9_1⟩ := cz2_ BK581))); (go_loopg [9] k (fun kq v9 w' => ∃ (x9_1 : Int), v9 = .int .i64 x9_1 ∧ Aside0 (rf_Reach.l0 kq l0 a2 a3 x9_1 a1_0 a1_1 = some r) ∧ Aside0 (kq ≤ k) ∧ Aside0 (w'.heap[gb581]? = some (.cells #[.int .i64 a1_0, .bool a1_1] 68 (0, 0))) ∧ Aside0 (Below w.heap.size w w')))
 case atStart => exact ⟨(0), (by rfl), H', ⟨Nat.le_refl _⟩, ⟨bk_ BK581⟩, ⟨hb_ HB⟩⟩
 clear H'; (try clear c5); (try clear c5b0); (try clear c5b1); (try clear hcz9_0); (try clear hcz9_1); (try clear hfz9_0); (try clear hfz9_1); obtain ⟨x9_1, rfl, HA, HK1, BK581, HB⟩ := hrel
 cases gk with
 | zero => exact absurd HA.1 (by simp [rf_Reach.l0])
 | succ k1 =>
  have H := HA.1; clear HA; simp only [rf_Reach.l0] at H; (by_cases c10 : x9_1 < 2)
  ·rw [if_pos c10] at H
   have c10b0 := decide_eq_true c10; clear c10; obtain ⟨t583, A110, H⟩ := obs_ H; (replace H : (if t583 ≤ a3 then ((rf_Reach.f k1 l0 (wrap64 (a1_0 + 1)) (x9_1 == 1) a2 a3).bind fun t584 => (if t584 = true then (some true) else (rf_Reach.l0 k1 l0 a2 a3 (wrap64 (x9_1 + 1)) a1_0 a1_1))) else (rf_Reach.l0 k1 l0 a2 a3 (wrap64 (x9_1 + 1)) a1_0 a1_1)) = some r := H); have A11 := ak A110; clear A110; (by_cases c12 : t583 ≤ a3)
   ·rw [if_pos c12] at H
    have c12b0 := decide_eq_true c12; clear c12; obtain ⟨t584, A130, H⟩ := obs_ H; (replace H : (if t584 = true then (some true) else (rf_Reach.l0 k1 l0 a2 a3 (wrap64 (x9_1 + 1)) a1_0 a1_1)) = some r := H); have A13 := ak A130; clear A130; (by_cases c14 : t584 = true)
    ·subst c14
     (replace H : (some true) = some r := by rw [if_pos rfl] at H; exact H); obtain rfl := Option.some.inj H; obtain ⟨hcz15_0, hcz15_1, hfz15_0, hfz15_1⟩ := cz2_ BK581; (go_wp2_with (first | ((with_reducible refine gate_dst (N := 10) rfl ?_); refine box_event ?hg (N := 10) ?hd (cs := #[.int .i64 0, .bool false]) (t := 68) ?hr ?_; (case hd => rfl); (case hg => rfl); (case hr => (go_simp; done)); intro gb582 hg w16 hbox hb; have BK582 := ak (hbox); have GW582 := gw_ HB hg; have GE582 := gw_ HB hg; replace HB := hs_ HB hb; have NB581_582 := nl_ BK581 hg; have NB582_581 := nr_ BK581 hg; replace BK581 := bb_ BK581 hb; clear hb hbox hg; have hnb17 := NB582_581.1; have hnc17 := NB581_582.1; obtain ⟨hcz18_0, hcz18_1, hfz18_0, hfz18_1⟩ := cz2_ BK582; obtain ⟨hcz19_0, hcz19_1, hfz19_0, hfz19_1⟩ := cz2_ BK581) | ((with_reducible refine gate_callee (f := 37) rfl ?_); refine goesL_ (some 28) rfl rfl Tryd.func37 (by kernel_rfl) rfl #[.slice A0 l0.length c0, .agg #[.int .i64 a1_0, .bool a1_1], .agg #[.int .i64 (wrap64 (a1_0 + 1)), .bool (x9_1 == 1)]] rfl am_ ?_; (with_reducible refine (rf_Joint.calls k1 _ _ l0 a1_0 a1_1 (wrap64 (a1_0 + 1)) (x9_1 == 1) t583 _ ?side1 ?side2 A11.1).mono ?_); (case side1 => exact Kd.C_below HR0.1 (hb_ HB)); (case side2 => exact HC0.1); rintro e w20 ⟨rfl, hb⟩; refine ⟨_, rfl, ?_⟩; replace BK581 := ak (blk_below (g := gb581) (o := .cells #[.int .i64 a1_0, .bool a1_1] 68 (0, 0)) (by refine blk_far ?_ NB581_582.1 _; refine blk_far ?_ NB581_582.1 _; exact BK581.1) hb); replace BK582 := ak (blk_below (g := gb582) (o := .cells #[.int .i64 (wrap64 (a1_0 + 1)), .bool (x9_1 == 1)] 68 (0, 0)) (by refine blk_put (cs := #[.int .i64 (wrap64 (a1_0 + 1)), .bool false]) ?_ 1 _ rfl; refine blk_put (cs := #[.int .i64 0, .bool false]) ?_ 0 _ rfl; exact BK582.1) hb); replace HB := hs_ HB hb; (try clear hb); obtain ⟨hcz21_0, hcz21_1, hfz21_0, hfz21_1⟩ := cz2_ BK582) | (go_at_call 44; (with_reducible refine (ih k1 (by have := HK1.1; omega) _ _ l0 (wrap64 (a1_0 + 1)) (x9_1 == 1) a2 a3 true _ ?side1 ?side2 A13.1).mono ?_); (case side1 => exact (Kd.C_below HR0.1 HB.1)); (case side2 => exact HC0.1); rintro e w22 ⟨rfl, hb⟩; replace BK581 := bb_ BK581 hb; replace BK582 := bb_ BK582 hb; replace HB := hs_ HB hb; (try clear hb))))
     (go_ret); (exact ⟨by rfl, hb_ HB⟩)
    replace c14 := Bool.eq_false_iff.mpr c14
    subst c14; (replace H : (rf_Reach.l0 k1 l0 a2 a3 (wrap64 (x9_1 + 1)) a1_0 a1_1) = some r := by rw [if_neg (show ¬ (false = true) by decide)] at H; exact H); have H' := ak H; clear H; obtain ⟨hcz23_0, hcz23_1, hfz23_0, hfz23_1⟩ := cz2_ BK581; (go_wp2_with (first | ((with_reducible refine gate_dst (N := 10) rfl ?_); refine box_event ?hg (N := 10) ?hd (cs := #[.int .i64 0, .bool false]) (t := 68) ?hr ?_; (case hd => rfl); (case hg => rfl); (case hr => (go_simp; done)); intro gb582 hg w24 hbox hb; have BK582 := ak (hbox); have GW582 := gw_ HB hg; have GE582 := gw_ HB hg; replace HB := hs_ HB hb; have NB581_582 := nl_ BK581 hg; have NB582_581 := nr_ BK581 hg; replace BK581 := bb_ BK581 hb; clear hb hbox hg; have hnb25 := NB582_581.1; have hnc25 := NB581_582.1; obtain ⟨hcz26_0, hcz26_1, hfz26_0, hfz26_1⟩ := cz2_ BK582; obtain ⟨hcz27_0, hcz27_1, hfz27_0, hfz27_1⟩ := cz2_ BK581) | ((with_reducible refine gate_callee (f := 37) rfl ?_); refine goesL_ (some 28) rfl rfl Tryd.func37 (by kernel_rfl) rfl #[.slice A0 l0.length c0, .agg #[.int .i64 a1_0, .bool a1_1], .agg #[.int .i64 (wrap64 (a1_0 + 1)), .bool (x9_1 == 1)]] rfl am_ ?_; (with_reducible refine (rf_Joint.calls k1 _ _ l0 a1_0 a1_1 (wrap64 (a1_0 + 1)) (x9_1 == 1) t583 _ ?side1 ?side2 A11.1).mono ?_); (case side1 => exact Kd.C_below HR0.1 (hb_ HB)); (case side2 => exact HC0.1); rintro e w28 ⟨rfl, hb⟩; refine ⟨_, rfl, ?_⟩; replace BK581 := ak (blk_below (g := gb581) (o := .cells #[.int .i64 a1_0, .bool a1_1] 68 (0, 0)) (by refine blk_far ?_ NB581_582.1 _; refine blk_far ?_ NB581_582.1 _; exact BK581.1) hb); replace BK582 := ak (blk_below (g := gb582) (o := .cells #[.int .i64 (wrap64 (a1_0 + 1)), .bool (x9_1 == 1)] 68 (0, 0)) (by refine blk_put (cs := #[.int .i64 (wrap64 (a1_0 + 1)), .bool false]) ?_ 1 _ rfl; refine blk_put (cs := #[.int .i64 0, .bool false]) ?_ 0 _ rfl; exact BK582.1) hb); replace HB := hs_ HB hb; (try clear hb); obtain ⟨hcz29_0, hcz29_1, hfz29_0, hfz29_1⟩ := cz2_ BK582) | (go_at_call 44; (with_reducible refine (ih k1 (by have := HK1.1; omega) _ _ l0 (wrap64 (a1_0 + 1)) (x9_1 == 1) a2 a3 false _ ?side1 ?side2 A13.1).mono ?_); (case side1 => exact (Kd.C_below HR0.1 HB.1)); (case side2 => exact HC0.1); rintro e w30 ⟨rfl, hb⟩; replace BK581 := bb_ BK581 hb; replace BK582 := bb_ BK582 hb; replace HB := hs_ HB hb; (try clear hb))))
    go_roundg k1
    case measure => have := HK1.1; omega
    case rel => exact ⟨(wrap64 (x9_1 + 1)), (by rfl), H', ⟨by have := HK1.1; omega⟩, ⟨bk_ BK581⟩, ⟨hb_ HB⟩⟩
   rw [if_neg c12] at H
   have c12b0 := decide_eq_false c12; clear c12; have H' := ak H; clear H; obtain ⟨hcz31_0, hcz31_1, hfz31_0, hfz31_1⟩ := cz2_ BK581; (go_wp2_with (first | ((with_reducible refine gate_dst (N := 10) rfl ?_); refine box_event ?hg (N := 10) ?hd (cs := #[.int .i64 0, .bool false]) (t := 68) ?hr ?_; (case hd => rfl); (case hg => rfl); (case hr => (go_simp; done)); intro gb582 hg w32 hbox hb; have BK582 := ak (hbox); have GW582 := gw_ HB hg; have GE582 := gw_ HB hg; replace HB := hs_ HB hb; have NB581_582 := nl_ BK581 hg; have NB582_581 := nr_ BK581 hg; replace BK581 := bb_ BK581 hb; clear hb hbox hg; have hnb33 := NB582_581.1; have hnc33 := NB581_582.1; obtain ⟨hcz34_0, hcz34_1, hfz34_0, hfz34_1⟩ := cz2_ BK582; obtain ⟨hcz35_0, hcz35_1, hfz35_0, hfz35_1⟩ := cz2_ BK581) | ((with_reducible refine gate_callee (f := 37) rfl ?_); refine goesL_ (some 28) rfl rfl Tryd.func37 (by kernel_rfl) rfl #[.slice A0 l0.length c0, .agg #[.int .i64 a1_0, .bool a1_1], .agg #[.int .i64 (wrap64 (a1_0 + 1)), .bool (x9_1 == 1)]] rfl am_ ?_; (with_reducible refine (rf_Joint.calls k1 _ _ l0 a1_0 a1_1 (wrap64 (a1_0 + 1)) (x9_1 == 1) t583 _ ?side1 ?side2 A11.1).mono ?_); (case side1 => exact Kd.C_below HR0.1 (hb_ HB)); (case side2 => exact HC0.1); rintro e w36 ⟨rfl, hb⟩; refine ⟨_, rfl, ?_⟩; replace BK581 := ak (blk_below (g := gb581) (o := .cells #[.int .i64 a1_0, .bool a1_1] 68 (0, 0)) (by refine blk_far ?_ NB581_582.1 _; refine blk_far ?_ NB581_582.1 _; exact BK581.1) hb); replace BK582 := ak (blk_below (g := gb582) (o := .cells #[.int .i64 (wrap64 (a1_0 + 1)), .bool (x9_1 == 1)] 68 (0, 0)) (by refine blk_put (cs := #[.int .i64 (wrap64 (a1_0 + 1)), .bool false]) ?_ 1 _ rfl; refine blk_put (cs := #[.int .i64 0, .bool false]) ?_ 0 _ rfl; exact BK582.1) hb); replace HB := hs_ HB hb; (try clear hb)))); (go_roundg k1)
   case measure => have := HK1.1; omega
   case rel => exact ⟨(wrap64 (x9_1 + 1)), (by rfl), H', ⟨by have := HK1.1; omega⟩, ⟨bk_ BK581⟩, ⟨hb_ HB⟩⟩
  rw [if_neg c10] at H; have c10b0 := decide_eq_false c10; clear c10; obtain rfl := Option.some.inj H; (go_wp2); (go_ret); (exact ⟨by rfl, hb_ HB⟩)

end Go.Proofs.YtglkcinmohjblaaDoor.XA
