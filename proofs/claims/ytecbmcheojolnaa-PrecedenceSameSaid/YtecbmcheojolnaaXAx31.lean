-- written by xprint.py, this project's own program (wip/), over the words of print.sh
import Derived.Test.YtecbmcheojolnaaXAx0
import Derived.Test.YtecbmcheojolnaaXAx6
import Derived.Test.YtecbmcheojolnaaXAx30
import Derived.Test.YtecbmcheojolnaaFlat
namespace Go.Proofs.Ytecbmcheojolnaa.XA
open Go.Proofs.Ytecbmcheojolnaa.Flat Go.RowKit Go.Proofs.Ytecbmcheojolnaa.Opens Go.Proofs.YtecbmcheojolnaaW.PrintWords Go.Proofs.YtecbmcheojolnaaW.PrintLast Go.Proofs.YtecbmcheojolnaaW.PrintMore
attribute [local go_sem] max2_int min2_int max_two min_two max_three min_three max_four min_four cell_some cell_same   -- for this text's walks alone
set_option linter.unusedVariables false
set_option linter.unusedSimpArgs false

/-! ### precedence_Is: function 25 -/
mutual
def precedence_Is.j0 : Nat → List Int → Bool → Int → List (S47) → Option (Bool)
 | 0, _, _, _, _ => none
 | k + 1, x1, x17, x354000, x354001 => if x17 = true then (some false) else (if 0 ≤ x354000 then (if (x354000 : Int).toNat ≤ 35184372088832 then (precedence_Is.l0 k x1 (x1.length : Int) 0 x354000 x354001 (List.replicate (x354000 : Int).toNat 0)) else (none)) else (none))
def precedence_Is.l0 : Nat → List Int → Int → Int → Int → List (S47) → List Int → Option (Bool)
 | 0, _, _, _, _, _, _ => none
 | k + 1, x21, x22, x23, x354000, x354001, x359000 => if x23 < x22 then (if 0 ≤ x23 then (if x23 < (x21.length : Int) then (if (rd x21 x23) < 0 then (some false) else (if (rd x21 x23) ≥ x354000 then (some false) else (if 0 ≤ (rd x21 x23) then (if (rd x21 x23) < (x359000.length : Int) then (if (rd x359000 (rd x21 x23)) > 0 then (some false) else (precedence_Is.l0 k x21 x22 (wrap64 (x23 + 1)) x354000 x354001 (x359000.set ((rd x21 x23) : Int).toNat (wrap64 (x23 + 1))))) else (none)) else (none)))) else (none)) else (none)) else ((slices_ContainsFunc_2_int_2_int_by_precedence_Is_1.f k x354001 x359000).bind fun t362 => (some (!t362)))
end
def precedence_Is.f (k : Nat) (a0_0 : Int) (l0_1 : List (S47)) (l1 : List Int) : Option (Bool) := (precedence_Check.f k a0_0 l0_1).bind fun t354 => (if t354 = 0 then (precedence_Is.j0 k l1 ((l1.length : Int) != a0_0) a0_0 l0_1) else (precedence_Is.j0 k l1 true a0_0 l0_1))
theorem precedence_Is.mono_l : ∀ k, (∀ y0 y1 y2 y3, LeO (precedence_Is.j0 k y0 y1 y2 y3) (precedence_Is.j0 (k + 1) y0 y1 y2 y3)) ∧ (∀ y0 y1 y2 y3 y4 y5, LeO (precedence_Is.l0 k y0 y1 y2 y3 y4 y5) (precedence_Is.l0 (k + 1) y0 y1 y2 y3 y4 y5))
 | 0 => ⟨fun _ _ _ _ r h => by simp [precedence_Is.j0] at h, fun _ _ _ _ _ _ r h => by simp [precedence_Is.l0] at h⟩
 | k + 1 => by
  obtain ⟨ih0, ih1⟩ := precedence_Is.mono_l k; refine ⟨?_, ?_⟩; (all_goals (intros; (first | unfold precedence_Is.j0 | unfold precedence_Is.l0)))
  all_goals (repeat' first
   | (with_reducible exact ih1 _ _ _ _ _ _)
   | (with_reducible exact slices_ContainsFunc_2_int_2_int_by_precedence_Is_1.mono _ _ _)
   | (with_reducible exact LeO.refl _)
   | (with_reducible refine LeO.ite ?_ ?_)
   | (with_reducible refine LeO.bind ?_ (fun _ => ?_))
   )
theorem precedence_Is.mono : ∀ a0 a1 a2 k, LeO (precedence_Is.f k a0 a1 a2) (precedence_Is.f (k + 1) a0 a1 a2) := by
 intro a0 a1 a2 k
 obtain ⟨ih0, ih1⟩ := precedence_Is.mono_l k
 unfold precedence_Is.f
 repeat' first
   | (with_reducible exact ih0 _ _ _ _)
   | (with_reducible exact precedence_Check.mono _ _ _)
   | (with_reducible refine LeO.ite ?_ ?_)
   | (with_reducible refine LeO.bind ?_ (fun _ => ?_))
   
set_option maxHeartbeats 8000000 in
set_option maxRecDepth 100000 in
theorem precedence_Is.calls (k : Nat) (a0_0 : Int) (A0_1 : Option Addr) (c0_1 : Nat) (l0_1 : List (S47)) (A1 : Option Addr) (c1 : Nat) (l1 : List Int) (r : Bool) (w : World) (hr0_1 : Kd.C k47 w A0_1 l0_1.length l0_1) (hc0_1 : l0_1.length ≤ c0_1) (hr1 : Kd.C (Kd.int .i64) w A1 l1.length l1) (hc1 : l1.length ≤ c1) (h : precedence_Is.f k a0_0 l0_1 l1 = some r) :
  Calls Try.prog 25 #[.agg #[.int .i64 a0_0, .slice A0_1 l0_1.length c0_1], .slice A1 l1.length c1] w fun e w' => e = .returned (.bool r) ∧ Below w.heap.size w w' := by
 have hu31 := Try.underlying31
 have hu27 := Try.underlying27
 have HR0_1 := ak hr0_1
 have HC0_1 := ak hc0_1
 clear hr0_1 hc0_1
 have HR1 := ak hr1
 have HC1 := ak hc1
 clear hr1 hc1
 have HB := ak (Below.refl w.heap.size w)
 have H : ((precedence_Check.f k a0_0 l0_1).bind fun t354 => (if t354 = 0 then (precedence_Is.j0 k l1 ((l1.length : Int) != a0_0) a0_0 l0_1) else (precedence_Is.j0 k l1 true a0_0 l0_1))) = some r := h
 clear h
 have HC3 := ak H
 clear H
 go_enter Try.func25, Try.ntmps25
 go_upto_region 1 with (first | ((with_reducible refine gate_dst (N := 2) rfl ?_); refine box_event ?hg (N := 2) ?hd (cs := #[.int .i64 a0_0, .slice A0_1 l0_1.length c0_1]) (t := 31) ?hr ?_; (case hd => rfl); (case hg => rfl); (case hr => (go_simp; done)); intro gb353 hg w4 hbox hb; have BK353 := ak (hbox); have GW353 := gw_ HB hg; have GE353 := gw_ HB hg; replace HB := hs_ HB hb; clear hb hbox hg))
 go_cut [17] (fun v17 wc => ∃ (kq : Nat) (x17_2 : Bool), v17 = .bool x17_2 ∧ Aside0 (precedence_Is.j0 kq l1 x17_2 a0_0 l0_1 = some r) ∧ Aside0 (kq ≤ k) ∧ Aside0 (wc.heap[gb353]? = some (.cells #[.int .i64 a0_0, (.slice A0_1 l0_1.length c0_1)] 31 (0, 0))) ∧ Aside0 (Below w.heap.size w wc))
 case first =>
  have H := HC3.1; clear HC3; replace H := Option.bind_eq_some_iff.mp H; obtain ⟨t354, A50, H⟩ := H; (replace H : (if t354 = 0 then (precedence_Is.j0 k l1 ((l1.length : Int) != a0_0) a0_0 l0_1) else (precedence_Is.j0 k l1 true a0_0 l0_1)) = some r := H); have A5 := ak A50; clear A50; (by_cases c6 : t354 = 0)
  ·rw [if_pos c6] at H
   have c6b0 := beq_iff_eq.mpr c6; have c6b1 := bne_eq_false_iff_eq.mpr c6; clear c6; have H' := ak H; clear H; obtain ⟨hcz7_0, hcz7_1, hfz7_0, hfz7_1⟩ := cz2_ BK353; (go_wp2_with (first | ((with_reducible refine gate_callee (f := 24) rfl ?_); refine goesL_ (some 9) rfl rfl Try.func24 (by kernel_rfl) rfl #[.agg #[.int .i64 a0_0, .slice A0_1 l0_1.length c0_1]] rfl am_ ?_; (with_reducible refine (precedence_Check.calls k a0_0 _ _ l0_1 t354 _ ?side1 ?side2 A5.1).mono ?_); (case side1 => exact (Kd.C_below HR0_1.1 HB.1)); (case side2 => exact HC0_1.1); rintro e w8 ⟨rfl, hb⟩; refine ⟨_, rfl, ?_⟩; replace BK353 := bb_ BK353 hb; replace HB := hs_ HB hb; (try clear hb); obtain ⟨hcz9_0, hcz9_1, hfz9_0, hfz9_1⟩ := cz2_ BK353))); (go_meet)
   case rel => exact ⟨_, (((l1.length : Int) != a0_0)), (by rfl), H', ⟨by omega⟩, ⟨bk_ BK353⟩, ⟨hb_ HB⟩⟩
  rw [if_neg c6] at H
  have c6b0 := beq_eq_false_iff_ne.mpr c6; have c6b1 := bne_iff_ne.mpr c6; have H' := ak H; clear H; obtain ⟨hcz10_0, hcz10_1, hfz10_0, hfz10_1⟩ := cz2_ BK353; (go_wp2_with (first | ((with_reducible refine gate_callee (f := 24) rfl ?_); refine goesL_ (some 9) rfl rfl Try.func24 (by kernel_rfl) rfl #[.agg #[.int .i64 a0_0, .slice A0_1 l0_1.length c0_1]] rfl am_ ?_; (with_reducible refine (precedence_Check.calls k a0_0 _ _ l0_1 t354 _ ?side1 ?side2 A5.1).mono ?_); (case side1 => exact (Kd.C_below HR0_1.1 HB.1)); (case side2 => exact HC0_1.1); rintro e w11 ⟨rfl, hb⟩; refine ⟨_, rfl, ?_⟩; replace BK353 := bb_ BK353 hb; replace HB := hs_ HB hb; (try clear hb)))); (go_meet)
  case rel => exact ⟨_, (true), (by rfl), H', ⟨by omega⟩, ⟨bk_ BK353⟩, ⟨hb_ HB⟩⟩
 clear HC3; obtain ⟨kq, x17_2, rfl, HA, HJ2, BK353, HB⟩ := hcut
 cases kq with
 | zero => exact absurd HA.1 (by simp [precedence_Is.j0])
 | succ kj2 =>
  have H := HA.1; clear HA; simp only [precedence_Is.j0] at H; (by_cases c12 : x17_2 = true)
  ·subst c12; (have H1 : (some false) = some r := by rw [if_pos rfl] at H; exact H); clear H; have H := H1; clear H1; obtain rfl := Option.some.inj H; (go_wp2); (go_ret); (exact ⟨by rfl, hb_ HB⟩)
  replace c12 := Bool.eq_false_iff.mpr c12
  subst c12; (have H1 : (if 0 ≤ a0_0 then (if (a0_0 : Int).toNat ≤ 35184372088832 then (precedence_Is.l0 kj2 l1 (l1.length : Int) 0 a0_0 l0_1 (List.replicate (a0_0 : Int).toNat 0)) else (none)) else (none)) = some r := by rw [if_neg (show ¬ (false = true) by decide)] at H; exact H); clear H; have H := H1; clear H1; (by_cases c13 : 0 ≤ a0_0)
  ·rw [if_pos c13] at H
   have c13b0 := eq_true c13; have c13b1 := decide_eq_true c13; clear c13; (by_cases c14 : (a0_0 : Int).toNat ≤ 35184372088832)
   ·rw [if_pos c14] at H
    have c14b0 := eq_true c14; have c14b1 := decide_eq_true c14; clear c14; obtain ⟨y355, hy355⟩ : ∃ y_ : List Int, y_ = (List.replicate (a0_0 : Int).toNat 0) := ⟨_, rfl⟩; (replace H : (precedence_Is.l0 kj2 l1 (l1.length : Int) 0 a0_0 l0_1 y355) = some r := by (rw [hy355]; with_reducible exact H)); have Ny355 := ak hy355; clear hy355; have H' := ak H; clear H; obtain ⟨hcz15_0, hcz15_1, hfz15_0, hfz15_1⟩ := cz2_ BK353; (go_wp2_with (first | ((with_reducible refine gate_dst (N := 20) rfl ?_); refine Kd.R_make (Kd.int .i64) _ 3 rfl (N := 20) rfl 27 _ _ rfl a0_0 rfl rfl Try.underlying27 (.int .i64 0) 8 info3 rfl (by decide) (by omega) 0 (ok := fun _ => True) (okp := fun _ => True) rfl (fun _ hk => hk) trivial (od_) (Nat.le_trans (Nat.mul_le_mul_right _ (od_ : a0_0.toNat ≤ 35184372088832)) (by omega)) (Below.refl _ _) (Nat.le_refl _) ?_; intro v356 w16 ho17 hb hg_ hnew_; clear hg_ hnew_; (rw [← Ny355.1] at ho17); have HO357 := ak (Kd.R_lower ho17 (below_size (hb_ HB))); replace BK353 := bb_ BK353 hb; replace HB := hs_ HB hb; clear hb ho17) | ((with_reducible refine gate_dst (N := 5) rfl ?_); refine box_event ?hg (N := 5) ?hd (cs := #[.slice none 0 0]) (t := 27) ?hr ?_; (case hd => rfl); (case hg => rfl); (case hr => (go_simp; done)); intro gb358 hg w18 hbox hb; replace HO357 := rb_ HO357 hb; have BK358 := ak (hbox); have GW358 := gw_ HB hg; have GE358 := gw_ HB hg; replace HB := hs_ HB hb; have NB353_358 := nl_ BK353 hg; have NB358_353 := nr_ BK353 hg; replace BK353 := bb_ BK353 hb; clear hb hbox hg; obtain ⟨Ao19, co19, eo19⟩ := Kd.R_slice HO357.1; subst eo19; have hnb20 := NB358_353.1; have hnc20 := NB353_358.1; obtain ⟨hcz21_0, hfz21_0⟩ := cz1_ BK358))); (go_loopg [23] kj2 (fun kq v23 w' => ∃ (x23_2 : Int) (x359000_2 : List Int) (u359000 : Value), v23 = .int .i64 x23_2 ∧ Aside0 (precedence_Is.l0 kq l1 (l1.length : Int) x23_2 a0_0 l0_1 x359000_2 = some r) ∧ Aside0 (kq ≤ kj2) ∧ Aside0 (Kd.R (Kd.int .i64) 3 w' w.heap.size (fun _ => True) u359000 x359000_2) ∧ Aside0 (w'.heap[gb353]? = some (.cells #[.int .i64 a0_0, (.slice A0_1 l0_1.length c0_1)] 31 (0, 0))) ∧ Aside0 (w'.heap[gb358]? = some (.cells #[u359000] 27 (0, 0))) ∧ Aside0 (Below w.heap.size w w')))
    case atStart => exact ⟨(0), (y355), (.slice Ao19 y355.length co19), (by rfl), H', ⟨Nat.le_refl _⟩, ⟨by exact Kd.R_mono (Kd.R_far (p := ⟨gb358, 0, none⟩) (Kd.R_types HO357.1 BK358.1 (by decide)) (fun _ hk => hk.2) (.slice Ao19 y355.length co19)) (fun _ hk => trivial)⟩, ⟨by refine blk_far ?_ NB353_358.1 _; exact BK353.1⟩, ⟨by refine blk_put (cs := #[.slice none 0 0]) ?_ 0 _ rfl; exact BK358.1⟩, ⟨hb_ HB⟩⟩
    clear H'; (try clear c13b0); (try clear c13b1); (try clear c14b0); (try clear c14b1); (try clear hcz15_0); (try clear hcz15_1); (try clear hcz21_0); (try clear hfz15_0); (try clear hfz15_1); (try clear hfz21_0); obtain ⟨x23_2, x359000_2, u359000, rfl, HA, HK2, HO_359000, BK353, BK358, HB⟩ := hrel
    cases gk with
    | zero => exact absurd HA.1 (by simp [precedence_Is.l0])
    | succ k2 =>
     have H := HA.1; clear HA; simp only [precedence_Is.l0] at H; (by_cases c22 : x23_2 < (l1.length : Int))
     ·rw [if_pos c22] at H
      have c22b0 := decide_eq_true c22; clear c22; (by_cases c23 : 0 ≤ x23_2)
      ·rw [if_pos c23] at H
       have c23b0 := decide_eq_true c23; clear c23; (by_cases c24 : x23_2 < (l1.length : Int))
       ·rw [if_pos c24] at H
        have c24b0 := decide_eq_true c24; clear c24; (by_cases c25 : (rd l1 x23_2) < 0)
        ·rw [if_pos c25] at H; have c25b0 := decide_eq_true c25; clear c25; obtain rfl := Option.some.inj H; have p359 : 0 ≤ (x23_2 : Int) := od_; have q359 : x23_2 < (l1.length : Int) := od_; obtain ⟨ad359, e359, hx359_0⟩ := Kd.at_int HR1.1 x23_2 p359 q359; (cases e359); replace hx359_0 := (hc_ HB hx359_0).trans hx359_0; replace p359 := eq_true p359; replace q359 := eq_true q359; (go_wp2); (go_ret); (exact ⟨by rfl, hb_ HB⟩)
        rw [if_neg c25] at H
        have c25b0 := decide_eq_false c25; clear c25; (by_cases c26 : (rd l1 x23_2) ≥ a0_0)
        ·rw [if_pos c26] at H; have c26b0 := decide_eq_true c26; clear c26; obtain rfl := Option.some.inj H; have p359 : 0 ≤ (x23_2 : Int) := od_; have q359 : x23_2 < (l1.length : Int) := od_; obtain ⟨ad359, e359, hx359_0⟩ := Kd.at_int HR1.1 x23_2 p359 q359; (cases e359); replace hx359_0 := (hc_ HB hx359_0).trans hx359_0; replace p359 := eq_true p359; replace q359 := eq_true q359; have hnb27 := NB353_358.1; have hnc27 := NB358_353.1; obtain ⟨hcz28_0, hcz28_1, hfz28_0, hfz28_1⟩ := cz2_ BK353; (go_wp2); (go_ret); (exact ⟨by rfl, hb_ HB⟩)
        rw [if_neg c26] at H
        have c26b0 := decide_eq_false c26; clear c26; (by_cases c29 : 0 ≤ (rd l1 x23_2))
        ·rw [if_pos c29] at H
         have c29b0 := decide_eq_true c29; clear c29; (by_cases c30 : (rd l1 x23_2) < (x359000_2.length : Int))
         ·rw [if_pos c30] at H
          have c30b0 := decide_eq_true c30; clear c30; (by_cases c31 : (rd x359000_2 (rd l1 x23_2)) > 0)
          ·rw [if_pos c31] at H; have c31b0 := decide_eq_true c31; clear c31; obtain rfl := Option.some.inj H; have p359 : 0 ≤ (x23_2 : Int) := od_; have q359 : x23_2 < (l1.length : Int) := od_; obtain ⟨ad359, e359, hx359_0⟩ := Kd.at_int HR1.1 x23_2 p359 q359; (cases e359); replace hx359_0 := (hc_ HB hx359_0).trans hx359_0; replace p359 := eq_true p359; replace q359 := eq_true q359; have hnb32 := NB353_358.1; have hnc32 := NB358_353.1; obtain ⟨hcz33_0, hcz33_1, hfz33_0, hfz33_1⟩ := cz2_ BK353; obtain ⟨hcz34_0, hfz34_0⟩ := cz1_ BK358; obtain ⟨Ao35, co35, eo35⟩ := Kd.R_slice HO_359000.1; subst eo35; have p360 : 0 ≤ ((rd l1 x23_2) : Int) := od_; have q360 : (rd l1 x23_2) < (x359000_2.length : Int) := od_; obtain ⟨ad360, e360, hx360_0⟩ := Kd.at_int (Kd.R_reads' HO_359000.1).2.2 (rd l1 x23_2) p360 q360; (cases e360); replace p360 := eq_true p360; replace q360 := eq_true q360; (go_wp2); (go_ret); (exact ⟨by rfl, hb_ HB⟩)
          rw [if_neg c31] at H
          have c31b0 := decide_eq_false c31; clear c31; obtain ⟨y361, hy361⟩ : ∃ y_ : List Int, y_ = (x359000_2.set ((rd l1 x23_2) : Int).toNat (wrap64 (x23_2 + 1))) := ⟨_, rfl⟩; (replace H : (precedence_Is.l0 k2 l1 (l1.length : Int) (wrap64 (x23_2 + 1)) a0_0 l0_1 y361) = some r := by (rw [hy361]; with_reducible exact H)); have Ny361 := ak hy361; clear hy361; have H' := ak H; clear H; have p359 : 0 ≤ (x23_2 : Int) := od_; have q359 : x23_2 < (l1.length : Int) := od_; obtain ⟨ad359, e359, hx359_0⟩ := Kd.at_int HR1.1 x23_2 p359 q359; (cases e359); replace hx359_0 := (hc_ HB hx359_0).trans hx359_0; replace p359 := eq_true p359; replace q359 := eq_true q359; have hnb37 := NB353_358.1; have hnc37 := NB358_353.1; obtain ⟨hcz38_0, hcz38_1, hfz38_0, hfz38_1⟩ := cz2_ BK353; obtain ⟨hcz39_0, hfz39_0⟩ := cz1_ BK358; obtain ⟨Ao40, co40, eo40⟩ := Kd.R_slice HO_359000.1; subst eo40; have p360 : 0 ≤ ((rd l1 x23_2) : Int) := od_; have q360 : (rd l1 x23_2) < (x359000_2.length : Int) := od_; obtain ⟨ad360, e360, hx360_0⟩ := Kd.at_int (Kd.R_reads' HO_359000.1).2.2 (rd l1 x23_2) p360 q360; (cases e360); replace p360 := eq_true p360; replace q360 := eq_true q360; have p36 : 0 ≤ ((rd l1 x23_2) : Int) := od_; have q36 : ((rd l1 x23_2) : Int) < ((x359000_2.length : Int) : Int) := od_; (obtain ⟨go36, co36, eo36, gb36, gl36, cl36, HG36⟩ := Kd.R_form HO_359000.1 (by omega)); ((cases eo36)); have GB36 := ak gb36; have GG36 := ak HG36; clear gb36 gl36 HG36; ((simp only [add_plain] at hx360_0)); obtain ⟨hx36_0, hf36_0⟩ := Kd.R_celln 0 HO_359000.1 ((rd l1 x23_2) : Int) p36 q36; replace p36 := eq_true p36; replace q36 := eq_true q36; have HP41 := Kd.R_putg HO_359000.1 ((rd l1 x23_2) : Int) (wrap64 (x23_2 + 1)); (go_wp2_with (first | ((with_reducible refine gate_store (t := 3) (p := 47) rfl ?_); refine store_event (t := 3) (p := 47) (v := ?vo_w42) (w1 := (wr.setCell ⟨go36, ((rd l1 x23_2) : Int).toNat, none⟩ (.int .i64 (wrap64 (x23_2 + 1))))) ?hg ?ho ?hn ?hr ?_; (case ho => rfl); (case hg => rfl); (case hn => rfl); (case hr => (go_simp; done)); intro w42 hw; have hg : wr.grownBy w42 (some go36) := (by rw [hw]; exact HP41.2); have hp_ : Kd.R (Kd.int .i64) 3 w42 w.heap.size (fun _ => True) (.slice (some ⟨go36, 0, none⟩) x359000_2.length co40) y361 := (by rw [hw, Ny361.1]; exact HP41.1); clear HP41; replace BK353 := ak (blk_grown (bk_ BK353) hg (Kd.R_ne HO_359000.1 BK353.1 (by decide))); replace BK358 := ak (blk_grown (bk_ BK358) hg (Kd.R_ne HO_359000.1 BK358.1 (by decide))); replace HO_359000 := ak (hp_); replace HB := ak ((by rw [hw]; exact below_set (HB.1) GB36.1 : Below w.heap.size w w42)); clear hg hw hp_)))
          go_roundg k2
          case measure => have := HJ2.1; have := HK2.1; omega
          case rel => exact ⟨(wrap64 (x23_2 + 1)), (y361), (.slice (some ⟨go36, 0, none⟩) x359000_2.length co40), (by rfl), H', ⟨by have := HJ2.1; have := HK2.1; omega⟩, ⟨by exact HO_359000.1⟩, ⟨bk_ BK353⟩, ⟨bk_ BK358⟩, ⟨hb_ HB⟩⟩
         rw [if_neg c30] at H; (exact absurd H (by simp))
        rw [if_neg c29] at H; (exact absurd H (by simp))
       rw [if_neg c24] at H; (exact absurd H (by simp))
      rw [if_neg c23] at H; (exact absurd H (by simp))
     rw [if_neg c22] at H
     have c22b0 := decide_eq_false c22; clear c22; replace H := Option.bind_eq_some_iff.mp H; obtain ⟨t362, A430, H⟩ := H; replace H : (some (!t362)) = some r := H; have A43 := ak A430; clear A430; obtain rfl := Option.some.inj H; have hnb44 := NB353_358.1; have hnc44 := NB358_353.1; obtain ⟨hcz45_0, hcz45_1, hfz45_0, hfz45_1⟩ := cz2_ BK353; obtain ⟨Ao46, co46, eo46⟩ := Kd.R_slice HO_359000.1; subst eo46; (go_wp2_with (first | ((with_reducible refine gate_callee (f := 39) rfl ?_); refine goesL_ (some 52) rfl rfl Try.func39 (by kernel_rfl) rfl #[.slice A0_1 l0_1.length c0_1, .func (.func 41) #[] #[.pointer (some ⟨gb358, 0, none⟩)]] rfl am_ ?_; (with_reducible refine (slices_ContainsFunc_2_int_2_int_by_precedence_Is_1.calls k2 _ _ l0_1 gb358 Ao46 co46 x359000_2 t362 _ ?side1 ?side2 ?side3 ?side4 ?side5 A43.1).mono ?_); (case side1 => exact (Kd.C_below HR0_1.1 HB.1)); (case side2 => exact HC0_1.1); (case side3 => exact (bk_ BK358)); (case side4 => exact (Kd.R_reads' HO_359000.1).2.2); (case side5 => exact (Kd.R_reads' HO_359000.1).2.1); rintro e w47 ⟨rfl, hb⟩; refine ⟨_, rfl, ?_⟩; replace HO_359000 := rb_ HO_359000 hb; replace BK353 := bb_ BK353 hb; replace BK358 := bb_ BK358 hb; replace HB := hs_ HB hb; (try clear hb)))); (go_ret); (exact ⟨by rfl, hb_ HB⟩)
   rw [if_neg c14] at H; (exact absurd H (by simp))
  rw [if_neg c13] at H; (exact absurd H (by simp))

end Go.Proofs.Ytecbmcheojolnaa.XA
