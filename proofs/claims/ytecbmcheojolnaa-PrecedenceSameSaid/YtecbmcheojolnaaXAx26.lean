-- written by xprint.py, this project's own program (wip/), over the words of print.sh
import Derived.Test.YtecbmcheojolnaaXAx0
import Derived.Test.YtecbmcheojolnaaXAx25
namespace Go.Proofs.Ytecbmcheojolnaa.XA
open Go.RowKit Go.Proofs.Ytecbmcheojolnaa.Opens Go.Proofs.YtecbmcheojolnaaW.PrintWords Go.Proofs.YtecbmcheojolnaaW.PrintLast Go.Proofs.YtecbmcheojolnaaW.PrintMore
attribute [local go_sem] max2_int min2_int max_two min_two max_three min_three max_four min_four cell_some cell_same   -- for this text's walks alone
set_option linter.unusedVariables false
set_option linter.unusedSimpArgs false

/-! ### rf_ready: function 37 -/
def rf_ready.l0 : Nat → List Int → Int → Int → Int → List (S47) → Option (Bool)
  | 0, _, _, _, _, _ => none
  | k + 1, x1, x2, x7, x335000, x335001 => if x7 < (x335001.length : Int) then (if 0 ≤ x7 then (if ((rd_T47 x335001 x7).f1) = x2 then ((rf_has.f k x1 ((rd_T47 x335001 x7).f0)).bind fun t337 => (if t337 = true then (rf_ready.l0 k x1 x2 (wrap64 (x7 + 1)) x335000 x335001) else (some false))) else (rf_ready.l0 k x1 x2 (wrap64 (x7 + 1)) x335000 x335001)) else (none)) else (some true)
def rf_ready.f (k : Nat) (a0_0 : Int) (l0_1 : List (S47)) (l1 : List Int) (a2 : Int) : Option (Bool) := rf_ready.l0 k l1 a2 0 a0_0 l0_1
theorem rf_ready.mono_l : ∀ k, (∀ y0 y1 y2 y3 y4, LeO (rf_ready.l0 k y0 y1 y2 y3 y4) (rf_ready.l0 (k + 1) y0 y1 y2 y3 y4))
  | 0 => fun _ _ _ _ _ r h => by simp [rf_ready.l0] at h
  | k + 1 => by
    have ih0 := rf_ready.mono_l k
    intro y0 y1 y2 y3 y4
    unfold rf_ready.l0
    repeat' first
    | (with_reducible exact ih0 _ _ _ _ _)
    | (with_reducible exact rf_has.mono _ _ _)
    | (with_reducible exact LeO.refl _)
    | (with_reducible refine LeO.ite ?_ ?_)
    | (with_reducible refine LeO.bind ?_ (fun _ => ?_))
      
theorem rf_ready.mono : ∀ a0 a1 a2 a3 k, LeO (rf_ready.f k a0 a1 a2 a3) (rf_ready.f (k + 1) a0 a1 a2 a3) := by
  intro a0 a1 a2 a3 k
  have ih0 := rf_ready.mono_l k
  unfold rf_ready.f
  repeat' (with_reducible exact ih0 _ _ _ _ _)
set_option maxHeartbeats 8000000 in
set_option maxRecDepth 100000 in
theorem rf_ready.calls (k : Nat) (a0_0 : Int) (A0_1 : Option Addr) (c0_1 : Nat) (l0_1 : List (S47)) (A1 : Option Addr) (c1 : Nat) (l1 : List Int) (a2 : Int) (r : Bool) (w : World) (hr0_1 : Kd.C k47 w A0_1 l0_1.length l0_1) (hc0_1 : l0_1.length ≤ c0_1) (hr1 : Kd.C (Kd.int .i64) w A1 l1.length l1) (hc1 : l1.length ≤ c1) (h : rf_ready.f k a0_0 l0_1 l1 a2 = some r) :
    Calls Try.prog 37 #[.agg #[.int .i64 a0_0, .slice A0_1 l0_1.length c0_1], .slice A1 l1.length c1, .int .i64 a2] w fun e w' => e = .returned (.bool r) ∧ Below w.heap.size w w' := by
  have hu24 := Try.underlying24
  have hu47 := Try.underlying47
  have HR0_1 := ak hr0_1
  have HC0_1 := ak hc0_1
  clear hr0_1 hc0_1
  have HR1 := ak hr1
  have HC1 := ak hc1
  clear hr1 hc1
  have HB := ak (Below.refl w.heap.size w)
  have H : (rf_ready.l0 k l1 a2 0 a0_0 l0_1) = some r := h
  clear h
  have H' := ak H
  clear H
  go_enter Try.func37, Try.ntmps37
  go_wp2_with (first | ((with_reducible refine gate_dst (N := 3) rfl ?_); refine box_event ?hg (N := 3) ?hd (cs := #[.int .i64 a0_0, .slice A0_1 l0_1.length c0_1]) (t := 24) ?hr ?_; (case hd => rfl); (case hg => rfl); (case hr => (go_simp; done)); intro gb334 hg w4 hbox hb; have n0_ := ak (below_step HB.1 hb); have n1_ := ak (hbox); have n2_ := ak ((by rw [hg]; exact (below_size HB.1) : w.heap.size ≤ gb334)); have n3_ := ak ((by rw [hg]; exact (below_size HB.1) : w.heap.size ≤ gb334)); clear HB; have HB := n0_; have BK334 := n1_; have GW334 := n2_; have GE334 := n3_; clear n0_ n1_ n2_ n3_; clear hb hbox hg))
  go_loopg [7] k (fun kq v7 w' => ∃ (x7_1 : Int), v7 = .int .i64 x7_1 ∧ Aside0 (rf_ready.l0 kq l1 a2 x7_1 a0_0 l0_1 = some r) ∧ Aside0 (kq ≤ k) ∧ Aside0 (w'.heap[gb334]? = some (.cells #[.int .i64 a0_0, (.slice A0_1 l0_1.length c0_1)] 24 (0, 0))) ∧ Aside0 (Below w.heap.size w w'))
  case atStart => exact ⟨(0), (by rfl), H', ⟨Nat.le_refl _⟩, ⟨by exact BK334.1⟩, ⟨by repeat (with_reducible exact HB.1)⟩⟩
  clear H'
  obtain ⟨x7_1, rfl, HA, HK1, BK334, HB⟩ := hrel
  cases gk with
  | zero => exact absurd HA.1 (by simp [rf_ready.l0])
  | succ k1 =>
    have H := HA.1
    clear HA
    simp only [rf_ready.l0] at H
    by_cases c5 : x7_1 < (l0_1.length : Int)
    · rw [if_pos c5] at H
      have c5b0 : decide (x7_1 < (l0_1.length : Int)) = true := decide_eq_true c5
      clear c5
      by_cases c6 : 0 ≤ x7_1
      · rw [if_pos c6] at H
        have c6b0 : decide (0 ≤ x7_1) = true := decide_eq_true c6
        clear c6
        by_cases c7 : ((rd_T47 l0_1 x7_1).f1) = a2
        · rw [if_pos c7] at H
          have c7b0 : (((rd_T47 l0_1 x7_1).f1) == a2) = true := beq_iff_eq.mpr c7
          have c7b1 : (((rd_T47 l0_1 x7_1).f1) != a2) = false := bne_eq_false_iff_eq.mpr c7
          clear c7
          replace H := Option.bind_eq_some_iff.mp H
          obtain ⟨t337, A80, H⟩ := H
          replace H : (if t337 = true then (rf_ready.l0 k1 l1 a2 (wrap64 (x7_1 + 1)) a0_0 l0_1) else (some false)) = some r := H
          have A8 := ak A80
          clear A80
          by_cases c9 : t337 = true
          · subst c9
            have H1 : (rf_ready.l0 k1 l1 a2 (wrap64 (x7_1 + 1)) a0_0 l0_1) = some r := by rw [if_pos rfl] at H; exact H
            clear H
            have H := H1
            clear H1
            have H' := ak H
            clear H
            have hcz10_0 : wr.cell? ⟨gb334, 0, none⟩ = some (.int .i64 a0_0) := (blk_cell BK334.1 0).trans rfl
            have hcz10_1 : wr.cell? ⟨gb334, 1, none⟩ = some (.slice A0_1 l0_1.length c0_1) := (blk_cell BK334.1 1).trans rfl
            have hfz10_0 := blk_frozen BK334.1 0
            have hfz10_1 := blk_frozen BK334.1 1
            have p335 : 0 ≤ (x7_1 : Int) := od_
            have q335 : x7_1 < (l0_1.length : Int) := od_
            obtain ⟨ad335, e335, hx335_0, hx335_1⟩ := at_T47 HR0_1.1 x7_1 p335 q335
            cases e335
            replace hx335_0 := (hc_ HB hx335_0).trans hx335_0
            replace hx335_1 := (hc_ HB hx335_1).trans hx335_1
            replace p335 := eq_true p335
            replace q335 := eq_true q335
            have p336 : 0 ≤ (x7_1 : Int) := od_
            have q336 : x7_1 < (l0_1.length : Int) := od_
            obtain ⟨ad336, e336, hx336_0, hx336_1⟩ := at_T47 HR0_1.1 x7_1 p336 q336
            obtain rfl : ad335 = ad336 := (by injection e336)
            replace hx336_0 := (hc_ HB hx336_0).trans hx336_0
            replace hx336_1 := (hc_ HB hx336_1).trans hx336_1
            replace p336 := eq_true p336
            replace q336 := eq_true q336
            go_wp2_with (first | (go_at_call 33; (with_reducible refine (rf_has.calls k1 _ _ l1 ((rd_T47 l0_1 x7_1).f0) true _ ?side1 ?side2 A8.1).mono ?_); (case side1 => exact (Kd.C_below HR1.1 HB.1)); (case side2 => exact HC1.1); rintro e w' ⟨rfl, ⟨nd, rfl⟩⟩))
            go_roundg k1
            case measure => have := HK1.1; omega
            case rel => exact ⟨(wrap64 (x7_1 + 1)), (by rfl), H', ⟨by have := HK1.1; omega⟩, ⟨by (with_reducible repeat (refine blk_drewN ?_ _)); exact BK334.1⟩, ⟨by repeat (with_reducible first | exact HB.1 | apply pw_below_drewN )⟩⟩
          replace c9 := Bool.eq_false_iff.mpr c9
          subst c9
          have H1 : (some false) = some r := by rw [if_neg (show ¬ (false = true) by decide)] at H; exact H
          clear H
          have H := H1
          clear H1
          obtain rfl := Option.some.inj H
          have hcz11_0 : wr.cell? ⟨gb334, 0, none⟩ = some (.int .i64 a0_0) := (blk_cell BK334.1 0).trans rfl
          have hcz11_1 : wr.cell? ⟨gb334, 1, none⟩ = some (.slice A0_1 l0_1.length c0_1) := (blk_cell BK334.1 1).trans rfl
          have hfz11_0 := blk_frozen BK334.1 0
          have hfz11_1 := blk_frozen BK334.1 1
          have p335 : 0 ≤ (x7_1 : Int) := od_
          have q335 : x7_1 < (l0_1.length : Int) := od_
          obtain ⟨ad335, e335, hx335_0, hx335_1⟩ := at_T47 HR0_1.1 x7_1 p335 q335
          cases e335
          replace hx335_0 := (hc_ HB hx335_0).trans hx335_0
          replace hx335_1 := (hc_ HB hx335_1).trans hx335_1
          replace p335 := eq_true p335
          replace q335 := eq_true q335
          have p336 : 0 ≤ (x7_1 : Int) := od_
          have q336 : x7_1 < (l0_1.length : Int) := od_
          obtain ⟨ad336, e336, hx336_0, hx336_1⟩ := at_T47 HR0_1.1 x7_1 p336 q336
          obtain rfl : ad335 = ad336 := (by injection e336)
          replace hx336_0 := (hc_ HB hx336_0).trans hx336_0
          replace hx336_1 := (hc_ HB hx336_1).trans hx336_1
          replace p336 := eq_true p336
          replace q336 := eq_true q336
          go_wp2_with (first | (go_at_call 33; (with_reducible refine (rf_has.calls k1 _ _ l1 ((rd_T47 l0_1 x7_1).f0) false _ ?side1 ?side2 A8.1).mono ?_); (case side1 => exact (Kd.C_below HR1.1 HB.1)); (case side2 => exact HC1.1); rintro e w' ⟨rfl, ⟨nd, rfl⟩⟩))
          go_ret
          exact ⟨by rfl, by repeat (with_reducible first | exact HB.1 | apply pw_below_drewN )⟩
        rw [if_neg c7] at H
        have c7b0 : (((rd_T47 l0_1 x7_1).f1) == a2) = false := beq_eq_false_iff_ne.mpr c7
        have c7b1 : (((rd_T47 l0_1 x7_1).f1) != a2) = true := bne_iff_ne.mpr c7
        have H' := ak H
        clear H
        have hcz12_0 : wr.cell? ⟨gb334, 0, none⟩ = some (.int .i64 a0_0) := (blk_cell BK334.1 0).trans rfl
        have hcz12_1 : wr.cell? ⟨gb334, 1, none⟩ = some (.slice A0_1 l0_1.length c0_1) := (blk_cell BK334.1 1).trans rfl
        have hfz12_0 := blk_frozen BK334.1 0
        have hfz12_1 := blk_frozen BK334.1 1
        have p335 : 0 ≤ (x7_1 : Int) := od_
        have q335 : x7_1 < (l0_1.length : Int) := od_
        obtain ⟨ad335, e335, hx335_0, hx335_1⟩ := at_T47 HR0_1.1 x7_1 p335 q335
        cases e335
        replace hx335_0 := (hc_ HB hx335_0).trans hx335_0
        replace hx335_1 := (hc_ HB hx335_1).trans hx335_1
        replace p335 := eq_true p335
        replace q335 := eq_true q335
        go_wp2
        go_roundg k1
        case measure => have := HK1.1; omega
        case rel => exact ⟨(wrap64 (x7_1 + 1)), (by rfl), H', ⟨by have := HK1.1; omega⟩, ⟨by exact BK334.1⟩, ⟨by repeat (with_reducible exact HB.1)⟩⟩
      rw [if_neg c6] at H
      exact absurd H (by simp)
    rw [if_neg c5] at H
    have c5b0 : decide (x7_1 < (l0_1.length : Int)) = false := decide_eq_false c5
    clear c5
    obtain rfl := Option.some.inj H
    have hcz13_0 : wr.cell? ⟨gb334, 0, none⟩ = some (.int .i64 a0_0) := (blk_cell BK334.1 0).trans rfl
    have hcz13_1 : wr.cell? ⟨gb334, 1, none⟩ = some (.slice A0_1 l0_1.length c0_1) := (blk_cell BK334.1 1).trans rfl
    have hfz13_0 := blk_frozen BK334.1 0
    have hfz13_1 := blk_frozen BK334.1 1
    go_wp2
    go_ret
    exact ⟨by rfl, by repeat (with_reducible exact HB.1)⟩

end Go.Proofs.Ytecbmcheojolnaa.XA
