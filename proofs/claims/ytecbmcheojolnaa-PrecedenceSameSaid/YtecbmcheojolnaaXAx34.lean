-- written by xprint.py, this project's own program (wip/), over the words of print.sh
import Derived.Test.YtecbmcheojolnaaXAx0
namespace Go.Proofs.Ytecbmcheojolnaa.XA
open Go.RowKit Go.Proofs.Ytecbmcheojolnaa.Opens Go.Proofs.YtecbmcheojolnaaW.PrintWords Go.Proofs.YtecbmcheojolnaaW.PrintLast Go.Proofs.YtecbmcheojolnaaW.PrintMore
attribute [local go_sem] max2_int min2_int max_two min_two max_three min_three max_four min_four cell_some cell_same   -- for this text's walks alone
set_option linter.unusedVariables false
set_option linter.unusedSimpArgs false

/-! ### rf_Edge: function 27 -/
def rf_Edge.l0 : Nat → Int → Int → Int → Int → List (S47) → Option (Bool)
  | 0, _, _, _, _, _ => none
  | k + 1, x1, x2, x7, x404000, x404001 => if x7 < (x404001.length : Int) then (if 0 ≤ x7 then (if ((rd_T47 x404001 x7).f0) = x1 then (if ((rd_T47 x404001 x7).f1) = x2 then (some true) else (rf_Edge.l0 k x1 x2 (wrap64 (x7 + 1)) x404000 x404001)) else (rf_Edge.l0 k x1 x2 (wrap64 (x7 + 1)) x404000 x404001)) else (none)) else (some false)
def rf_Edge.f (k : Nat) (a0_0 : Int) (l0_1 : List (S47)) (a1 : Int) (a2 : Int) : Option (Bool) := rf_Edge.l0 k a1 a2 0 a0_0 l0_1
theorem rf_Edge.mono_l : ∀ k, (∀ y0 y1 y2 y3 y4, LeO (rf_Edge.l0 k y0 y1 y2 y3 y4) (rf_Edge.l0 (k + 1) y0 y1 y2 y3 y4))
  | 0 => fun _ _ _ _ _ r h => by simp [rf_Edge.l0] at h
  | k + 1 => by
    have ih0 := rf_Edge.mono_l k
    intro y0 y1 y2 y3 y4
    unfold rf_Edge.l0
    repeat' first
    | (with_reducible exact ih0 _ _ _ _ _)
    | (with_reducible exact LeO.refl _)
    | (with_reducible refine LeO.ite ?_ ?_)
      
theorem rf_Edge.mono : ∀ a0 a1 a2 a3 k, LeO (rf_Edge.f k a0 a1 a2 a3) (rf_Edge.f (k + 1) a0 a1 a2 a3) := by
  intro a0 a1 a2 a3 k
  have ih0 := rf_Edge.mono_l k
  unfold rf_Edge.f
  repeat' (with_reducible exact ih0 _ _ _ _ _)
set_option maxHeartbeats 8000000 in
set_option maxRecDepth 100000 in
theorem rf_Edge.calls (k : Nat) (a0_0 : Int) (A0_1 : Option Addr) (c0_1 : Nat) (l0_1 : List (S47)) (a1 : Int) (a2 : Int) (r : Bool) (w : World) (hr0_1 : Kd.C k47 w A0_1 l0_1.length l0_1) (hc0_1 : l0_1.length ≤ c0_1) (h : rf_Edge.f k a0_0 l0_1 a1 a2 = some r) :
    Calls Try.prog 27 #[.agg #[.int .i64 a0_0, .slice A0_1 l0_1.length c0_1], .int .i64 a1, .int .i64 a2] w fun e w' => e = .returned (.bool r) ∧ Below w.heap.size w w' := by
  have hu24 := Try.underlying24
  have hu47 := Try.underlying47
  have HR0_1 := ak hr0_1
  have HC0_1 := ak hc0_1
  clear hr0_1 hc0_1
  have HB := ak (Below.refl w.heap.size w)
  have H : (rf_Edge.l0 k a1 a2 0 a0_0 l0_1) = some r := h
  clear h
  have H' := ak H
  clear H
  go_enter Try.func27, Try.ntmps27
  go_wp2_with (first | ((with_reducible refine gate_dst (N := 3) rfl ?_); refine box_event ?hg (N := 3) ?hd (cs := #[.int .i64 a0_0, .slice A0_1 l0_1.length c0_1]) (t := 24) ?hr ?_; (case hd => rfl); (case hg => rfl); (case hr => (go_simp; done)); intro gb403 hg w4 hbox hb; have n0_ := ak (below_step HB.1 hb); have n1_ := ak (hbox); have n2_ := ak ((by rw [hg]; exact (below_size HB.1) : w.heap.size ≤ gb403)); have n3_ := ak ((by rw [hg]; exact (below_size HB.1) : w.heap.size ≤ gb403)); clear HB; have HB := n0_; have BK403 := n1_; have GW403 := n2_; have GE403 := n3_; clear n0_ n1_ n2_ n3_; clear hb hbox hg))
  go_loopg [7] k (fun kq v7 w' => ∃ (x7_1 : Int), v7 = .int .i64 x7_1 ∧ Aside0 (rf_Edge.l0 kq a1 a2 x7_1 a0_0 l0_1 = some r) ∧ Aside0 (kq ≤ k) ∧ Aside0 (w'.heap[gb403]? = some (.cells #[.int .i64 a0_0, (.slice A0_1 l0_1.length c0_1)] 24 (0, 0))) ∧ Aside0 (Below w.heap.size w w'))
  case atStart => exact ⟨(0), (by rfl), H', ⟨Nat.le_refl _⟩, ⟨by exact BK403.1⟩, ⟨by repeat (with_reducible exact HB.1)⟩⟩
  clear H'
  obtain ⟨x7_1, rfl, HA, HK1, BK403, HB⟩ := hrel
  cases gk with
  | zero => exact absurd HA.1 (by simp [rf_Edge.l0])
  | succ k1 =>
    have H := HA.1
    clear HA
    simp only [rf_Edge.l0] at H
    by_cases c5 : x7_1 < (l0_1.length : Int)
    · rw [if_pos c5] at H
      have c5b0 : decide (x7_1 < (l0_1.length : Int)) = true := decide_eq_true c5
      clear c5
      by_cases c6 : 0 ≤ x7_1
      · rw [if_pos c6] at H
        have c6b0 : decide (0 ≤ x7_1) = true := decide_eq_true c6
        clear c6
        by_cases c7 : ((rd_T47 l0_1 x7_1).f0) = a1
        · rw [if_pos c7] at H
          have c7b0 : (((rd_T47 l0_1 x7_1).f0) == a1) = true := beq_iff_eq.mpr c7
          have c7b1 : (((rd_T47 l0_1 x7_1).f0) != a1) = false := bne_eq_false_iff_eq.mpr c7
          clear c7
          by_cases c8 : ((rd_T47 l0_1 x7_1).f1) = a2
          · rw [if_pos c8] at H
            have c8b0 : (((rd_T47 l0_1 x7_1).f1) == a2) = true := beq_iff_eq.mpr c8
            have c8b1 : (((rd_T47 l0_1 x7_1).f1) != a2) = false := bne_eq_false_iff_eq.mpr c8
            clear c8
            obtain rfl := Option.some.inj H
            have hcz9_0 : wr.cell? ⟨gb403, 0, none⟩ = some (.int .i64 a0_0) := (blk_cell BK403.1 0).trans rfl
            have hcz9_1 : wr.cell? ⟨gb403, 1, none⟩ = some (.slice A0_1 l0_1.length c0_1) := (blk_cell BK403.1 1).trans rfl
            have hfz9_0 := blk_frozen BK403.1 0
            have hfz9_1 := blk_frozen BK403.1 1
            have p404 : 0 ≤ (x7_1 : Int) := od_
            have q404 : x7_1 < (l0_1.length : Int) := od_
            obtain ⟨ad404, e404, hx404_0, hx404_1⟩ := at_T47 HR0_1.1 x7_1 p404 q404
            cases e404
            replace hx404_0 := (hc_ HB hx404_0).trans hx404_0
            replace hx404_1 := (hc_ HB hx404_1).trans hx404_1
            replace p404 := eq_true p404
            replace q404 := eq_true q404
            have p405 : 0 ≤ (x7_1 : Int) := od_
            have q405 : x7_1 < (l0_1.length : Int) := od_
            obtain ⟨ad405, e405, hx405_0, hx405_1⟩ := at_T47 HR0_1.1 x7_1 p405 q405
            obtain rfl : ad404 = ad405 := (by injection e405)
            replace hx405_0 := (hc_ HB hx405_0).trans hx405_0
            replace hx405_1 := (hc_ HB hx405_1).trans hx405_1
            replace p405 := eq_true p405
            replace q405 := eq_true q405
            go_wp2
            go_ret
            exact ⟨by rfl, by repeat (with_reducible exact HB.1)⟩
          rw [if_neg c8] at H
          have c8b0 : (((rd_T47 l0_1 x7_1).f1) == a2) = false := beq_eq_false_iff_ne.mpr c8
          have c8b1 : (((rd_T47 l0_1 x7_1).f1) != a2) = true := bne_iff_ne.mpr c8
          have H' := ak H
          clear H
          have hcz10_0 : wr.cell? ⟨gb403, 0, none⟩ = some (.int .i64 a0_0) := (blk_cell BK403.1 0).trans rfl
          have hcz10_1 : wr.cell? ⟨gb403, 1, none⟩ = some (.slice A0_1 l0_1.length c0_1) := (blk_cell BK403.1 1).trans rfl
          have hfz10_0 := blk_frozen BK403.1 0
          have hfz10_1 := blk_frozen BK403.1 1
          have p404 : 0 ≤ (x7_1 : Int) := od_
          have q404 : x7_1 < (l0_1.length : Int) := od_
          obtain ⟨ad404, e404, hx404_0, hx404_1⟩ := at_T47 HR0_1.1 x7_1 p404 q404
          cases e404
          replace hx404_0 := (hc_ HB hx404_0).trans hx404_0
          replace hx404_1 := (hc_ HB hx404_1).trans hx404_1
          replace p404 := eq_true p404
          replace q404 := eq_true q404
          have p405 : 0 ≤ (x7_1 : Int) := od_
          have q405 : x7_1 < (l0_1.length : Int) := od_
          obtain ⟨ad405, e405, hx405_0, hx405_1⟩ := at_T47 HR0_1.1 x7_1 p405 q405
          obtain rfl : ad404 = ad405 := (by injection e405)
          replace hx405_0 := (hc_ HB hx405_0).trans hx405_0
          replace hx405_1 := (hc_ HB hx405_1).trans hx405_1
          replace p405 := eq_true p405
          replace q405 := eq_true q405
          go_wp2
          go_roundg k1
          case measure => have := HK1.1; omega
          case rel => exact ⟨(wrap64 (x7_1 + 1)), (by rfl), H', ⟨by have := HK1.1; omega⟩, ⟨by exact BK403.1⟩, ⟨by repeat (with_reducible exact HB.1)⟩⟩
        rw [if_neg c7] at H
        have c7b0 : (((rd_T47 l0_1 x7_1).f0) == a1) = false := beq_eq_false_iff_ne.mpr c7
        have c7b1 : (((rd_T47 l0_1 x7_1).f0) != a1) = true := bne_iff_ne.mpr c7
        have H' := ak H
        clear H
        have hcz11_0 : wr.cell? ⟨gb403, 0, none⟩ = some (.int .i64 a0_0) := (blk_cell BK403.1 0).trans rfl
        have hcz11_1 : wr.cell? ⟨gb403, 1, none⟩ = some (.slice A0_1 l0_1.length c0_1) := (blk_cell BK403.1 1).trans rfl
        have hfz11_0 := blk_frozen BK403.1 0
        have hfz11_1 := blk_frozen BK403.1 1
        have p404 : 0 ≤ (x7_1 : Int) := od_
        have q404 : x7_1 < (l0_1.length : Int) := od_
        obtain ⟨ad404, e404, hx404_0, hx404_1⟩ := at_T47 HR0_1.1 x7_1 p404 q404
        cases e404
        replace hx404_0 := (hc_ HB hx404_0).trans hx404_0
        replace hx404_1 := (hc_ HB hx404_1).trans hx404_1
        replace p404 := eq_true p404
        replace q404 := eq_true q404
        go_wp2
        go_roundg k1
        case measure => have := HK1.1; omega
        case rel => exact ⟨(wrap64 (x7_1 + 1)), (by rfl), H', ⟨by have := HK1.1; omega⟩, ⟨by exact BK403.1⟩, ⟨by repeat (with_reducible exact HB.1)⟩⟩
      rw [if_neg c6] at H
      exact absurd H (by simp)
    rw [if_neg c5] at H
    have c5b0 : decide (x7_1 < (l0_1.length : Int)) = false := decide_eq_false c5
    clear c5
    obtain rfl := Option.some.inj H
    have hcz12_0 : wr.cell? ⟨gb403, 0, none⟩ = some (.int .i64 a0_0) := (blk_cell BK403.1 0).trans rfl
    have hcz12_1 : wr.cell? ⟨gb403, 1, none⟩ = some (.slice A0_1 l0_1.length c0_1) := (blk_cell BK403.1 1).trans rfl
    have hfz12_0 := blk_frozen BK403.1 0
    have hfz12_1 := blk_frozen BK403.1 1
    go_wp2
    go_ret
    exact ⟨by rfl, by repeat (with_reducible exact HB.1)⟩

end Go.Proofs.Ytecbmcheojolnaa.XA
