import Derived.Test.YtglkcinmohjblaaDoorXAx11
namespace Go.Proofs.YtglkcinmohjblaaDoor.XA
open Go.RowKit Opens YtglkcinmohjblaaDoorW.PrintWords YtglkcinmohjblaaDoorW.PrintLast YtglkcinmohjblaaDoorW.PrintMore
attribute [local go_sem] max2_int min2_int max_two min_two max_three min_three max_four min_four cell_some cell_same
set_option linter.unusedVariables false
set_option linter.unusedSimpArgs false

def s_46_by_bookmatch_check_1.f (k : Nat) (l0 : List (S62)) (s8_0 : Int) : Option (Bool) := (s_52_by_bookmatch_check_1.f k l0 s8_0).bind fun t121 => (some (decide (t121 ≥ 0)))
theorem s_46_by_bookmatch_check_1.mono : ∀ a0 a1 k, LeO (s_46_by_bookmatch_check_1.f k a0 a1) (s_46_by_bookmatch_check_1.f (k + 1) a0 a1) := by
  intro a0 a1 k
  unfold s_46_by_bookmatch_check_1.f
  repeat' first
      | (with_reducible exact s_52_by_bookmatch_check_1.mono _ _ _)
      | (with_reducible exact LeO.refl _)
      | (with_reducible refine LeO.bind ?_ (fun _ => ?_))
      
set_option maxHeartbeats 8000000 in
set_option maxRecDepth 100000 in
theorem s_46_by_bookmatch_check_1.calls (k : Nat) (A0 : Option Addr) (c0 : Nat) (l0 : List (S62)) (g8 : Nat) (s8_0 : Int) (r : Bool) (w : World) (hr0 : Kd.C k62 w A0 l0.length l0) (hc0 : l0.length ≤ c0) (hb8 : w.heap[g8]? = some (.cells #[.int .i64 s8_0] 3 (0, 0))) (h : s_46_by_bookmatch_check_1.f k l0 s8_0 = some r) :
    Calls Tryd.prog 46 #[.slice A0 l0.length c0, .func (.func 47) #[] #[.pointer (some ⟨g8, 0, none⟩)]] w fun e w' => e = .returned (.bool r) ∧ Below w.heap.size w w' := by
  have HR0 := ak hr0
  have HC0 := ak hc0
  clear hr0 hc0
  have BK8 := ak hb8
  clear hb8
  have HB := ak (Below.refl w.heap.size w)
  have H : ((s_52_by_bookmatch_check_1.f k l0 s8_0).bind fun t121 => (some (decide (t121 ≥ 0)))) = some r := h
  clear h
  replace H := Option.bind_eq_some_iff.mp H
  obtain ⟨t121, A30, H⟩ := H
  replace H : (some (decide (t121 ≥ 0))) = some r := H
  have A3 := ak A30
  clear A30
  obtain rfl := Option.some.inj H
  go_enter Tryd.func46, Tryd.ntmps46
  go_wp2_with (first | (go_at_call 52; (with_reducible refine (s_52_by_bookmatch_check_1.calls k _ _ l0 g8 s8_0 t121 _ ?side1 ?side2 ?side3 A3.1).mono ?_); (case side1 => exact HR0.1); (case side2 => exact HC0.1); (case side3 => exact (by exact BK8.1)); rintro e w4 ⟨rfl, hb⟩; have n0_ := ak (blk_below (g := g8) (o := .cells #[.int .i64 s8_0] 3 (0, 0)) (by exact BK8.1) hb); have n1_ := ak (below_step HB.1 hb); clear BK8; clear HB; have BK8 := n0_; have HB := n1_; clear n0_ n1_; (try clear hb)))
  go_ret
  exact ⟨by rfl, by repeat (with_reducible exact HB.1)⟩

end Go.Proofs.YtglkcinmohjblaaDoor.XA
