-- written by xprint.py, this project's own program (wip/), over the words of print.sh
import Derived.Test.YtecbmcheojolnaaXAx0
import Derived.Test.YtecbmcheojolnaaXAx4
namespace Go.Proofs.Ytecbmcheojolnaa.XA
open Go.RowKit Go.Proofs.Ytecbmcheojolnaa.Opens Go.Proofs.YtecbmcheojolnaaW.PrintWords Go.Proofs.YtecbmcheojolnaaW.PrintLast Go.Proofs.YtecbmcheojolnaaW.PrintMore
attribute [local go_sem] max2_int min2_int max_two min_two max_three min_three max_four min_four cell_some cell_same   -- for this text's walks alone
set_option linter.unusedVariables false
set_option linter.unusedSimpArgs false

/-! ### slices_ContainsFunc_2_int_2_int_by_precedence_Check_2: function 39 -/
def slices_ContainsFunc_2_int_2_int_by_precedence_Check_2.f (k : Nat) (l0 : List (S47)) (s9_0 : Int) (s9_1 : List (S47)) : Option (Bool) := (slices_IndexFunc_2_int_2_int_by_precedence_Check_2.f k l0 s9_0 s9_1).bind fun t104 => (some (decide (t104 ≥ 0)))
theorem slices_ContainsFunc_2_int_2_int_by_precedence_Check_2.mono : ∀ a0 a1 a2 k, LeO (slices_ContainsFunc_2_int_2_int_by_precedence_Check_2.f k a0 a1 a2) (slices_ContainsFunc_2_int_2_int_by_precedence_Check_2.f (k + 1) a0 a1 a2) := by
  intro a0 a1 a2 k
  unfold slices_ContainsFunc_2_int_2_int_by_precedence_Check_2.f
  repeat' first
      | (with_reducible exact slices_IndexFunc_2_int_2_int_by_precedence_Check_2.mono _ _ _ _)
      | (with_reducible exact LeO.refl _)
      | (with_reducible refine LeO.bind ?_ (fun _ => ?_))
      
set_option maxHeartbeats 8000000 in
set_option maxRecDepth 100000 in
theorem slices_ContainsFunc_2_int_2_int_by_precedence_Check_2.calls (k : Nat) (A0 : Option Addr) (c0 : Nat) (l0 : List (S47)) (g8 : Nat) (g9 : Nat) (s9_0 : Int) (A9_1 : Option Addr) (c9_1 : Nat) (s9_1 : List (S47)) (r : Bool) (w : World) (hr0 : Kd.C k47 w A0 l0.length l0) (hc0 : l0.length ≤ c0) (hb8 : w.heap[g8]? = some (.cells #[.func (.func 38) #[] #[.pointer (some ⟨g9, 0, none⟩)]] 59 (0, 0))) (hb9 : w.heap[g9]? = some (.cells #[.int .i64 s9_0, .slice A9_1 s9_1.length c9_1] 31 (0, 0))) (hr9_1 : Kd.C k47 w A9_1 s9_1.length s9_1) (hc9_1 : s9_1.length ≤ c9_1) (h : slices_ContainsFunc_2_int_2_int_by_precedence_Check_2.f k l0 s9_0 s9_1 = some r) :
    Calls Try.prog 39 #[.slice A0 l0.length c0, .func (.func 40) #[] #[.pointer (some ⟨g8, 0, none⟩)]] w fun e w' => e = .returned (.bool r) ∧ Below w.heap.size w w' := by
  have HR0 := ak hr0
  have HC0 := ak hc0
  clear hr0 hc0
  have BK8 := ak hb8
  clear hb8
  have BK9 := ak hb9
  clear hb9
  have HR9_1 := ak hr9_1
  have HC9_1 := ak hc9_1
  clear hr9_1 hc9_1
  have HB := ak (Below.refl w.heap.size w)
  have H : ((slices_IndexFunc_2_int_2_int_by_precedence_Check_2.f k l0 s9_0 s9_1).bind fun t104 => (some (decide (t104 ≥ 0)))) = some r := h
  clear h
  replace H := Option.bind_eq_some_iff.mp H
  obtain ⟨t104, A30, H⟩ := H
  replace H : (some (decide (t104 ≥ 0))) = some r := H
  have A3 := ak A30
  clear A30
  obtain rfl := Option.some.inj H
  go_enter Try.func39, Try.ntmps39
  go_wp2_with (first | ((with_reducible refine gate_callee (f := 44) rfl ?_); refine goesL_ (some 7) rfl rfl Try.func44 (by kernel_rfl) rfl #[.slice A0 l0.length c0, .func (.func 40) #[] #[.pointer (some ⟨g8, 0, none⟩)]] rfl am_ ?_; (with_reducible refine (slices_IndexFunc_2_int_2_int_by_precedence_Check_2.calls k _ _ l0 g8 g9 s9_0 A9_1 c9_1 s9_1 t104 _ ?side1 ?side2 ?side3 ?side4 ?side5 ?side6 A3.1).mono ?_); (case side1 => exact HR0.1); (case side2 => exact HC0.1); (case side3 => exact (by exact BK8.1)); (case side4 => exact (by exact BK9.1)); (case side5 => exact HR9_1.1); (case side6 => exact HC9_1.1); rintro e w4 ⟨rfl, hb⟩; refine ⟨_, rfl, ?_⟩; have n0_ := ak (blk_below (g := g8) (o := .cells #[.func (.func 38) #[] #[.pointer (some ⟨g9, 0, none⟩)]] 59 (0, 0)) (by exact BK8.1) hb); have n1_ := ak (blk_below (g := g9) (o := .cells #[.int .i64 s9_0, .slice A9_1 s9_1.length c9_1] 31 (0, 0)) (by exact BK9.1) hb); have n2_ := ak (below_step HB.1 hb); clear BK8; clear BK9; clear HB; have BK8 := n0_; have BK9 := n1_; have HB := n2_; clear n0_ n1_ n2_; (try clear hb)))
  go_ret
  exact ⟨by rfl, by repeat (with_reducible exact HB.1)⟩

end Go.Proofs.Ytecbmcheojolnaa.XA
