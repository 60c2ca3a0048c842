-- written by xprint.py, this project's own program (wip/), over the words of print.sh
import Derived.Test.YtecbmcheojolnaaXAx0
import Derived.Test.YtecbmcheojolnaaXAx17
namespace Go.Proofs.Ytecbmcheojolnaa.XA
open Go.RowKit Go.Proofs.Ytecbmcheojolnaa.Opens Go.Proofs.YtecbmcheojolnaaW.PrintWords Go.Proofs.YtecbmcheojolnaaW.PrintLast Go.Proofs.YtecbmcheojolnaaW.PrintMore
attribute [local go_sem] max2_int min2_int max_two min_two max_three min_three max_four min_four cell_some cell_same   -- for this text's walks alone
set_option linter.unusedVariables false
set_option linter.unusedSimpArgs false

/-! ### slices_ContainsFunc_int_int_by_precedence_Reduce_1: function 35 -/
def slices_ContainsFunc_int_int_by_precedence_Reduce_1.f (k : Nat) (l0 : List Int) (s8_0 : List (List Bool)) (s9_0 : Int) (s9_1 : Int) : Option (Bool) := (slices_IndexFunc_int_int_by_precedence_Reduce_1.f k l0 s8_0 s9_0 s9_1).bind fun t216 => (some (decide (t216 ≥ 0)))
theorem slices_ContainsFunc_int_int_by_precedence_Reduce_1.mono : ∀ a0 a1 a2 a3 k, LeO (slices_ContainsFunc_int_int_by_precedence_Reduce_1.f k a0 a1 a2 a3) (slices_ContainsFunc_int_int_by_precedence_Reduce_1.f (k + 1) a0 a1 a2 a3) := by
  intro a0 a1 a2 a3 k
  unfold slices_ContainsFunc_int_int_by_precedence_Reduce_1.f
  repeat' first
      | (with_reducible exact slices_IndexFunc_int_int_by_precedence_Reduce_1.mono _ _ _ _ _)
      | (with_reducible exact LeO.refl _)
      | (with_reducible refine LeO.bind ?_ (fun _ => ?_))
      
set_option maxHeartbeats 8000000 in
set_option maxRecDepth 100000 in
theorem slices_ContainsFunc_int_int_by_precedence_Reduce_1.calls (k : Nat) (A0 : Option Addr) (c0 : Nat) (l0 : List Int) (g8 : Nat) (A8_0 : Option Addr) (c8_0 : Nat) (s8_0 : List (List Bool)) (g9 : Nat) (s9_0 : Int) (s9_1 : Int) (r : Bool) (w : World) (hr0 : Kd.C (Kd.int .i64) w A0 l0.length l0) (hc0 : l0.length ≤ c0) (hb8 : w.heap[g8]? = some (.cells #[.slice A8_0 s8_0.length c8_0] 57 (0, 0))) (hr8_0 : Kd.C (Kd.slice 4 Kd.bool) w A8_0 s8_0.length s8_0) (hc8_0 : s8_0.length ≤ c8_0) (hb9 : w.heap[g9]? = some (.cells #[.int .i64 s9_0, .int .i64 s9_1] 47 (0, 0))) (h : slices_ContainsFunc_int_int_by_precedence_Reduce_1.f k l0 s8_0 s9_0 s9_1 = some r) :
    Calls Try.prog 35 #[.slice A0 l0.length c0, .func (.func 36) #[] #[.pointer (some ⟨g8, 0, none⟩), .pointer (some ⟨g9, 0, none⟩)]] w fun e w' => e = .returned (.bool r) ∧ Drawn0 w w' := by
  have HR0 := ak hr0
  have HC0 := ak hc0
  clear hr0 hc0
  have BK8 := ak hb8
  clear hb8
  have HR8_0 := ak hr8_0
  have HC8_0 := ak hc8_0
  clear hr8_0 hc8_0
  have BK9 := ak hb9
  clear hb9
  have H : ((slices_IndexFunc_int_int_by_precedence_Reduce_1.f k l0 s8_0 s9_0 s9_1).bind fun t216 => (some (decide (t216 ≥ 0)))) = some r := h
  clear h
  replace H := Option.bind_eq_some_iff.mp H
  obtain ⟨t216, A30, H⟩ := H
  replace H : (some (decide (t216 ≥ 0))) = some r := H
  have A3 := ak A30
  clear A30
  obtain rfl := Option.some.inj H
  go_enter Try.func35, Try.ntmps35
  go_wp2_with (first | ((with_reducible refine gate_callee (f := 43) rfl ?_); refine goesL_ (some 7) rfl rfl Try.func43 (by kernel_rfl) rfl #[.slice A0 l0.length c0, .func (.func 36) #[] #[.pointer (some ⟨g8, 0, none⟩), .pointer (some ⟨g9, 0, none⟩)]] rfl am_ ?_; (with_reducible refine (slices_IndexFunc_int_int_by_precedence_Reduce_1.calls k _ _ l0 g8 A8_0 c8_0 s8_0 g9 s9_0 s9_1 t216 _ ?side1 ?side2 ?side3 ?side4 ?side5 ?side6 A3.1).mono ?_); (case side1 => exact HR0.1); (case side2 => exact HC0.1); (case side3 => exact (by exact BK8.1)); (case side4 => exact HR8_0.1); (case side5 => exact HC8_0.1); (case side6 => exact (by exact BK9.1)); rintro e w' ⟨rfl, ⟨nd, rfl⟩⟩; refine ⟨_, rfl, ?_⟩))
  go_ret
  exact ⟨by rfl, by repeat (first | exact Drawn0.refl _ | apply Drawn0.step)⟩

end Go.Proofs.Ytecbmcheojolnaa.XA
