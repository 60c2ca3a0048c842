import Derived.Test.YtglkcinmohjblaaDoorXAx13
import Derived.Test.YtglkcinmohjblaaDoorXAx24
namespace Go.Proofs.YtglkcinmohjblaaDoor.XA
open Go.RowKit Opens YtglkcinmohjblaaDoorW.PrintWords YtglkcinmohjblaaDoorW.PrintLast YtglkcinmohjblaaDoorW.PrintMore
attribute [local go_sem] max2_int min2_int max_two min_two max_three min_three max_four min_four cell_some cell_same
set_option linter.unusedVariables false
set_option linter.unusedSimpArgs false

def m_Proof.f (k : Nat) (l0 : List (S62))  : Option ((List (S51)) × Int) := (m_check.f k l0).bind fun t275 => (if t275 = 0 then ((m_least.f k l0 0 (l0.length : Int)).bind fun t276 => (some (t276, 0))) else (some (([] : List (S51)), t275)))
theorem m_Proof.mono : ∀ a0 k, LeO (m_Proof.f k a0) (m_Proof.f (k + 1) a0) := by
  intro a0 k
  unfold m_Proof.f
  repeat' first
      | (with_reducible exact m_check.mono _ _)
      | (with_reducible exact m_least.mono _ _ _ _)
      | (with_reducible exact LeO.refl _)
      | (with_reducible refine LeO.ite ?_ ?_)
      | (with_reducible refine LeO.bind ?_ (fun _ => ?_))
      
set_option maxHeartbeats 8000000 in
set_option maxRecDepth 100000 in
theorem m_Proof.calls (k : Nat) (A0 : Option Addr) (c0 : Nat) (l0 : List (S62)) (tg0 : TypeId) (r1 : List (S51)) (r2 : Int) (w : World) (hr0 : Kd.C k62 w A0 l0.length l0) (hc0 : l0.length ≤ c0) (hb8 : w.heap[0]? = some (.cells #[.bool false, .bool true] tg0 (0, 0))) (h : m_Proof.f k l0 = some (r1, r2)) :
    Calls Tryd.prog 25 #[.slice A0 l0.length c0] w fun e w' => ∃ v0_ : Value, e = .returned (.tuple #[v0_, .int .i64 r2]) ∧ Kd.R k51 51 w' w.heap.size (fun _ => True) v0_ r1 ∧ Below w.heap.size w w' := by
  have HR0 := ak hr0
  have HC0 := ak hc0
  clear hr0 hc0
  have GL8 := blk_lt hb8
  have BK8 := ak hb8
  clear hb8
  have HB := ak (Below.refl w.heap.size w)
  have H : ((m_check.f k l0).bind fun t275 => (if t275 = 0 then ((m_least.f k l0 0 (l0.length : Int)).bind fun t276 => (some (t276, 0))) else (some (([] : List (S51)), t275)))) = some (r1, r2) := h
  clear h
  replace H := Option.bind_eq_some_iff.mp H
  obtain ⟨t275, A30, H⟩ := H
  replace H : (if t275 = 0 then ((m_least.f k l0 0 (l0.length : Int)).bind fun t276 => (some (t276, 0))) else (some (([] : List (S51)), t275))) = some (r1, r2) := H
  have A3 := ak A30
  clear A30
  by_cases c4 : t275 = 0
  · rw [if_pos c4] at H
    have c4b0 : (t275 == 0) = true := beq_iff_eq.mpr c4
    have c4b1 : (t275 != 0) = false := bne_eq_false_iff_eq.mpr c4
    clear c4
    replace H := Option.bind_eq_some_iff.mp H
    obtain ⟨t276, A50, H⟩ := H
    replace H : (some (t276, 0)) = some (r1, r2) := H
    have A5 := ak A50
    clear A50
    simp only [Option.some.injEq, Prod.mk.injEq] at H
    obtain ⟨rfl, rfl⟩ := H
    go_enter Tryd.func25, Tryd.ntmps25
    go_wp2_with (first | ((with_reducible refine gate_callee (f := 34) rfl ?_); refine goesL_ (some 6) rfl rfl Tryd.func34 (by kernel_rfl) rfl #[.slice A0 l0.length c0] rfl am_ ?_; (with_reducible refine (m_check.calls k (fun k_ => k_ < w.heap.size) _ _ l0 t275 _ ?side1 A3.1).mono ?_); (case side1 => exact Kd.V_mk HC0.1 (Kd.F_below (Kd.C_F k62_heap HR0.1) HB.1)); rintro e w6 ⟨rfl, hb⟩; refine ⟨_, rfl, ?_⟩; have n0_ := bg0 (t := tg0) (by exact BK8.1) hb; have n1_ := ak (below_step HB.1 hb); clear BK8; clear HB; have BK8 := n0_; have HB := n1_; clear n0_ n1_; (try clear hb)) | ((with_reducible refine gate_callee (f := 43) rfl ?_); refine goesL_ (some 13) rfl rfl Tryd.func43 (by kernel_rfl) rfl #[.slice A0 l0.length c0, .int .i64 0, .int .i64 (l0.length : Int)] rfl am_ ?_; (with_reducible refine (m_least.calls k _ _ l0 0 (l0.length : Int) tg0 t276 _ ?side1 ?side2 ?side3 A5.1).mono ?_); (case side1 => exact (Kd.C_below HR0.1 HB.1)); (case side2 => exact HC0.1); (case side3 => exact (by exact BK8.1)); rintro e w7 ⟨v277, rfl, ho0, hb⟩; refine ⟨_, rfl, ?_⟩; have n0_ := ak (Kd.R_lower ho0 (below_size HB.1)); have n1_ := bg0 (t := tg0) (by exact BK8.1) hb; have n2_ := ak (below_step HB.1 hb); clear BK8; clear HB; have HO278 := n0_; have BK8 := n1_; have HB := n2_; clear n0_ n1_ n2_; (try clear hb); (try clear ho0)))
    go_ret2
    exact ⟨_, by rfl, by exact HO278.1, by repeat (with_reducible exact HB.1)⟩
  rw [if_neg c4] at H
  have c4b0 : (t275 == 0) = false := beq_eq_false_iff_ne.mpr c4
  have c4b1 : (t275 != 0) = true := bne_iff_ne.mpr c4
  simp only [Option.some.injEq, Prod.mk.injEq] at H
  obtain ⟨rfl, rfl⟩ := H
  go_enter Tryd.func25, Tryd.ntmps25
  go_wp2_with (first | ((with_reducible refine gate_callee (f := 34) rfl ?_); refine goesL_ (some 6) rfl rfl Tryd.func34 (by kernel_rfl) rfl #[.slice A0 l0.length c0] rfl am_ ?_; (with_reducible refine (m_check.calls k (fun k_ => k_ < w.heap.size) _ _ l0 t275 _ ?side1 A3.1).mono ?_); (case side1 => exact Kd.V_mk HC0.1 (Kd.F_below (Kd.C_F k62_heap HR0.1) HB.1)); rintro e w8 ⟨rfl, hb⟩; refine ⟨_, rfl, ?_⟩; have n0_ := bg0 (t := tg0) (by exact BK8.1) hb; have n1_ := ak (below_step HB.1 hb); clear BK8; clear HB; have BK8 := n0_; have HB := n1_; clear n0_ n1_; (try clear hb)))
  go_ret2
  exact ⟨_, by rfl, by exact Kd.R_nil _ _ _ _ _, by repeat (with_reducible exact HB.1)⟩

end Go.Proofs.YtglkcinmohjblaaDoor.XA
