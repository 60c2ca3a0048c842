import Derived.Test.YtglkcinmohjblaaDoorXAx13
import Derived.Test.YtglkcinmohjblaaDoorXAx25
namespace Go.Proofs.YtglkcinmohjblaaDoor.XA
open Go.RowKit Opens YtglkcinmohjblaaDoorW.PrintWords YtglkcinmohjblaaDoorW.PrintLast YtglkcinmohjblaaDoorW.PrintMore
attribute [local go_sem] max2_int min2_int max_two min_two max_three min_three max_four min_four cell_some cell_same
set_option linter.unusedVariables false
set_option linter.unusedSimpArgs false

def m_Sequence.f (k : Nat) (l0 : List (S62))  : Option ((List (S39)) × Int × Int) := (m_check.f k l0).bind fun t262 => (if t262 = 0 then ((m_first.f k l0 0 (l0.length : Int)).bind fun bt263 => (some (bt263.1, bt263.2, 0))) else (some (([] : List (S39)), 0, t262)))
theorem m_Sequence.mono : ∀ a0 k, LeO (m_Sequence.f k a0) (m_Sequence.f (k + 1) a0) := by
  intro a0 k
  unfold m_Sequence.f
  repeat' first
      | (with_reducible exact m_check.mono _ _)
      | (with_reducible exact m_first.mono _ _ _ _)
      | (with_reducible exact LeO.refl _)
      | (with_reducible refine LeO.ite ?_ ?_)
      | (with_reducible refine LeO.bind ?_ (fun _ => ?_))
      
set_option maxHeartbeats 8000000 in
set_option maxRecDepth 100000 in
theorem m_Sequence.calls (k : Nat) (A0 : Option Addr) (c0 : Nat) (l0 : List (S62)) (tg0 : TypeId) (r1 : List (S39)) (r2 : Int) (r3 : Int) (w : World) (hr0 : Kd.C k62 w A0 l0.length l0) (hc0 : l0.length ≤ c0) (hb8 : w.heap[0]? = some (.cells #[.bool false, .bool true] tg0 (0, 0))) (h : m_Sequence.f k l0 = some (r1, r2, r3)) :
    Calls Tryd.prog 21 #[.slice A0 l0.length c0] w fun e w' => ∃ v0_ : Value, e = .returned (.tuple #[v0_, .int .i64 r2, .int .i64 r3]) ∧ Kd.R k39 39 w' w.heap.size (fun _ => True) v0_ r1 ∧ Below w.heap.size w w' := by
  have HR0 := ak hr0
  have HC0 := ak hc0
  clear hr0 hc0
  have GL8 := blk_lt hb8
  have BK8 := ak hb8
  clear hb8
  have HB := ak (Below.refl w.heap.size w)
  have H : ((m_check.f k l0).bind fun t262 => (if t262 = 0 then ((m_first.f k l0 0 (l0.length : Int)).bind fun bt263 => (some (bt263.1, bt263.2, 0))) else (some (([] : List (S39)), 0, t262)))) = some (r1, r2, r3) := h
  clear h
  replace H := Option.bind_eq_some_iff.mp H
  obtain ⟨t262, A30, H⟩ := H
  replace H : (if t262 = 0 then ((m_first.f k l0 0 (l0.length : Int)).bind fun bt263 => (some (bt263.1, bt263.2, 0))) else (some (([] : List (S39)), 0, t262))) = some (r1, r2, r3) := H
  have A3 := ak A30
  clear A30
  by_cases c4 : t262 = 0
  · rw [if_pos c4] at H
    have c4b0 : (t262 == 0) = true := beq_iff_eq.mpr c4
    have c4b1 : (t262 != 0) = false := bne_eq_false_iff_eq.mpr c4
    clear c4
    replace H := Option.bind_eq_some_iff.mp H
    obtain ⟨⟨t263, t264⟩, A50, H⟩ := H
    replace H : (some (t263, t264, 0)) = some (r1, r2, r3) := H
    have A5 := ak A50
    clear A50
    simp only [Option.some.injEq, Prod.mk.injEq] at H
    obtain ⟨rfl, rfl, rfl⟩ := H
    go_enter Tryd.func21, Tryd.ntmps21
    go_wp2_with (first | ((with_reducible refine gate_callee (f := 34) rfl ?_); refine goesL_ (some 9) rfl rfl Tryd.func34 (by kernel_rfl) rfl #[.slice A0 l0.length c0] rfl am_ ?_; (with_reducible refine (m_check.calls k (fun k_ => k_ < w.heap.size) _ _ l0 t262 _ ?side1 A3.1).mono ?_); (case side1 => exact Kd.V_mk HC0.1 (Kd.F_below (Kd.C_F k62_heap HR0.1) HB.1)); rintro e w6 ⟨rfl, hb⟩; refine ⟨_, rfl, ?_⟩; have n0_ := bg0 (t := tg0) (by exact BK8.1) hb; have n1_ := ak (below_step HB.1 hb); clear BK8; clear HB; have BK8 := n0_; have HB := n1_; clear n0_ n1_; (try clear hb)) | ((with_reducible refine gate_callee (f := 35) rfl ?_); refine goesL_ (some 17) rfl rfl Tryd.func35 (by kernel_rfl) rfl #[.slice A0 l0.length c0, .int .i64 0, .int .i64 (l0.length : Int)] rfl am_ ?_; (with_reducible refine (m_first.calls k _ _ l0 0 (l0.length : Int) tg0 t263 t264 _ ?side1 ?side2 ?side3 A5.1).mono ?_); (case side1 => exact (Kd.C_below HR0.1 HB.1)); (case side2 => exact HC0.1); (case side3 => exact (by exact BK8.1)); rintro e w7 ⟨v265, rfl, ho0, hb⟩; refine ⟨_, rfl, ?_⟩; have n0_ := ak (Kd.R_lower ho0 (below_size HB.1)); have n1_ := bg0 (t := tg0) (by exact BK8.1) hb; have n2_ := ak (below_step HB.1 hb); clear BK8; clear HB; have HO266 := n0_; have BK8 := n1_; have HB := n2_; clear n0_ n1_ n2_; (try clear hb); (try clear ho0)))
    go_ret3
    exact ⟨_, by rfl, by exact HO266.1, by repeat (with_reducible exact HB.1)⟩
  rw [if_neg c4] at H
  have c4b0 : (t262 == 0) = false := beq_eq_false_iff_ne.mpr c4
  have c4b1 : (t262 != 0) = true := bne_iff_ne.mpr c4
  simp only [Option.some.injEq, Prod.mk.injEq] at H
  obtain ⟨rfl, rfl, rfl⟩ := H
  go_enter Tryd.func21, Tryd.ntmps21
  go_wp2_with (first | ((with_reducible refine gate_callee (f := 34) rfl ?_); refine goesL_ (some 9) rfl rfl Tryd.func34 (by kernel_rfl) rfl #[.slice A0 l0.length c0] rfl am_ ?_; (with_reducible refine (m_check.calls k (fun k_ => k_ < w.heap.size) _ _ l0 t262 _ ?side1 A3.1).mono ?_); (case side1 => exact Kd.V_mk HC0.1 (Kd.F_below (Kd.C_F k62_heap HR0.1) HB.1)); rintro e w8 ⟨rfl, hb⟩; refine ⟨_, rfl, ?_⟩; have n0_ := bg0 (t := tg0) (by exact BK8.1) hb; have n1_ := ak (below_step HB.1 hb); clear BK8; clear HB; have BK8 := n0_; have HB := n1_; clear n0_ n1_; (try clear hb)))
  go_ret3
  exact ⟨_, by rfl, by exact Kd.R_nil _ _ _ _ _, by repeat (with_reducible exact HB.1)⟩

end Go.Proofs.YtglkcinmohjblaaDoor.XA
