import Derived.Test.YtglkcinmohjblaaDoorXAx7
import Derived.Test.YtglkcinmohjblaaDoorXAx8
namespace Go.Proofs.YtglkcinmohjblaaDoor.XA
open Go.RowKit Opens YtglkcinmohjblaaDoorW.PrintWords YtglkcinmohjblaaDoorW.PrintLast YtglkcinmohjblaaDoorW.PrintMore
attribute [local go_sem] max2_int min2_int max_two min_two max_three min_three max_four min_four cell_some cell_same
set_option linter.unusedVariables false
set_option linter.unusedSimpArgs false

def c_Check.j0 : Nat → List Int → Bool → Option (Int)
  | 0, _, _ => none
  | k + 1, x0, x10 => if x10 = true then (some 1) else ((slices_Min_int_int.f k x0).bind fun t116 => (if t116 < 0 then (some 6) else ((slices_Max_int_int.f k x0).bind fun t117 => (if t117 > 1000 then (some 6) else (some 0)))))
def c_Check.f (k : Nat) (l0 : List Int) : Option (Int) := if (l0.length : Int) < 1 then (c_Check.j0 k l0 true) else (c_Check.j0 k l0 (decide ((l0.length : Int) > 64)))
theorem c_Check.mono_l : ∀ k, (∀ y0 y1, LeO (c_Check.j0 k y0 y1) (c_Check.j0 (k + 1) y0 y1))
  | 0 => fun _ _ r h => by simp [c_Check.j0] at h
  | k + 1 => by
    have ih0 := c_Check.mono_l k
    intro y0 y1
    unfold c_Check.j0
    repeat' first
    | (with_reducible exact slices_Max_int_int.mono _ _)
    | (with_reducible exact slices_Min_int_int.mono _ _)
    | (with_reducible exact LeO.refl _)
    | (with_reducible refine LeO.ite ?_ ?_)
    | (with_reducible refine LeO.bind ?_ (fun _ => ?_))
      
theorem c_Check.mono : ∀ a0 k, LeO (c_Check.f k a0) (c_Check.f (k + 1) a0) := by
  intro a0 k
  have ih0 := c_Check.mono_l k
  unfold c_Check.f
  repeat' first
      | (with_reducible exact ih0 _ _)
      | (with_reducible refine LeO.ite ?_ ?_)
      
set_option maxHeartbeats 8000000 in
set_option maxRecDepth 100000 in
theorem c_Check.calls (k : Nat) (A0 : Option Addr) (c0 : Nat) (l0 : List Int) (r : Int) (w : World) (hr0 : Kd.C (Kd.int .i64) w A0 l0.length l0) (hc0 : l0.length ≤ c0) (h : c_Check.f k l0 = some r) :
    Calls Tryd.prog 45 #[.slice A0 l0.length c0] w fun e w' => e = .returned (.int .i64 r) ∧ Below w.heap.size w w' := by
  have HR0 := ak hr0
  have HC0 := ak hc0
  clear hr0 hc0
  have HB := ak (Below.refl w.heap.size w)
  have H : (if (l0.length : Int) < 1 then (c_Check.j0 k l0 true) else (c_Check.j0 k l0 (decide ((l0.length : Int) > 64)))) = some r := h
  clear h
  have HC2 := ak H
  clear H
  go_enter Tryd.func45, Tryd.ntmps45
  go_upto_region 1 with (fail)
  go_cut [10] (fun v10 wc => ∃ (kq : Nat) (x10_1 : Bool), v10 = .bool x10_1 ∧ Aside0 (c_Check.j0 kq l0 x10_1 = some r) ∧ Aside0 (kq ≤ k) ∧ Aside0 (Below w.heap.size w wc))
  case first =>
    have H := HC2.1
    clear HC2
    by_cases c3 : (l0.length : Int) < 1
    · rw [if_pos c3] at H
      have c3b0 : decide ((l0.length : Int) < 1) = true := decide_eq_true c3
      have c3b1 : decide (l0.length < 1) = true := decide_eq_true (by omega)
      clear c3
      have H' := ak H
      clear H
      go_wp2
      go_meet
      case rel => exact ⟨_, (true), (by rfl), H', ⟨by omega⟩, ⟨by repeat (with_reducible exact HB.1)⟩⟩
    rw [if_neg c3] at H
    have c3b0 : decide ((l0.length : Int) < 1) = false := decide_eq_false c3
    have c3b1 : decide (l0.length < 1) = false := decide_eq_false (by omega)
    clear c3
    have H' := ak H
    clear H
    go_wp2
    go_meet
    case rel => exact ⟨_, (decide ((l0.length : Int) > 64)), (by rfl), H', ⟨by omega⟩, ⟨by repeat (with_reducible exact HB.1)⟩⟩
  clear HC2
  obtain ⟨kq, x10_1, rfl, HA, HJ1, HB⟩ := hcut
  cases kq with
  | zero => exact absurd HA.1 (by simp [c_Check.j0])
  | succ kj1 =>
    have H := HA.1
    clear HA
    simp only [c_Check.j0] at H
    by_cases c4 : x10_1 = true
    · subst c4
      have H1 : (some 1) = some r := by rw [if_pos rfl] at H; exact H
      clear H
      have H := H1
      clear H1
      obtain rfl := Option.some.inj H
      go_wp2
      go_ret
      exact ⟨by rfl, by repeat (with_reducible exact HB.1)⟩
    replace c4 := Bool.eq_false_iff.mpr c4
    subst c4
    have H1 : ((slices_Min_int_int.f kj1 l0).bind fun t116 => (if t116 < 0 then (some 6) else ((slices_Max_int_int.f kj1 l0).bind fun t117 => (if t117 > 1000 then (some 6) else (some 0))))) = some r := by rw [if_neg (show ¬ (false = true) by decide)] at H; exact H
    clear H
    have H := H1
    clear H1
    replace H := Option.bind_eq_some_iff.mp H
    obtain ⟨t116, A50, H⟩ := H
    replace H : (if t116 < 0 then (some 6) else ((slices_Max_int_int.f kj1 l0).bind fun t117 => (if t117 > 1000 then (some 6) else (some 0)))) = some r := H
    have A5 := ak A50
    clear A50
    by_cases c6 : t116 < 0
    · rw [if_pos c6] at H
      have c6b0 : decide (t116 < 0) = true := decide_eq_true c6
      clear c6
      obtain rfl := Option.some.inj H
      go_wp2_with (first | ((with_reducible refine gate_callee (f := 50) rfl ?_); refine goesL_ (some 12) rfl rfl Tryd.func50 (by kernel_rfl) rfl #[.slice A0 l0.length c0] rfl am_ ?_; (with_reducible refine (slices_Min_int_int.calls kj1 _ _ l0 t116 _ ?side1 ?side2 A5.1).mono ?_); (case side1 => exact (Kd.C_below HR0.1 HB.1)); (case side2 => exact HC0.1); rintro e w7 ⟨rfl, hb⟩; refine ⟨_, rfl, ?_⟩; have n0_ := ak (below_step HB.1 hb); clear HB; have HB := n0_; clear n0_; (try clear hb)))
      go_ret
      exact ⟨by rfl, by repeat (with_reducible exact HB.1)⟩
    rw [if_neg c6] at H
    have c6b0 : decide (t116 < 0) = false := decide_eq_false c6
    clear c6
    replace H := Option.bind_eq_some_iff.mp H
    obtain ⟨t117, A80, H⟩ := H
    replace H : (if t117 > 1000 then (some 6) else (some 0)) = some r := H
    have A8 := ak A80
    clear A80
    by_cases c9 : t117 > 1000
    · rw [if_pos c9] at H
      have c9b0 : decide (1000 < t117) = true := decide_eq_true c9
      clear c9
      obtain rfl := Option.some.inj H
      go_wp2_with (first | ((with_reducible refine gate_callee (f := 50) rfl ?_); refine goesL_ (some 12) rfl rfl Tryd.func50 (by kernel_rfl) rfl #[.slice A0 l0.length c0] rfl am_ ?_; (with_reducible refine (slices_Min_int_int.calls kj1 _ _ l0 t116 _ ?side1 ?side2 A5.1).mono ?_); (case side1 => exact (Kd.C_below HR0.1 HB.1)); (case side2 => exact HC0.1); rintro e w10 ⟨rfl, hb⟩; refine ⟨_, rfl, ?_⟩; have n0_ := ak (below_step HB.1 hb); clear HB; have HB := n0_; clear n0_; (try clear hb)) | (go_at_call 51; (with_reducible refine (slices_Max_int_int.calls kj1 _ _ l0 t117 _ ?side1 ?side2 A8.1).mono ?_); (case side1 => exact (Kd.C_below HR0.1 HB.1)); (case side2 => exact HC0.1); rintro e w11 ⟨rfl, hb⟩; have n0_ := ak (below_step HB.1 hb); clear HB; have HB := n0_; clear n0_; (try clear hb)))
      go_ret
      exact ⟨by rfl, by repeat (with_reducible exact HB.1)⟩
    rw [if_neg c9] at H
    have c9b0 : decide (1000 < t117) = false := decide_eq_false c9
    clear c9
    obtain rfl := Option.some.inj H
    go_wp2_with (first | ((with_reducible refine gate_callee (f := 50) rfl ?_); refine goesL_ (some 12) rfl rfl Tryd.func50 (by kernel_rfl) rfl #[.slice A0 l0.length c0] rfl am_ ?_; (with_reducible refine (slices_Min_int_int.calls kj1 _ _ l0 t116 _ ?side1 ?side2 A5.1).mono ?_); (case side1 => exact (Kd.C_below HR0.1 HB.1)); (case side2 => exact HC0.1); rintro e w12 ⟨rfl, hb⟩; refine ⟨_, rfl, ?_⟩; have n0_ := ak (below_step HB.1 hb); clear HB; have HB := n0_; clear n0_; (try clear hb)) | (go_at_call 51; (with_reducible refine (slices_Max_int_int.calls kj1 _ _ l0 t117 _ ?side1 ?side2 A8.1).mono ?_); (case side1 => exact (Kd.C_below HR0.1 HB.1)); (case side2 => exact HC0.1); rintro e w13 ⟨rfl, hb⟩; have n0_ := ak (below_step HB.1 hb); clear HB; have HB := n0_; clear n0_; (try clear hb)))
    go_ret
    exact ⟨by rfl, by repeat (with_reducible exact HB.1)⟩

end Go.Proofs.YtglkcinmohjblaaDoor.XA
