import Derived.Test.YtglkcinmohjblaaDoorXAx9
import Derived.Test.YtglkcinmohjblaaDoorXAx14
import Derived.Test.YtglkcinmohjblaaDoorXAx15
namespace Go.Proofs.YtglkcinmohjblaaDoor.XA
open Go.RowKit Opens YtglkcinmohjblaaDoorW.PrintWords YtglkcinmohjblaaDoorW.PrintLast YtglkcinmohjblaaDoorW.PrintMore
attribute [local go_sem] max2_int min2_int max_two min_two max_three min_three max_four min_four cell_some cell_same
set_option linter.unusedVariables false
set_option linter.unusedSimpArgs false

def c_mirror.f (k : Nat) (l0 : List Int) : Option (List Int) := (slices_Clone_int_int.f l0).bind fun t139 => ((slices_Reverse_int_int.f k t139).bind fun t142 => (some t142))
theorem c_mirror.mono : ∀ a0 k, LeO (c_mirror.f k a0) (c_mirror.f (k + 1) a0) := by
  intro a0 k
  unfold c_mirror.f
  repeat' first
      | (with_reducible exact slices_Reverse_int_int.mono _ _)
      | (with_reducible exact LeO.refl _)
      | (with_reducible refine LeO.bind ?_ (fun _ => ?_))
      
set_option maxHeartbeats 8000000 in
set_option maxRecDepth 100000 in
theorem c_mirror.calls (k : Nat) (A0 : Option Addr) (c0 : Nat) (l0 : List Int) (r : List Int) (w : World) (hr0 : Kd.C (Kd.int .i64) w A0 l0.length l0) (hc0 : l0.length ≤ c0) (h : c_mirror.f k l0 = some r) :
    Calls Tryd.prog 59 #[.slice A0 l0.length c0] w fun e w' => ∃ v0_ : Value, e = .returned (v0_) ∧ Kd.R (Kd.int .i64) 3 w' w.heap.size (fun _ => True) v0_ r ∧ Below w.heap.size w w' := by
  have HR0 := ak hr0
  have HC0 := ak hc0
  clear hr0 hc0
  have HB := ak (Below.refl w.heap.size w)
  have H : ((slices_Clone_int_int.f l0).bind fun t139 => ((slices_Reverse_int_int.f k t139).bind fun t142 => (some t142))) = some r := h
  clear h
  replace H := Option.bind_eq_some_iff.mp H
  obtain ⟨t139, A20, H⟩ := H
  replace H : ((slices_Reverse_int_int.f k t139).bind fun t142 => (some t142)) = some r := H
  have A2 := ak A20
  clear A20
  replace H := Option.bind_eq_some_iff.mp H
  obtain ⟨t142, A30, H⟩ := H
  replace H : (some t142) = some r := H
  have A3 := ak A30
  clear A30
  obtain rfl := Option.some.inj H
  go_enter Tryd.func59, Tryd.ntmps59
  go_wp2_with (first | ((with_reducible refine gate_callee (f := 56) rfl ?_); refine goesL_ (some 5) rfl rfl Tryd.func56 (by kernel_rfl) rfl #[.slice A0 l0.length c0] rfl am_ ?_; (with_reducible refine (slices_Clone_int_int.calls _ _ l0 t139 _ ?side1 ?side2 A2.1).mono ?_); (case side1 => exact HR0.1); (case side2 => exact HC0.1); rintro e w4 ⟨v140, rfl, ho0, hb⟩; refine ⟨_, rfl, ?_⟩; have n0_ := ak (Kd.R_lower ho0 (below_size HB.1)); have n1_ := ak (below_step HB.1 hb); clear HB; have HO141 := n0_; have HB := n1_; clear n0_ n1_; (try clear hb); (try clear ho0); obtain ⟨Ao5, co5, eo5⟩ := Kd.R_slice HO141.1; subst eo5) | ((with_reducible refine gate_callee (f := 62) rfl ?_); refine goesL_ (some 7) rfl rfl Tryd.func62 (by kernel_rfl) rfl #[.slice Ao5 t139.length co5] rfl am_ ?_; (with_reducible refine (slices_Reverse_int_int.calls k (fun k_ => some k_ = (.slice Ao5 t139.length co5 : Value).ownBlock) (.slice Ao5 t139.length co5) t139 t142 w _ ?side1 ?side2 A3.1).mono ?_); (case side1 => repeat (with_reducible exact HB.1)); (case side2 => exact Kd.R_tight rfl HO141.1); rintro e w6 ⟨rfl, hy0, hb, hkp⟩; refine ⟨_, rfl, ?_⟩; have n0_ := ak (Kd.R_reok rfl hy0 (fun k_ e_ => HO141.1.1 k_ e_)); have n1_ := ak (hb); clear HO141; clear HB; have HO141 := n0_; have HB := n1_; clear n0_ n1_; (try clear hb); (try clear hkp); (try clear hy0)))
  go_ret
  exact ⟨_, by rfl, by exact HO141.1, by repeat (with_reducible exact HB.1)⟩

def c_Mirror.f (k : Nat) (l0 : List Int) : Option (List Int × Int) := (c_Check.f k l0).bind fun t143 => (if t143 = 0 then ((c_mirror.f k l0).bind fun t144 => (some (t144, 0))) else (some (([] : List Int), t143)))
theorem c_Mirror.mono : ∀ a0 k, LeO (c_Mirror.f k a0) (c_Mirror.f (k + 1) a0) := by
  intro a0 k
  unfold c_Mirror.f
  repeat' first
      | (with_reducible exact c_Check.mono _ _)
      | (with_reducible exact c_mirror.mono _ _)
      | (with_reducible exact LeO.refl _)
      | (with_reducible refine LeO.ite ?_ ?_)
      | (with_reducible refine LeO.bind ?_ (fun _ => ?_))
      
set_option maxHeartbeats 8000000 in
set_option maxRecDepth 100000 in
theorem c_Mirror.calls (k : Nat) (A0 : Option Addr) (c0 : Nat) (l0 : List Int) (r1 : List Int) (r2 : Int) (w : World) (hr0 : Kd.C (Kd.int .i64) w A0 l0.length l0) (hc0 : l0.length ≤ c0) (h : c_Mirror.f k l0 = some (r1, r2)) :
    Calls Tryd.prog 55 #[.slice A0 l0.length c0] w fun e w' => ∃ v0_ : Value, e = .returned (.tuple #[v0_, .int .i64 r2]) ∧ Kd.R (Kd.int .i64) 3 w' w.heap.size (fun _ => True) v0_ r1 ∧ Below w.heap.size w w' := by
  have HR0 := ak hr0
  have HC0 := ak hc0
  clear hr0 hc0
  have HB := ak (Below.refl w.heap.size w)
  have H : ((c_Check.f k l0).bind fun t143 => (if t143 = 0 then ((c_mirror.f k l0).bind fun t144 => (some (t144, 0))) else (some (([] : List Int), t143)))) = some (r1, r2) := h
  clear h
  replace H := Option.bind_eq_some_iff.mp H
  obtain ⟨t143, A20, H⟩ := H
  replace H : (if t143 = 0 then ((c_mirror.f k l0).bind fun t144 => (some (t144, 0))) else (some (([] : List Int), t143))) = some (r1, r2) := H
  have A2 := ak A20
  clear A20
  by_cases c3 : t143 = 0
  · rw [if_pos c3] at H
    have c3b0 : (t143 == 0) = true := beq_iff_eq.mpr c3
    have c3b1 : (t143 != 0) = false := bne_eq_false_iff_eq.mpr c3
    clear c3
    replace H := Option.bind_eq_some_iff.mp H
    obtain ⟨t144, A40, H⟩ := H
    replace H : (some (t144, 0)) = some (r1, r2) := H
    have A4 := ak A40
    clear A40
    simp only [Option.some.injEq, Prod.mk.injEq] at H
    obtain ⟨rfl, rfl⟩ := H
    go_enter Tryd.func55, Tryd.ntmps55
    go_wp2_with (first | ((with_reducible refine gate_callee (f := 45) rfl ?_); refine goesL_ (some 6) rfl rfl Tryd.func45 (by kernel_rfl) rfl #[.slice A0 l0.length c0] rfl am_ ?_; (with_reducible refine (c_Check.calls k _ _ l0 t143 _ ?side1 ?side2 A2.1).mono ?_); (case side1 => exact HR0.1); (case side2 => exact HC0.1); rintro e w5 ⟨rfl, hb⟩; refine ⟨_, rfl, ?_⟩; have n0_ := ak (below_step HB.1 hb); clear HB; have HB := n0_; clear n0_; (try clear hb)) | ((with_reducible refine gate_callee (f := 59) rfl ?_); refine goesL_ (some 11) rfl rfl Tryd.func59 (by kernel_rfl) rfl #[.slice A0 l0.length c0] rfl am_ ?_; (with_reducible refine (c_mirror.calls k _ _ l0 t144 _ ?side1 ?side2 A4.1).mono ?_); (case side1 => exact (Kd.C_below HR0.1 HB.1)); (case side2 => exact HC0.1); rintro e w6 ⟨v145, rfl, ho0, hb⟩; refine ⟨_, rfl, ?_⟩; have n0_ := ak (Kd.R_lower ho0 (below_size HB.1)); have n1_ := ak (below_step HB.1 hb); clear HB; have HO146 := n0_; have HB := n1_; clear n0_ n1_; (try clear hb); (try clear ho0)))
    go_ret2
    exact ⟨_, by rfl, by exact HO146.1, by repeat (with_reducible exact HB.1)⟩
  rw [if_neg c3] at H
  have c3b0 : (t143 == 0) = false := beq_eq_false_iff_ne.mpr c3
  have c3b1 : (t143 != 0) = true := bne_iff_ne.mpr c3
  simp only [Option.some.injEq, Prod.mk.injEq] at H
  obtain ⟨rfl, rfl⟩ := H
  go_enter Tryd.func55, Tryd.ntmps55
  go_wp2_with (first | ((with_reducible refine gate_callee (f := 45) rfl ?_); refine goesL_ (some 6) rfl rfl Tryd.func45 (by kernel_rfl) rfl #[.slice A0 l0.length c0] rfl am_ ?_; (with_reducible refine (c_Check.calls k _ _ l0 t143 _ ?side1 ?side2 A2.1).mono ?_); (case side1 => exact HR0.1); (case side2 => exact HC0.1); rintro e w7 ⟨rfl, hb⟩; refine ⟨_, rfl, ?_⟩; have n0_ := ak (below_step HB.1 hb); clear HB; have HB := n0_; clear n0_; (try clear hb)))
  go_ret2
  exact ⟨_, by rfl, by exact Kd.R_nil _ _ _ _ _, by repeat (with_reducible exact HB.1)⟩

end Go.Proofs.YtglkcinmohjblaaDoor.XA
