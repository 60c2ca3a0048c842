import Derived.Test.YtglkcinmohjblaaDoorXAx9
namespace Go.Proofs.YtglkcinmohjblaaDoor.XA
open Go.RowKit Opens YtglkcinmohjblaaDoorW.PrintWords YtglkcinmohjblaaDoorW.PrintLast YtglkcinmohjblaaDoorW.PrintMore
attribute [local go_sem] max2_int min2_int max_two min_two max_three min_three max_four min_four cell_some cell_same
set_option linter.unusedVariables false
set_option linter.unusedSimpArgs false

def c_both.f (k : Nat) (l0 : List Int) (l1 : List Int) : Option (Int) := (c_Check.f k l0).bind fun t156 => (if t156 = 0 then ((c_Check.f k l1).bind fun t157 => (if t157 = 0 then (if (l0.length : Int) = (l1.length : Int) then (some 0) else (some 1)) else (some t157))) else (some t156))
theorem c_both.mono : ∀ a0 a1 k, LeO (c_both.f k a0 a1) (c_both.f (k + 1) a0 a1) := by
  intro a0 a1 k
  unfold c_both.f
  repeat' first
      | (with_reducible exact c_Check.mono _ _)
      | (with_reducible exact LeO.refl _)
      | (with_reducible refine LeO.ite ?_ ?_)
      | (with_reducible refine LeO.bind ?_ (fun _ => ?_))
      
set_option maxHeartbeats 8000000 in
set_option maxRecDepth 100000 in
theorem c_both.calls (k : Nat) (A0 : Option Addr) (c0 : Nat) (l0 : List Int) (A1 : Option Addr) (c1 : Nat) (l1 : List Int) (r : Int) (w : World) (hr0 : Kd.C (Kd.int .i64) w A0 l0.length l0) (hc0 : l0.length ≤ c0) (hr1 : Kd.C (Kd.int .i64) w A1 l1.length l1) (hc1 : l1.length ≤ c1) (h : c_both.f k l0 l1 = some r) :
    Calls Tryd.prog 57 #[.slice A0 l0.length c0, .slice A1 l1.length c1] w fun e w' => e = .returned (.int .i64 r) ∧ Below w.heap.size w w' := by
  have HR0 := ak hr0
  have HC0 := ak hc0
  clear hr0 hc0
  have HR1 := ak hr1
  have HC1 := ak hc1
  clear hr1 hc1
  have HB := ak (Below.refl w.heap.size w)
  have H : ((c_Check.f k l0).bind fun t156 => (if t156 = 0 then ((c_Check.f k l1).bind fun t157 => (if t157 = 0 then (if (l0.length : Int) = (l1.length : Int) then (some 0) else (some 1)) else (some t157))) else (some t156))) = some r := h
  clear h
  replace H := Option.bind_eq_some_iff.mp H
  obtain ⟨t156, A30, H⟩ := H
  replace H : (if t156 = 0 then ((c_Check.f k l1).bind fun t157 => (if t157 = 0 then (if (l0.length : Int) = (l1.length : Int) then (some 0) else (some 1)) else (some t157))) else (some t156)) = some r := H
  have A3 := ak A30
  clear A30
  by_cases c4 : t156 = 0
  · rw [if_pos c4] at H
    have c4b0 : (t156 == 0) = true := beq_iff_eq.mpr c4
    have c4b1 : (t156 != 0) = false := bne_eq_false_iff_eq.mpr c4
    clear c4
    replace H := Option.bind_eq_some_iff.mp H
    obtain ⟨t157, A50, H⟩ := H
    replace H : (if t157 = 0 then (if (l0.length : Int) = (l1.length : Int) then (some 0) else (some 1)) else (some t157)) = some r := H
    have A5 := ak A50
    clear A50
    by_cases c6 : t157 = 0
    · rw [if_pos c6] at H
      have c6b0 : (t157 == 0) = true := beq_iff_eq.mpr c6
      have c6b1 : (t157 != 0) = false := bne_eq_false_iff_eq.mpr c6
      clear c6
      by_cases c7 : (l0.length : Int) = (l1.length : Int)
      · rw [if_pos c7] at H
        have c7b0 : ((l0.length : Int) == (l1.length : Int)) = true := beq_iff_eq.mpr c7
        have c7b1 : ((l0.length : Int) != (l1.length : Int)) = false := bne_eq_false_iff_eq.mpr c7
        have c7b2 : (l0.length == l1.length) = true := by (simp at c7 ⊢; omega)
        clear c7
        obtain rfl := Option.some.inj H
        go_enter Tryd.func57, Tryd.ntmps57
        go_wp2_with (first | ((with_reducible refine gate_callee (f := 45) rfl ?_); refine goesL_ (some 8) rfl rfl Tryd.func45 (by kernel_rfl) rfl #[.slice A0 l0.length c0] rfl am_ ?_; (with_reducible refine (c_Check.calls k _ _ l0 t156 _ ?side1 ?side2 A3.1).mono ?_); (case side1 => exact HR0.1); (case side2 => exact HC0.1); rintro e w8 ⟨rfl, hb⟩; refine ⟨_, rfl, ?_⟩; have n0_ := ak (below_step HB.1 hb); clear HB; have HB := n0_; clear n0_; (try clear hb)) | ((with_reducible refine gate_callee (f := 45) rfl ?_); refine goesL_ (some 13) rfl rfl Tryd.func45 (by kernel_rfl) rfl #[.slice A1 l1.length c1] rfl am_ ?_; (with_reducible refine (c_Check.calls k _ _ l1 t157 _ ?side1 ?side2 A5.1).mono ?_); (case side1 => exact (Kd.C_below HR1.1 HB.1)); (case side2 => exact HC1.1); rintro e w9 ⟨rfl, hb⟩; refine ⟨_, rfl, ?_⟩; have n0_ := ak (below_step HB.1 hb); clear HB; have HB := n0_; clear n0_; (try clear hb)))
        go_ret
        exact ⟨by rfl, by repeat (with_reducible exact HB.1)⟩
      rw [if_neg c7] at H
      have c7b0 : ((l0.length : Int) == (l1.length : Int)) = false := beq_eq_false_iff_ne.mpr c7
      have c7b1 : ((l0.length : Int) != (l1.length : Int)) = true := bne_iff_ne.mpr c7
      have c7b2 : (l0.length == l1.length) = false := by (simp at c7 ⊢; omega)
      obtain rfl := Option.some.inj H
      go_enter Tryd.func57, Tryd.ntmps57
      go_wp2_with (first | ((with_reducible refine gate_callee (f := 45) rfl ?_); refine goesL_ (some 8) rfl rfl Tryd.func45 (by kernel_rfl) rfl #[.slice A0 l0.length c0] rfl am_ ?_; (with_reducible refine (c_Check.calls k _ _ l0 t156 _ ?side1 ?side2 A3.1).mono ?_); (case side1 => exact HR0.1); (case side2 => exact HC0.1); rintro e w10 ⟨rfl, hb⟩; refine ⟨_, rfl, ?_⟩; have n0_ := ak (below_step HB.1 hb); clear HB; have HB := n0_; clear n0_; (try clear hb)) | ((with_reducible refine gate_callee (f := 45) rfl ?_); refine goesL_ (some 13) rfl rfl Tryd.func45 (by kernel_rfl) rfl #[.slice A1 l1.length c1] rfl am_ ?_; (with_reducible refine (c_Check.calls k _ _ l1 t157 _ ?side1 ?side2 A5.1).mono ?_); (case side1 => exact (Kd.C_below HR1.1 HB.1)); (case side2 => exact HC1.1); rintro e w11 ⟨rfl, hb⟩; refine ⟨_, rfl, ?_⟩; have n0_ := ak (below_step HB.1 hb); clear HB; have HB := n0_; clear n0_; (try clear hb)))
      go_ret
      exact ⟨by rfl, by repeat (with_reducible exact HB.1)⟩
    rw [if_neg c6] at H
    have c6b0 : (t157 == 0) = false := beq_eq_false_iff_ne.mpr c6
    have c6b1 : (t157 != 0) = true := bne_iff_ne.mpr c6
    obtain rfl := Option.some.inj H
    go_enter Tryd.func57, Tryd.ntmps57
    go_wp2_with (first | ((with_reducible refine gate_callee (f := 45) rfl ?_); refine goesL_ (some 8) rfl rfl Tryd.func45 (by kernel_rfl) rfl #[.slice A0 l0.length c0] rfl am_ ?_; (with_reducible refine (c_Check.calls k _ _ l0 t156 _ ?side1 ?side2 A3.1).mono ?_); (case side1 => exact HR0.1); (case side2 => exact HC0.1); rintro e w12 ⟨rfl, hb⟩; refine ⟨_, rfl, ?_⟩; have n0_ := ak (below_step HB.1 hb); clear HB; have HB := n0_; clear n0_; (try clear hb)) | ((with_reducible refine gate_callee (f := 45) rfl ?_); refine goesL_ (some 13) rfl rfl Tryd.func45 (by kernel_rfl) rfl #[.slice A1 l1.length c1] rfl am_ ?_; (with_reducible refine (c_Check.calls k _ _ l1 t157 _ ?side1 ?side2 A5.1).mono ?_); (case side1 => exact (Kd.C_below HR1.1 HB.1)); (case side2 => exact HC1.1); rintro e w13 ⟨rfl, hb⟩; refine ⟨_, rfl, ?_⟩; have n0_ := ak (below_step HB.1 hb); clear HB; have HB := n0_; clear n0_; (try clear hb)))
    go_ret
    exact ⟨by rfl, by repeat (with_reducible exact HB.1)⟩
  rw [if_neg c4] at H
  have c4b0 : (t156 == 0) = false := beq_eq_false_iff_ne.mpr c4
  have c4b1 : (t156 != 0) = true := bne_iff_ne.mpr c4
  obtain rfl := Option.some.inj H
  go_enter Tryd.func57, Tryd.ntmps57
  go_wp2_with (first | ((with_reducible refine gate_callee (f := 45) rfl ?_); refine goesL_ (some 8) rfl rfl Tryd.func45 (by kernel_rfl) rfl #[.slice A0 l0.length c0] rfl am_ ?_; (with_reducible refine (c_Check.calls k _ _ l0 t156 _ ?side1 ?side2 A3.1).mono ?_); (case side1 => exact HR0.1); (case side2 => exact HC0.1); rintro e w14 ⟨rfl, hb⟩; refine ⟨_, rfl, ?_⟩; have n0_ := ak (below_step HB.1 hb); clear HB; have HB := n0_; clear n0_; (try clear hb)))
  go_ret
  exact ⟨by rfl, by repeat (with_reducible exact HB.1)⟩

-- NOT PRINTED: function 60 (c_pairs)

-- NOT PRINTED: function 61 (c_mismatch_1)

end Go.Proofs.YtglkcinmohjblaaDoor.XA
