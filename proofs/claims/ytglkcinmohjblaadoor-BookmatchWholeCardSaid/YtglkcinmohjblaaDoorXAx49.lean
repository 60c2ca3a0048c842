import Derived.Test.YtglkcinmohjblaaDoorXAx13
import Derived.Test.YtglkcinmohjblaaDoorXAx25
namespace Go.Proofs.YtglkcinmohjblaaDoor.XA
open Go.RowKit Opens YtglkcinmohjblaaDoorW.PrintWords YtglkcinmohjblaaDoorW.PrintLast YtglkcinmohjblaaDoorW.PrintMore
attribute [local go_sem] max2_int min2_int max_two min_two max_three min_three max_four min_four cell_some cell_same
set_option linter.unusedVariables false
set_option linter.unusedSimpArgs false

mutual
def m_Best.j0 : Nat → List (S62) → Int → Bool → Option ((List (S39)) × Int × Int)
  | 0, _, _, _ => none
  | k + 1, x0, x1, x25 => if x25 = true then (some (([] : List (S39)), 0, 1)) else ((m_first.f k x0 0 x1).bind fun bt541 => (m_Best.l0 k x0 x1 bt541.1 bt541.2 1))
def m_Best.l0 : Nat → List (S62) → Int → List (S39) → Int → Int → Option ((List (S39)) × Int × Int)
  | 0, _, _, _, _, _ => none
  | k + 1, x0, x1, x8, x9, x10 => if (wrap64 (x10 + x1)) ≤ (x0.length : Int) then ((m_first.f k x0 x10 (wrap64 (x10 + x1))).bind fun bt545 => (if bt545.2 < x9 then (m_Best.l0 k x0 x1 bt545.1 bt545.2 (wrap64 (x10 + 1))) else (m_Best.l0 k x0 x1 x8 x9 (wrap64 (x10 + 1))))) else (some (x8, x9, 0))
end
def m_Best.f (k : Nat) (l0 : List (S62)) (a1 : Int)  : Option ((List (S39)) × Int × Int) := (m_check.f k l0).bind fun t540 => (if t540 = 0 then (if a1 < 1 then (m_Best.j0 k l0 a1 true) else (m_Best.j0 k l0 a1 (decide (a1 > (l0.length : Int))))) else (some (([] : List (S39)), 0, t540)))
theorem m_Best.mono_l : ∀ k, (∀ y0 y1 y2, LeO (m_Best.j0 k y0 y1 y2) (m_Best.j0 (k + 1) y0 y1 y2)) ∧ (∀ y0 y1 y2 y3 y4, LeO (m_Best.l0 k y0 y1 y2 y3 y4) (m_Best.l0 (k + 1) y0 y1 y2 y3 y4))
  | 0 => ⟨fun _ _ _ r h => by simp [m_Best.j0] at h, fun _ _ _ _ _ r h => by simp [m_Best.l0] at h⟩
  | k + 1 => by
    obtain ⟨ih0, ih1⟩ := m_Best.mono_l k
    refine ⟨?_, ?_⟩
    intro y0 y1 y2
    unfold m_Best.j0
    repeat' first
    | (with_reducible exact ih1 _ _ _ _ _)
    | (with_reducible exact m_first.mono _ _ _ _)
    | (with_reducible exact LeO.refl _)
    | (with_reducible refine LeO.ite ?_ ?_)
    | (with_reducible refine LeO.bind ?_ (fun _ => ?_))
      
    intro y0 y1 y2 y3 y4
    unfold m_Best.l0
    repeat' first
    | (with_reducible exact ih1 _ _ _ _ _)
    | (with_reducible exact m_first.mono _ _ _ _)
    | (with_reducible exact LeO.refl _)
    | (with_reducible refine LeO.ite ?_ ?_)
    | (with_reducible refine LeO.bind ?_ (fun _ => ?_))
      
theorem m_Best.mono : ∀ a0 a1 k, LeO (m_Best.f k a0 a1) (m_Best.f (k + 1) a0 a1) := by
  intro a0 a1 k
  obtain ⟨ih0, ih1⟩ := m_Best.mono_l k
  unfold m_Best.f
  repeat' first
      | (with_reducible exact ih0 _ _ _)
      | (with_reducible exact m_check.mono _ _)
      | (with_reducible exact LeO.refl _)
      | (with_reducible refine LeO.ite ?_ ?_)
      | (with_reducible refine LeO.bind ?_ (fun _ => ?_))
      
set_option maxHeartbeats 8000000 in
set_option maxRecDepth 100000 in
theorem m_Best.calls (k : Nat) (A0 : Option Addr) (c0 : Nat) (l0 : List (S62)) (a1 : Int) (tg0 : TypeId) (r1 : List (S39)) (r2 : Int) (r3 : Int) (w : World) (hr0 : Kd.C k62 w A0 l0.length l0) (hc0 : l0.length ≤ c0) (hb16 : w.heap[0]? = some (.cells #[.bool false, .bool true] tg0 (0, 0))) (h : m_Best.f k l0 a1 = some (r1, r2, r3)) :
    Calls Tryd.prog 13 #[.slice A0 l0.length c0, .int .i64 a1] w fun e w' => ∃ v0_ : Value, e = .returned (.tuple #[v0_, .int .i64 r2, .int .i64 r3]) ∧ Kd.R k39 39 w' w.heap.size (fun _ => True) v0_ r1 ∧ Below w.heap.size w w' := by
  have HR0 := ak hr0
  have HC0 := ak hc0
  clear hr0 hc0
  have GL16 := blk_lt hb16
  have BK16 := ak hb16
  clear hb16
  have HB := ak (Below.refl w.heap.size w)
  have H : ((m_check.f k l0).bind fun t540 => (if t540 = 0 then (if a1 < 1 then (m_Best.j0 k l0 a1 true) else (m_Best.j0 k l0 a1 (decide (a1 > (l0.length : Int))))) else (some (([] : List (S39)), 0, t540)))) = some (r1, r2, r3) := h
  clear h
  replace H := Option.bind_eq_some_iff.mp H
  obtain ⟨t540, A40, H⟩ := H
  replace H : (if t540 = 0 then (if a1 < 1 then (m_Best.j0 k l0 a1 true) else (m_Best.j0 k l0 a1 (decide (a1 > (l0.length : Int))))) else (some (([] : List (S39)), 0, t540))) = some (r1, r2, r3) := H
  have A4 := ak A40
  clear A40
  by_cases c5 : t540 = 0
  · rw [if_pos c5] at H
    have c5b0 : (t540 == 0) = true := beq_iff_eq.mpr c5
    have c5b1 : (t540 != 0) = false := bne_eq_false_iff_eq.mpr c5
    clear c5
    have HC6 := ak H
    clear H
    go_enter Tryd.func13, Tryd.ntmps13
    go_upto_region 4 with (first | ((with_reducible refine gate_callee (f := 34) rfl ?_); refine goesL_ (some 14) rfl rfl Tryd.func34 (by kernel_rfl) rfl #[.slice A0 l0.length c0] rfl am_ ?_; (with_reducible refine (m_check.calls k (fun k_ => k_ < w.heap.size) _ _ l0 t540 _ ?side1 A4.1).mono ?_); (case side1 => exact Kd.V_mk HC0.1 (Kd.F_below (Kd.C_F k62_heap HR0.1) HB.1)); rintro e w7 ⟨rfl, hb⟩; refine ⟨_, rfl, ?_⟩; have n0_ := bg0 (t := tg0) (by exact BK16.1) hb; have n1_ := ak (below_step HB.1 hb); clear BK16; clear HB; have BK16 := n0_; have HB := n1_; clear n0_ n1_; (try clear hb)))
    go_cut [25] (fun v25 wc => ∃ (kq : Nat) (x25_5 : Bool), v25 = .bool x25_5 ∧ Aside0 (m_Best.j0 kq l0 a1 x25_5 = some (r1, r2, r3)) ∧ Aside0 (kq ≤ k) ∧ Aside0 (wc.heap[0]? = some (.cells #[.bool false, .bool true] tg0 (0, 0))) ∧ Aside0 (Below w.heap.size w wc))
    case first =>
      have H := HC6.1
      clear HC6
      by_cases c8 : a1 < 1
      · rw [if_pos c8] at H
        have c8b0 : decide (a1 < 1) = true := decide_eq_true c8
        clear c8
        have H' := ak H
        clear H
        go_wp2
        go_meet
        case rel => exact ⟨_, (true), (by rfl), H', ⟨by omega⟩, ⟨by exact BK16.1⟩, ⟨by repeat (with_reducible exact HB.1)⟩⟩
      rw [if_neg c8] at H
      have c8b0 : decide (a1 < 1) = false := decide_eq_false c8
      clear c8
      have H' := ak H
      clear H
      go_wp2
      go_meet
      case rel => exact ⟨_, (decide (a1 > (l0.length : Int))), (by rfl), H', ⟨by omega⟩, ⟨by exact BK16.1⟩, ⟨by repeat (with_reducible exact HB.1)⟩⟩
    clear HC6
    try clear c5b0
    try clear c5b1
    obtain ⟨kq, x25_5, rfl, HA, HJ5, BK16, HB⟩ := hcut
    cases kq with
    | zero => exact absurd HA.1 (by simp [m_Best.j0])
    | succ kj5 =>
      have H := HA.1
      clear HA
      simp only [m_Best.j0] at H
      by_cases c9 : x25_5 = true
      · subst c9
        have H1 : (some (([] : List (S39)), 0, 1)) = some (r1, r2, r3) := by rw [if_pos rfl] at H; exact H
        clear H
        have H := H1
        clear H1
        simp only [Option.some.injEq, Prod.mk.injEq] at H
        obtain ⟨rfl, rfl, rfl⟩ := H
        go_wp2
        go_ret3
        exact ⟨_, by rfl, by exact Kd.R_nil _ _ _ _ _, by repeat (with_reducible exact HB.1)⟩
      replace c9 := Bool.eq_false_iff.mpr c9
      subst c9
      have H1 : ((m_first.f kj5 l0 0 a1).bind fun bt541 => (m_Best.l0 kj5 l0 a1 bt541.1 bt541.2 1)) = some (r1, r2, r3) := by rw [if_neg (show ¬ (false = true) by decide)] at H; exact H
      clear H
      have H := H1
      clear H1
      replace H := Option.bind_eq_some_iff.mp H
      obtain ⟨⟨t541, t542⟩, A100, H⟩ := H
      replace H : (m_Best.l0 kj5 l0 a1 t541 t542 1) = some (r1, r2, r3) := H
      have A10 := ak A100
      clear A100
      have H' := ak H
      clear H
      go_wp2_with (first | ((with_reducible refine gate_callee (f := 35) rfl ?_); refine goesL_ (some 29) rfl rfl Tryd.func35 (by kernel_rfl) rfl #[.slice A0 l0.length c0, .int .i64 0, .int .i64 a1] rfl am_ ?_; (with_reducible refine (m_first.calls kj5 _ _ l0 0 a1 tg0 t541 t542 _ ?side1 ?side2 ?side3 A10.1).mono ?_); (case side1 => exact (Kd.C_below HR0.1 HB.1)); (case side2 => exact HC0.1); (case side3 => exact (by exact BK16.1)); rintro e w11 ⟨v543, rfl, ho0, hb⟩; refine ⟨_, rfl, ?_⟩; have n0_ := ak (Kd.R_lower ho0 (below_size HB.1)); have n1_ := bg0 (t := tg0) (by exact BK16.1) hb; have n2_ := ak (below_step HB.1 hb); clear BK16; clear HB; have HO544 := n0_; have BK16 := n1_; have HB := n2_; clear n0_ n1_ n2_; (try clear hb); (try clear ho0)))
      go_loopg [8, 9, 10] kj5 (fun kq v8 v9 v10 w' => ∃ (x8_2 : List (S39)) (x9_2 : Int) (x10_2 : Int), v9 = .int .i64 x9_2 ∧ v10 = .int .i64 x10_2 ∧ Aside0 (m_Best.l0 kq l0 a1 x8_2 x9_2 x10_2 = some (r1, r2, r3)) ∧ Aside0 (kq ≤ kj5) ∧ Aside0 (Kd.R k39 39 w' w.heap.size (fun _ => True) v8 x8_2) ∧ Aside0 (w'.heap[0]? = some (.cells #[.bool false, .bool true] tg0 (0, 0))) ∧ Aside0 (Below w.heap.size w w'))
      case atStart => exact ⟨(t541), (t542), (1), (by rfl), (by rfl), H', ⟨Nat.le_refl _⟩, ⟨by exact HO544.1⟩, ⟨by exact BK16.1⟩, ⟨by repeat (with_reducible exact HB.1)⟩⟩
      clear H'
      obtain ⟨x8_2, x9_2, x10_2, rfl, rfl, HA, HK2, HO_8, BK16, HB⟩ := hrel
      cases gk with
      | zero => exact absurd HA.1 (by simp [m_Best.l0])
      | succ k2 =>
        have H := HA.1
        clear HA
        simp only [m_Best.l0] at H
        by_cases c12 : (wrap64 (x10_2 + a1)) ≤ (l0.length : Int)
        · rw [if_pos c12] at H
          have c12b0 : decide ((wrap64 (x10_2 + a1)) ≤ (l0.length : Int)) = true := decide_eq_true c12
          clear c12
          replace H := Option.bind_eq_some_iff.mp H
          obtain ⟨⟨t545, t546⟩, A130, H⟩ := H
          replace H : (if t546 < x9_2 then (m_Best.l0 k2 l0 a1 t545 t546 (wrap64 (x10_2 + 1))) else (m_Best.l0 k2 l0 a1 x8_2 x9_2 (wrap64 (x10_2 + 1)))) = some (r1, r2, r3) := H
          have A13 := ak A130
          clear A130
          by_cases c14 : t546 < x9_2
          · rw [if_pos c14] at H
            have c14b0 : decide (t546 < x9_2) = true := decide_eq_true c14
            clear c14
            have H' := ak H
            clear H
            go_wp2_with (first | ((with_reducible refine gate_callee (f := 35) rfl ?_); refine goesL_ (some 46) rfl rfl Tryd.func35 (by kernel_rfl) rfl #[.slice A0 l0.length c0, .int .i64 x10_2, .int .i64 (wrap64 (x10_2 + a1))] rfl am_ ?_; (with_reducible refine (m_first.calls k2 _ _ l0 x10_2 (wrap64 (x10_2 + a1)) tg0 t545 t546 _ ?side1 ?side2 ?side3 A13.1).mono ?_); (case side1 => exact (Kd.C_below HR0.1 HB.1)); (case side2 => exact HC0.1); (case side3 => exact (by exact BK16.1)); rintro e w15 ⟨v547, rfl, ho0, hb⟩; refine ⟨_, rfl, ?_⟩; have n0_ := ak (Kd.R_elder' (by exact HO_8.1) (Kd.R_base ho0) hb); have n1_ := ak (Kd.R_lower (Kd.R_new' ho0 (Kd.R_lt (by exact HO_8.1))) (below_size HB.1)); have n2_ := bg0 (t := tg0) (by exact BK16.1) hb; have n3_ := ak (below_step HB.1 hb); clear HO_8; clear BK16; clear HB; have HO_8 := n0_; have HO548 := n1_; have BK16 := n2_; have HB := n3_; clear n0_ n1_ n2_ n3_; (try clear hb); (try clear ho0)))
            go_roundg k2
            case measure => have := HJ5.1; have := HK2.1; omega
            case rel => exact ⟨(t545), (t546), (wrap64 (x10_2 + 1)), (by rfl), (by rfl), H', ⟨by have := HJ5.1; have := HK2.1; omega⟩, ⟨by exact Kd.R_mono HO548.1 (fun _ hk => trivial)⟩, ⟨by exact BK16.1⟩, ⟨by repeat (with_reducible exact HB.1)⟩⟩
          rw [if_neg c14] at H
          have c14b0 : decide (t546 < x9_2) = false := decide_eq_false c14
          clear c14
          have H' := ak H
          clear H
          go_wp2_with (first | ((with_reducible refine gate_callee (f := 35) rfl ?_); refine goesL_ (some 46) rfl rfl Tryd.func35 (by kernel_rfl) rfl #[.slice A0 l0.length c0, .int .i64 x10_2, .int .i64 (wrap64 (x10_2 + a1))] rfl am_ ?_; (with_reducible refine (m_first.calls k2 _ _ l0 x10_2 (wrap64 (x10_2 + a1)) tg0 t545 t546 _ ?side1 ?side2 ?side3 A13.1).mono ?_); (case side1 => exact (Kd.C_below HR0.1 HB.1)); (case side2 => exact HC0.1); (case side3 => exact (by exact BK16.1)); rintro e w16 ⟨v547, rfl, ho0, hb⟩; refine ⟨_, rfl, ?_⟩; have n0_ := ak (Kd.R_elder' (by exact HO_8.1) (Kd.R_base ho0) hb); have n1_ := ak (Kd.R_lower (Kd.R_new' ho0 (Kd.R_lt (by exact HO_8.1))) (below_size HB.1)); have n2_ := bg0 (t := tg0) (by exact BK16.1) hb; have n3_ := ak (below_step HB.1 hb); clear HO_8; clear BK16; clear HB; have HO_8 := n0_; have HO548 := n1_; have BK16 := n2_; have HB := n3_; clear n0_ n1_ n2_ n3_; (try clear hb); (try clear ho0)))
          go_roundg k2
          case measure => have := HJ5.1; have := HK2.1; omega
          case rel => exact ⟨(x8_2), (x9_2), (wrap64 (x10_2 + 1)), (by rfl), (by rfl), H', ⟨by have := HJ5.1; have := HK2.1; omega⟩, ⟨by exact Kd.R_mono HO_8.1 (fun _ hk => trivial)⟩, ⟨by exact BK16.1⟩, ⟨by repeat (with_reducible exact HB.1)⟩⟩
        rw [if_neg c12] at H
        have c12b0 : decide ((wrap64 (x10_2 + a1)) ≤ (l0.length : Int)) = false := decide_eq_false c12
        clear c12
        simp only [Option.some.injEq, Prod.mk.injEq] at H
        obtain ⟨rfl, rfl, rfl⟩ := H
        go_wp2
        go_ret3
        exact ⟨_, by rfl, by exact HO_8.1, by repeat (with_reducible exact HB.1)⟩
  rw [if_neg c5] at H
  have c5b0 : (t540 == 0) = false := beq_eq_false_iff_ne.mpr c5
  have c5b1 : (t540 != 0) = true := bne_iff_ne.mpr c5
  simp only [Option.some.injEq, Prod.mk.injEq] at H
  obtain ⟨rfl, rfl, rfl⟩ := H
  go_enter Tryd.func13, Tryd.ntmps13
  go_wp2_with (first | ((with_reducible refine gate_callee (f := 34) rfl ?_); refine goesL_ (some 14) rfl rfl Tryd.func34 (by kernel_rfl) rfl #[.slice A0 l0.length c0] rfl am_ ?_; (with_reducible refine (m_check.calls k (fun k_ => k_ < w.heap.size) _ _ l0 t540 _ ?side1 A4.1).mono ?_); (case side1 => exact Kd.V_mk HC0.1 (Kd.F_below (Kd.C_F k62_heap HR0.1) HB.1)); rintro e w17 ⟨rfl, hb⟩; refine ⟨_, rfl, ?_⟩; have n0_ := bg0 (t := tg0) (by exact BK16.1) hb; have n1_ := ak (below_step HB.1 hb); clear BK16; clear HB; have BK16 := n0_; have HB := n1_; clear n0_ n1_; (try clear hb)))
  go_ret3
  exact ⟨_, by rfl, by exact Kd.R_nil _ _ _ _ _, by repeat (with_reducible exact HB.1)⟩

end Go.Proofs.YtglkcinmohjblaaDoor.XA
