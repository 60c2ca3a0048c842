import Derived.Test.YtgacodhpniehiaaXAx14
import Derived.Test.YtgacodhpniehiaaXAx8
namespace Go.Proofs.Ytgacodhpniehiaa.XA
open Go.RowKit Opens YtgacodhpniehiaaW.PrintWords YtgacodhpniehiaaW.PrintLast YtgacodhpniehiaaW.PrintMore
attribute [local go_sem] max2_int min2_int max_two min_two max_three min_three max_four min_four cell_some cell_same
set_option linter.unusedVariables false
set_option linter.unusedSimpArgs false

def boxpack_Bound.f (k : Nat) (a0_0 : Int) (a0_1 : Int) (a0_2 : Int) (a0_3 : Int) (l0_4 : List (S56)) (l1 : List Int) : Option (Int × Int) := (boxpack_CheckTable.f k a0_0 a0_1 a0_2 a0_3 l0_4 l1).bind fun bt184 => (if bt184.2 = 0 then (if 0 ≤ (wrap64 ((l1.length : Int) - 1)) then (if (wrap64 ((l1.length : Int) - 1)) < (l1.length : Int) then (some (rd l1 (wrap64 ((l1.length : Int) - 1)), 0)) else (none)) else (none)) else (some (0, bt184.2)))
theorem boxpack_Bound.mono : ∀ a0 a1 a2 a3 a4 a5 k, LeO (boxpack_Bound.f k a0 a1 a2 a3 a4 a5) (boxpack_Bound.f (k + 1) a0 a1 a2 a3 a4 a5) := by
  intro a0 a1 a2 a3 a4 a5 k
  unfold boxpack_Bound.f
  repeat' first
      | (with_reducible exact boxpack_CheckTable.mono _ _ _ _ _ _ _)
      | (with_reducible exact LeO.refl _)
      | (with_reducible refine LeO.bind ?_ (fun _ => ?_))
set_option maxHeartbeats 8000000 in
set_option maxRecDepth 100000 in
theorem boxpack_Bound.calls (k : Nat) (a0_0 : Int) (a0_1 : Int) (a0_2 : Int) (a0_3 : Int) (A0_4 : Option Addr) (c0_4 : Nat) (l0_4 : List (S56)) (A1 : Option Addr) (c1 : Nat) (l1 : List Int) (r1 : Int) (r2 : Int) (w : World) (hr0_4 : Kd.C k56 w A0_4 l0_4.length l0_4) (hc0_4 : l0_4.length ≤ c0_4) (hr1 : Kd.C (Kd.int .i64) w A1 l1.length l1) (hc1 : l1.length ≤ c1) (h : boxpack_Bound.f k a0_0 a0_1 a0_2 a0_3 l0_4 l1 = some (r1, r2)) :
    Calls Try.prog 22 #[.agg #[.int .i64 a0_0, .int .i64 a0_1, .int .i64 a0_2, .int .i64 a0_3, .slice A0_4 l0_4.length c0_4], .slice A1 l1.length c1] w fun e w' => e = .returned (.tuple #[.int .i64 r1, .int .i64 r2]) ∧ Below w.heap.size w w' := by
  have hu33 := Try.underlying33
  have HR0_4 := ak hr0_4
  have HC0_4 := ak hc0_4
  clear hr0_4 hc0_4
  have HR1 := ak hr1
  have HC1 := ak hc1
  clear hr1 hc1
  have HB := ak (Below.refl w.heap.size w)
  have H : ((boxpack_CheckTable.f k a0_0 a0_1 a0_2 a0_3 l0_4 l1).bind fun bt184 => (if bt184.2 = 0 then (if 0 ≤ (wrap64 ((l1.length : Int) - 1)) then (if (wrap64 ((l1.length : Int) - 1)) < (l1.length : Int) then (some (rd l1 (wrap64 ((l1.length : Int) - 1)), 0)) else (none)) else (none)) else (some (0, bt184.2)))) = some (r1, r2) := h
  clear h
  replace H := Option.bind_eq_some_iff.mp H
  obtain ⟨⟨t184, t185⟩, A30, H⟩ := H
  (try dsimp only at H)
  have A3 := ak A30
  clear A30
  by_cases c4 : t185 = 0
  · rw [if_pos c4] at H
    have c4b0 : (t185 == 0) = true := beq_iff_eq.mpr c4
    have c4b1 : (t185 != 0) = false := bne_eq_false_iff_eq.mpr c4
    clear c4
    obtain ⟨ji5, hji5⟩ : ∃ j_ : Int, (wrap64 ((l1.length : Int) - 1)) = j_ := ⟨_, rfl⟩
    replace H : (if 0 ≤ (ji5) then (if (ji5) < (l1.length : Int) then (some (rd l1 (ji5), 0)) else (none)) else (none)) = some (r1, r2) := by (rw [hji5] at H; exact H)
    have hji5w : (IntKind.i64.wrap ((l1.length : Int) - 1)) = ji5 := (i64_w _).trans hji5
    by_cases c6 : 0 ≤ (ji5)
    · rw [if_pos c6] at H
      have c6b0 : decide (0 ≤ (ji5)) = true := decide_eq_true c6
      clear c6
      by_cases c7 : (ji5) < (l1.length : Int)
      · rw [if_pos c7] at H
        have c7b0 : decide ((ji5) < (l1.length : Int)) = true := decide_eq_true c7
        clear c7
        simp only [Option.some.injEq, Prod.mk.injEq] at H
        obtain ⟨rfl, rfl⟩ := H
        go_enter Try.func22, Try.ntmps22
        go_wp2_with (first | ((with_reducible refine gate_dst (N := 2) rfl ?_); refine bx_ 2 #[.int .i64 a0_0, .int .i64 a0_1, .int .i64 a0_2, .int .i64 a0_3, .slice A0_4 l0_4.length c0_4] 33 ?_; intro gb183 hg w8 hbox hb; have n0_ := ak (below_step HB.1 hb); have n1_ := ak (hbox); have n2_ := ak ((by rw [hg]; exact (below_size HB.1) : w.heap.size ≤ gb183)); have n3_ := ak ((by rw [hg]; exact (below_size HB.1) : w.heap.size ≤ gb183)); clear HB; have HB := n0_; have BK183 := n1_; have GW183 := n2_; have GE183 := n3_; clear n0_ n1_ n2_ n3_; clear hb hbox hg; have hcz9_0 : w8.cell? ⟨gb183, 0, none⟩ = some (.int .i64 a0_0) := bc_ BK183 0; have hcz9_1 : w8.cell? ⟨gb183, 1, none⟩ = some (.int .i64 a0_1) := bc_ BK183 1; have hcz9_2 : w8.cell? ⟨gb183, 2, none⟩ = some (.int .i64 a0_2) := bc_ BK183 2; have hcz9_3 : w8.cell? ⟨gb183, 3, none⟩ = some (.int .i64 a0_3) := bc_ BK183 3; have hcz9_4 : w8.cell? ⟨gb183, 4, none⟩ = some (.slice A0_4 l0_4.length c0_4) := bc_ BK183 4; have hfz9_0 := blk_frozen BK183.1 0; have hfz9_1 := blk_frozen BK183.1 1; have hfz9_2 := blk_frozen BK183.1 2; have hfz9_3 := blk_frozen BK183.1 3; have hfz9_4 := blk_frozen BK183.1 4) | ((with_reducible refine gate_callee (f := 21) rfl ?_); refine gl_ 11 Try.func21 #[.agg #[.int .i64 a0_0, .int .i64 a0_1, .int .i64 a0_2, .int .i64 a0_3, .slice A0_4 l0_4.length c0_4], .slice A1 l1.length c1] ?_; (with_reducible refine (boxpack_CheckTable.calls k a0_0 a0_1 a0_2 a0_3 _ _ l0_4 _ _ l1 t184 t185 _ ?side1 ?side2 ?side3 ?side4 A3.1).mono ?_); (case side1 => exact (Kd.C_below HR0_4.1 HB.1)); (case side2 => exact HC0_4.1); (case side3 => exact (Kd.C_below HR1.1 HB.1)); (case side4 => exact HC1.1); rintro e w10 ⟨rfl, hb⟩; refine ⟨_, rfl, ?_⟩; have n0_ := ak (blk_below (g := gb183) (o := .cells #[.int .i64 a0_0, .int .i64 a0_1, .int .i64 a0_2, .int .i64 a0_3, .slice A0_4 l0_4.length c0_4] 33 (0, 0)) (by exact BK183.1) hb); have n1_ := ak (below_step HB.1 hb); clear BK183; clear HB; have BK183 := n0_; have HB := n1_; clear n0_ n1_; (try clear hb); have p186 : 0 ≤ ((ji5) : Int) := od_; have q186 : (ji5) < (l1.length : Int) := od_; obtain ⟨ad186, e186, hx186_0⟩ := Kd.at_int HR1.1 (ji5) p186 q186; cases e186; replace hx186_0 := (hc_ HB hx186_0).trans hx186_0; replace p186 := eq_true p186; replace q186 := eq_true q186))
        go_ret2
        exact ⟨by rfl, by repeat (with_reducible exact HB.1)⟩
      rw [if_neg c7] at H
      exact absurd H (by simp)
    rw [if_neg c6] at H
    exact absurd H (by simp)
  rw [if_neg c4] at H
  have c4b0 : (t185 == 0) = false := beq_eq_false_iff_ne.mpr c4
  have c4b1 : (t185 != 0) = true := bne_iff_ne.mpr c4
  simp only [Option.some.injEq, Prod.mk.injEq] at H
  obtain ⟨rfl, rfl⟩ := H
  go_enter Try.func22, Try.ntmps22
  go_wp2_with (first | ((with_reducible refine gate_dst (N := 2) rfl ?_); refine bx_ 2 #[.int .i64 a0_0, .int .i64 a0_1, .int .i64 a0_2, .int .i64 a0_3, .slice A0_4 l0_4.length c0_4] 33 ?_; intro gb183 hg w11 hbox hb; have n0_ := ak (below_step HB.1 hb); have n1_ := ak (hbox); have n2_ := ak ((by rw [hg]; exact (below_size HB.1) : w.heap.size ≤ gb183)); have n3_ := ak ((by rw [hg]; exact (below_size HB.1) : w.heap.size ≤ gb183)); clear HB; have HB := n0_; have BK183 := n1_; have GW183 := n2_; have GE183 := n3_; clear n0_ n1_ n2_ n3_; clear hb hbox hg; have hcz12_0 : w11.cell? ⟨gb183, 0, none⟩ = some (.int .i64 a0_0) := bc_ BK183 0; have hcz12_1 : w11.cell? ⟨gb183, 1, none⟩ = some (.int .i64 a0_1) := bc_ BK183 1; have hcz12_2 : w11.cell? ⟨gb183, 2, none⟩ = some (.int .i64 a0_2) := bc_ BK183 2; have hcz12_3 : w11.cell? ⟨gb183, 3, none⟩ = some (.int .i64 a0_3) := bc_ BK183 3; have hcz12_4 : w11.cell? ⟨gb183, 4, none⟩ = some (.slice A0_4 l0_4.length c0_4) := bc_ BK183 4; have hfz12_0 := blk_frozen BK183.1 0; have hfz12_1 := blk_frozen BK183.1 1; have hfz12_2 := blk_frozen BK183.1 2; have hfz12_3 := blk_frozen BK183.1 3; have hfz12_4 := blk_frozen BK183.1 4) | ((with_reducible refine gate_callee (f := 21) rfl ?_); refine gl_ 11 Try.func21 #[.agg #[.int .i64 a0_0, .int .i64 a0_1, .int .i64 a0_2, .int .i64 a0_3, .slice A0_4 l0_4.length c0_4], .slice A1 l1.length c1] ?_; (with_reducible refine (boxpack_CheckTable.calls k a0_0 a0_1 a0_2 a0_3 _ _ l0_4 _ _ l1 t184 t185 _ ?side1 ?side2 ?side3 ?side4 A3.1).mono ?_); (case side1 => exact (Kd.C_below HR0_4.1 HB.1)); (case side2 => exact HC0_4.1); (case side3 => exact (Kd.C_below HR1.1 HB.1)); (case side4 => exact HC1.1); rintro e w13 ⟨rfl, hb⟩; refine ⟨_, rfl, ?_⟩; have n0_ := ak (blk_below (g := gb183) (o := .cells #[.int .i64 a0_0, .int .i64 a0_1, .int .i64 a0_2, .int .i64 a0_3, .slice A0_4 l0_4.length c0_4] 33 (0, 0)) (by exact BK183.1) hb); have n1_ := ak (below_step HB.1 hb); clear BK183; clear HB; have BK183 := n0_; have HB := n1_; clear n0_ n1_; (try clear hb)))
  go_ret2
  exact ⟨by rfl, by repeat (with_reducible exact HB.1)⟩

def rf_SameTable.l0 : Nat → List Int → List Int → Int → Option (Bool)
  | 0, _, _, _ => none
  | k + 1, x0, x1, x5 => if x5 < (x0.length : Int) then (if 0 ≤ x5 then (if x5 < (x1.length : Int) then (if (rd x0 x5) = (rd x1 x5) then (rf_SameTable.l0 k x0 x1 (wrap64 (x5 + 1))) else (some false)) else (none)) else (none)) else (some true)
def rf_SameTable.f (k : Nat) (l0 : List Int) (l1 : List Int) : Option (Bool) := if (l0.length : Int) = (l1.length : Int) then (rf_SameTable.l0 k l0 l1 0) else (some false)
theorem rf_SameTable.mono_l : ∀ k, (∀ y0 y1 y2, LeO (rf_SameTable.l0 k y0 y1 y2) (rf_SameTable.l0 (k + 1) y0 y1 y2))
  | 0 => fun _ _ _ r h => by simp [rf_SameTable.l0] at h
  | k + 1 => by
    have ih0 := rf_SameTable.mono_l k
    intro y0 y1 y2
    unfold rf_SameTable.l0
    repeat' first
    | (with_reducible exact ih0 _ _ _)
    | (with_reducible exact LeO.refl _)
    | (with_reducible refine LeO.ite ?_ ?_)
theorem rf_SameTable.mono : ∀ a0 a1 k, LeO (rf_SameTable.f k a0 a1) (rf_SameTable.f (k + 1) a0 a1) := by
  intro a0 a1 k
  have ih0 := rf_SameTable.mono_l k
  unfold rf_SameTable.f
  repeat' first
      | (with_reducible exact ih0 _ _ _)
      | (with_reducible exact LeO.refl _)
      | (with_reducible refine LeO.ite ?_ ?_)
set_option maxHeartbeats 8000000 in
set_option maxRecDepth 100000 in
theorem rf_SameTable.calls (k : Nat) (A0 : Option Addr) (c0 : Nat) (l0 : List Int) (A1 : Option Addr) (c1 : Nat) (l1 : List Int) (r : Bool) (w : World) (hr0 : Kd.C (Kd.int .i64) w A0 l0.length l0) (hc0 : l0.length ≤ c0) (hr1 : Kd.C (Kd.int .i64) w A1 l1.length l1) (hc1 : l1.length ≤ c1) (h : rf_SameTable.f k l0 l1 = some r) :
    Calls Try.prog 24 #[.slice A0 l0.length c0, .slice A1 l1.length c1] w fun e w' => e = .returned (.bool r) ∧ Drawn0 w w' := by
  have HR0 := ak hr0
  have HC0 := ak hc0
  clear hr0 hc0
  have HR1 := ak hr1
  have HC1 := ak hc1
  clear hr1 hc1
  have H : (if (l0.length : Int) = (l1.length : Int) then (rf_SameTable.l0 k l0 l1 0) else (some false)) = some r := h
  clear h
  by_cases c3 : (l0.length : Int) = (l1.length : Int)
  · rw [if_pos c3] at H
    have c3b0 : ((l0.length : Int) == (l1.length : Int)) = true := beq_iff_eq.mpr c3
    have c3b1 : ((l0.length : Int) != (l1.length : Int)) = false := bne_eq_false_iff_eq.mpr c3
    have c3b2 : (l0.length == l1.length) = true := by (simp at c3 ⊢; omega)
    clear c3
    have H' := ak H
    clear H
    go_enter Try.func24, Try.ntmps24
    go_wp2
    go_loopg [5] k (fun kq v5 w' => ∃ (x5_1 : Int), v5 = .int .i64 x5_1 ∧ Aside0 (rf_SameTable.l0 kq l0 l1 x5_1 = some r) ∧ Aside0 (kq ≤ k) ∧ Drawn0 w w')
    case atStart => exact ⟨(0), (by rfl), H', ⟨Nat.le_refl _⟩, by exact Drawn0.refl _⟩
    clear H'
    try clear c3b0
    try clear c3b1
    try clear c3b2
    obtain ⟨x5_1, rfl, HA, HK1, ⟨m1, rfl⟩⟩ := hrel
    cases gk with
    | zero => exact absurd HA.1 (by simp [rf_SameTable.l0])
    | succ k1 =>
      have H := HA.1
      clear HA
      simp only [rf_SameTable.l0] at H
      by_cases c4 : x5_1 < (l0.length : Int)
      · rw [if_pos c4] at H
        have c4b0 : decide (x5_1 < (l0.length : Int)) = true := decide_eq_true c4
        clear c4
        by_cases c5 : 0 ≤ x5_1
        · rw [if_pos c5] at H
          have c5b0 : decide (0 ≤ x5_1) = true := decide_eq_true c5
          clear c5
          by_cases c6 : x5_1 < (l1.length : Int)
          · rw [if_pos c6] at H
            have c6b0 : decide (x5_1 < (l1.length : Int)) = true := decide_eq_true c6
            clear c6
            by_cases c7 : (rd l0 x5_1) = (rd l1 x5_1)
            · rw [if_pos c7] at H
              have c7b0 : ((rd l0 x5_1) == (rd l1 x5_1)) = true := beq_iff_eq.mpr c7
              have c7b1 : ((rd l0 x5_1) != (rd l1 x5_1)) = false := bne_eq_false_iff_eq.mpr c7
              clear c7
              have H' := ak H
              clear H
              have p187 : 0 ≤ (x5_1 : Int) := od_
              have q187 : x5_1 < (l0.length : Int) := od_
              obtain ⟨ad187, e187, hx187_0⟩ := Kd.at_int HR0.1 x5_1 p187 q187
              cases e187
              replace p187 := eq_true p187
              replace q187 := eq_true q187
              have p188 : 0 ≤ (x5_1 : Int) := od_
              have q188 : x5_1 < (l1.length : Int) := od_
              obtain ⟨ad188, e188, hx188_0⟩ := Kd.at_int HR1.1 x5_1 p188 q188
              cases e188
              replace p188 := eq_true p188
              replace q188 := eq_true q188
              go_wp2
              repeat (go_quiet (fail); try go_wp2)
              go_roundg k1
              case measure => have := HK1.1; omega
              case rel => exact ⟨(wrap64 (x5_1 + 1)), (by rfl), H', ⟨by have := HK1.1; omega⟩, by repeat (first | exact Drawn0.refl _ | apply Drawn0.step)⟩
            rw [if_neg c7] at H
            have c7b0 : ((rd l0 x5_1) == (rd l1 x5_1)) = false := beq_eq_false_iff_ne.mpr c7
            have c7b1 : ((rd l0 x5_1) != (rd l1 x5_1)) = true := bne_iff_ne.mpr c7
            obtain rfl := Option.some.inj H
            have p187 : 0 ≤ (x5_1 : Int) := od_
            have q187 : x5_1 < (l0.length : Int) := od_
            obtain ⟨ad187, e187, hx187_0⟩ := Kd.at_int HR0.1 x5_1 p187 q187
            cases e187
            replace p187 := eq_true p187
            replace q187 := eq_true q187
            have p188 : 0 ≤ (x5_1 : Int) := od_
            have q188 : x5_1 < (l1.length : Int) := od_
            obtain ⟨ad188, e188, hx188_0⟩ := Kd.at_int HR1.1 x5_1 p188 q188
            cases e188
            replace p188 := eq_true p188
            replace q188 := eq_true q188
            go_wp2
            repeat (go_quiet (fail); try go_wp2)
            go_ret
            exact ⟨by rfl, by repeat (first | exact Drawn0.refl _ | apply Drawn0.step)⟩
          rw [if_neg c6] at H
          exact absurd H (by simp)
        rw [if_neg c5] at H
        exact absurd H (by simp)
      rw [if_neg c4] at H
      have c4b0 : decide (x5_1 < (l0.length : Int)) = false := decide_eq_false c4
      clear c4
      obtain rfl := Option.some.inj H
      go_wp2
      go_ret
      exact ⟨by rfl, by repeat (first | exact Drawn0.refl _ | apply Drawn0.step)⟩
  rw [if_neg c3] at H
  have c3b0 : ((l0.length : Int) == (l1.length : Int)) = false := beq_eq_false_iff_ne.mpr c3
  have c3b1 : ((l0.length : Int) != (l1.length : Int)) = true := bne_iff_ne.mpr c3
  have c3b2 : (l0.length == l1.length) = false := by (simp at c3 ⊢; omega)
  obtain rfl := Option.some.inj H
  go_enter Try.func24, Try.ntmps24
  go_wp2
  go_ret
  exact ⟨by rfl, by exact Drawn0.refl _⟩

def boxpack_Proves.f (k : Nat) (a0_0 : Int) (a0_1 : Int) (a0_2 : Int) (a0_3 : Int) (l0_4 : List (S56)) (l1 : List Int) (l2 : List (S61)) : Option (Bool) := (boxpack_Bound.f k a0_0 a0_1 a0_2 a0_3 l0_4 l1).bind fun bt190 => (if bt190.2 = 0 then ((boxpack_Value.f k a0_0 a0_1 a0_2 a0_3 l0_4 l2).bind fun bt192 => (if bt192.2 = 0 then (some (bt192.1 == bt190.1)) else (some false))) else (some false))
theorem boxpack_Proves.mono : ∀ a0 a1 a2 a3 a4 a5 a6 k, LeO (boxpack_Proves.f k a0 a1 a2 a3 a4 a5 a6) (boxpack_Proves.f (k + 1) a0 a1 a2 a3 a4 a5 a6) := by
  intro a0 a1 a2 a3 a4 a5 a6 k
  unfold boxpack_Proves.f
  repeat' first
      | (with_reducible exact boxpack_Bound.mono _ _ _ _ _ _ _)
      | (with_reducible exact boxpack_Value.mono _ _ _ _ _ _ _)
      | (with_reducible exact LeO.refl _)
      | (with_reducible refine LeO.ite ?_ ?_)
      | (with_reducible refine LeO.bind ?_ (fun _ => ?_))
set_option maxHeartbeats 8000000 in
set_option maxRecDepth 100000 in
theorem boxpack_Proves.calls (k : Nat) (a0_0 : Int) (a0_1 : Int) (a0_2 : Int) (a0_3 : Int) (A0_4 : Option Addr) (c0_4 : Nat) (l0_4 : List (S56)) (A1 : Option Addr) (c1 : Nat) (l1 : List Int) (A2 : Option Addr) (c2 : Nat) (l2 : List (S61)) (r : Bool) (w : World) (hr0_4 : Kd.C k56 w A0_4 l0_4.length l0_4) (hc0_4 : l0_4.length ≤ c0_4) (hr1 : Kd.C (Kd.int .i64) w A1 l1.length l1) (hc1 : l1.length ≤ c1) (hr2 : Kd.C k61 w A2 l2.length l2) (hc2 : l2.length ≤ c2) (h : boxpack_Proves.f k a0_0 a0_1 a0_2 a0_3 l0_4 l1 l2 = some r) :
    Calls Try.prog 25 #[.agg #[.int .i64 a0_0, .int .i64 a0_1, .int .i64 a0_2, .int .i64 a0_3, .slice A0_4 l0_4.length c0_4], .slice A1 l1.length c1, .slice A2 l2.length c2] w fun e w' => e = .returned (.bool r) ∧ Below w.heap.size w w' := by
  have hu33 := Try.underlying33
  have HR0_4 := ak hr0_4
  have HC0_4 := ak hc0_4
  clear hr0_4 hc0_4
  have HR1 := ak hr1
  have HC1 := ak hc1
  clear hr1 hc1
  have HR2 := ak hr2
  have HC2 := ak hc2
  clear hr2 hc2
  have HB := ak (Below.refl w.heap.size w)
  have H : ((boxpack_Bound.f k a0_0 a0_1 a0_2 a0_3 l0_4 l1).bind fun bt190 => (if bt190.2 = 0 then ((boxpack_Value.f k a0_0 a0_1 a0_2 a0_3 l0_4 l2).bind fun bt192 => (if bt192.2 = 0 then (some (bt192.1 == bt190.1)) else (some false))) else (some false))) = some r := h
  clear h
  replace H := Option.bind_eq_some_iff.mp H
  obtain ⟨⟨t190, t191⟩, A40, H⟩ := H
  (try dsimp only at H)
  have A4 := ak A40
  clear A40
  by_cases c5 : t191 = 0
  · rw [if_pos c5] at H
    have c5b0 : (t191 == 0) = true := beq_iff_eq.mpr c5
    have c5b1 : (t191 != 0) = false := bne_eq_false_iff_eq.mpr c5
    clear c5
    replace H := Option.bind_eq_some_iff.mp H
    obtain ⟨⟨t192, t193⟩, A60, H⟩ := H
    (try dsimp only at H)
    have A6 := ak A60
    clear A60
    by_cases c7 : t193 = 0
    · rw [if_pos c7] at H
      have c7b0 : (t193 == 0) = true := beq_iff_eq.mpr c7
      have c7b1 : (t193 != 0) = false := bne_eq_false_iff_eq.mpr c7
      clear c7
      obtain rfl := Option.some.inj H
      go_enter Try.func25, Try.ntmps25
      go_wp2_with (first | ((with_reducible refine gate_dst (N := 3) rfl ?_); refine bx_ 3 #[.int .i64 a0_0, .int .i64 a0_1, .int .i64 a0_2, .int .i64 a0_3, .slice A0_4 l0_4.length c0_4] 33 ?_; intro gb189 hg w8 hbox hb; have n0_ := ak (below_step HB.1 hb); have n1_ := ak (hbox); have n2_ := ak ((by rw [hg]; exact (below_size HB.1) : w.heap.size ≤ gb189)); have n3_ := ak ((by rw [hg]; exact (below_size HB.1) : w.heap.size ≤ gb189)); clear HB; have HB := n0_; have BK189 := n1_; have GW189 := n2_; have GE189 := n3_; clear n0_ n1_ n2_ n3_; clear hb hbox hg; have hcz9_0 : w8.cell? ⟨gb189, 0, none⟩ = some (.int .i64 a0_0) := bc_ BK189 0; have hcz9_1 : w8.cell? ⟨gb189, 1, none⟩ = some (.int .i64 a0_1) := bc_ BK189 1; have hcz9_2 : w8.cell? ⟨gb189, 2, none⟩ = some (.int .i64 a0_2) := bc_ BK189 2; have hcz9_3 : w8.cell? ⟨gb189, 3, none⟩ = some (.int .i64 a0_3) := bc_ BK189 3; have hcz9_4 : w8.cell? ⟨gb189, 4, none⟩ = some (.slice A0_4 l0_4.length c0_4) := bc_ BK189 4; have hfz9_0 := blk_frozen BK189.1 0; have hfz9_1 := blk_frozen BK189.1 1; have hfz9_2 := blk_frozen BK189.1 2; have hfz9_3 := blk_frozen BK189.1 3; have hfz9_4 := blk_frozen BK189.1 4) | ((with_reducible refine gate_callee (f := 22) rfl ?_); refine gl_ 13 Try.func22 #[.agg #[.int .i64 a0_0, .int .i64 a0_1, .int .i64 a0_2, .int .i64 a0_3, .slice A0_4 l0_4.length c0_4], .slice A1 l1.length c1] ?_; (with_reducible refine (boxpack_Bound.calls k a0_0 a0_1 a0_2 a0_3 _ _ l0_4 _ _ l1 t190 t191 _ ?side1 ?side2 ?side3 ?side4 A4.1).mono ?_); (case side1 => exact (Kd.C_below HR0_4.1 HB.1)); (case side2 => exact HC0_4.1); (case side3 => exact (Kd.C_below HR1.1 HB.1)); (case side4 => exact HC1.1); rintro e w10 ⟨rfl, hb⟩; refine ⟨_, rfl, ?_⟩; have n0_ := ak (blk_below (g := gb189) (o := .cells #[.int .i64 a0_0, .int .i64 a0_1, .int .i64 a0_2, .int .i64 a0_3, .slice A0_4 l0_4.length c0_4] 33 (0, 0)) (by exact BK189.1) hb); have n1_ := ak (below_step HB.1 hb); clear BK189; clear HB; have BK189 := n0_; have HB := n1_; clear n0_ n1_; (try clear hb); have hcz11_0 : w10.cell? ⟨gb189, 0, none⟩ = some (.int .i64 a0_0) := bc_ BK189 0; have hcz11_1 : w10.cell? ⟨gb189, 1, none⟩ = some (.int .i64 a0_1) := bc_ BK189 1; have hcz11_2 : w10.cell? ⟨gb189, 2, none⟩ = some (.int .i64 a0_2) := bc_ BK189 2; have hcz11_3 : w10.cell? ⟨gb189, 3, none⟩ = some (.int .i64 a0_3) := bc_ BK189 3; have hcz11_4 : w10.cell? ⟨gb189, 4, none⟩ = some (.slice A0_4 l0_4.length c0_4) := bc_ BK189 4; have hfz11_0 := blk_frozen BK189.1 0; have hfz11_1 := blk_frozen BK189.1 1; have hfz11_2 := blk_frozen BK189.1 2; have hfz11_3 := blk_frozen BK189.1 3; have hfz11_4 := blk_frozen BK189.1 4) | ((with_reducible refine gate_callee (f := 12) rfl ?_); refine gl_ 21 Try.func12 #[.agg #[.int .i64 a0_0, .int .i64 a0_1, .int .i64 a0_2, .int .i64 a0_3, .slice A0_4 l0_4.length c0_4], .slice A2 l2.length c2] ?_; (with_reducible refine (boxpack_Value.calls k a0_0 a0_1 a0_2 a0_3 _ _ l0_4 _ _ l2 t192 t193 _ ?side1 ?side2 ?side3 ?side4 A6.1).mono ?_); (case side1 => exact (Kd.C_below HR0_4.1 HB.1)); (case side2 => exact HC0_4.1); (case side3 => exact (Kd.C_below HR2.1 HB.1)); (case side4 => exact HC2.1); rintro e w12 ⟨rfl, hb⟩; refine ⟨_, rfl, ?_⟩; have n0_ := ak (blk_below (g := gb189) (o := .cells #[.int .i64 a0_0, .int .i64 a0_1, .int .i64 a0_2, .int .i64 a0_3, .slice A0_4 l0_4.length c0_4] 33 (0, 0)) (by exact BK189.1) hb); have n1_ := ak (below_step HB.1 hb); clear BK189; clear HB; have BK189 := n0_; have HB := n1_; clear n0_ n1_; (try clear hb)))
      go_ret
      exact ⟨by rfl, by repeat (with_reducible exact HB.1)⟩
    rw [if_neg c7] at H
    have c7b0 : (t193 == 0) = false := beq_eq_false_iff_ne.mpr c7
    have c7b1 : (t193 != 0) = true := bne_iff_ne.mpr c7
    obtain rfl := Option.some.inj H
    go_enter Try.func25, Try.ntmps25
    go_wp2_with (first | ((with_reducible refine gate_dst (N := 3) rfl ?_); refine bx_ 3 #[.int .i64 a0_0, .int .i64 a0_1, .int .i64 a0_2, .int .i64 a0_3, .slice A0_4 l0_4.length c0_4] 33 ?_; intro gb189 hg w13 hbox hb; have n0_ := ak (below_step HB.1 hb); have n1_ := ak (hbox); have n2_ := ak ((by rw [hg]; exact (below_size HB.1) : w.heap.size ≤ gb189)); have n3_ := ak ((by rw [hg]; exact (below_size HB.1) : w.heap.size ≤ gb189)); clear HB; have HB := n0_; have BK189 := n1_; have GW189 := n2_; have GE189 := n3_; clear n0_ n1_ n2_ n3_; clear hb hbox hg; have hcz14_0 : w13.cell? ⟨gb189, 0, none⟩ = some (.int .i64 a0_0) := bc_ BK189 0; have hcz14_1 : w13.cell? ⟨gb189, 1, none⟩ = some (.int .i64 a0_1) := bc_ BK189 1; have hcz14_2 : w13.cell? ⟨gb189, 2, none⟩ = some (.int .i64 a0_2) := bc_ BK189 2; have hcz14_3 : w13.cell? ⟨gb189, 3, none⟩ = some (.int .i64 a0_3) := bc_ BK189 3; have hcz14_4 : w13.cell? ⟨gb189, 4, none⟩ = some (.slice A0_4 l0_4.length c0_4) := bc_ BK189 4; have hfz14_0 := blk_frozen BK189.1 0; have hfz14_1 := blk_frozen BK189.1 1; have hfz14_2 := blk_frozen BK189.1 2; have hfz14_3 := blk_frozen BK189.1 3; have hfz14_4 := blk_frozen BK189.1 4) | ((with_reducible refine gate_callee (f := 22) rfl ?_); refine gl_ 13 Try.func22 #[.agg #[.int .i64 a0_0, .int .i64 a0_1, .int .i64 a0_2, .int .i64 a0_3, .slice A0_4 l0_4.length c0_4], .slice A1 l1.length c1] ?_; (with_reducible refine (boxpack_Bound.calls k a0_0 a0_1 a0_2 a0_3 _ _ l0_4 _ _ l1 t190 t191 _ ?side1 ?side2 ?side3 ?side4 A4.1).mono ?_); (case side1 => exact (Kd.C_below HR0_4.1 HB.1)); (case side2 => exact HC0_4.1); (case side3 => exact (Kd.C_below HR1.1 HB.1)); (case side4 => exact HC1.1); rintro e w15 ⟨rfl, hb⟩; refine ⟨_, rfl, ?_⟩; have n0_ := ak (blk_below (g := gb189) (o := .cells #[.int .i64 a0_0, .int .i64 a0_1, .int .i64 a0_2, .int .i64 a0_3, .slice A0_4 l0_4.length c0_4] 33 (0, 0)) (by exact BK189.1) hb); have n1_ := ak (below_step HB.1 hb); clear BK189; clear HB; have BK189 := n0_; have HB := n1_; clear n0_ n1_; (try clear hb); have hcz16_0 : w15.cell? ⟨gb189, 0, none⟩ = some (.int .i64 a0_0) := bc_ BK189 0; have hcz16_1 : w15.cell? ⟨gb189, 1, none⟩ = some (.int .i64 a0_1) := bc_ BK189 1; have hcz16_2 : w15.cell? ⟨gb189, 2, none⟩ = some (.int .i64 a0_2) := bc_ BK189 2; have hcz16_3 : w15.cell? ⟨gb189, 3, none⟩ = some (.int .i64 a0_3) := bc_ BK189 3; have hcz16_4 : w15.cell? ⟨gb189, 4, none⟩ = some (.slice A0_4 l0_4.length c0_4) := bc_ BK189 4; have hfz16_0 := blk_frozen BK189.1 0; have hfz16_1 := blk_frozen BK189.1 1; have hfz16_2 := blk_frozen BK189.1 2; have hfz16_3 := blk_frozen BK189.1 3; have hfz16_4 := blk_frozen BK189.1 4) | ((with_reducible refine gate_callee (f := 12) rfl ?_); refine gl_ 21 Try.func12 #[.agg #[.int .i64 a0_0, .int .i64 a0_1, .int .i64 a0_2, .int .i64 a0_3, .slice A0_4 l0_4.length c0_4], .slice A2 l2.length c2] ?_; (with_reducible refine (boxpack_Value.calls k a0_0 a0_1 a0_2 a0_3 _ _ l0_4 _ _ l2 t192 t193 _ ?side1 ?side2 ?side3 ?side4 A6.1).mono ?_); (case side1 => exact (Kd.C_below HR0_4.1 HB.1)); (case side2 => exact HC0_4.1); (case side3 => exact (Kd.C_below HR2.1 HB.1)); (case side4 => exact HC2.1); rintro e w17 ⟨rfl, hb⟩; refine ⟨_, rfl, ?_⟩; have n0_ := ak (blk_below (g := gb189) (o := .cells #[.int .i64 a0_0, .int .i64 a0_1, .int .i64 a0_2, .int .i64 a0_3, .slice A0_4 l0_4.length c0_4] 33 (0, 0)) (by exact BK189.1) hb); have n1_ := ak (below_step HB.1 hb); clear BK189; clear HB; have BK189 := n0_; have HB := n1_; clear n0_ n1_; (try clear hb)))
    go_ret
    exact ⟨by rfl, by repeat (with_reducible exact HB.1)⟩
  rw [if_neg c5] at H
  have c5b0 : (t191 == 0) = false := beq_eq_false_iff_ne.mpr c5
  have c5b1 : (t191 != 0) = true := bne_iff_ne.mpr c5
  obtain rfl := Option.some.inj H
  go_enter Try.func25, Try.ntmps25
  go_wp2_with (first | ((with_reducible refine gate_dst (N := 3) rfl ?_); refine bx_ 3 #[.int .i64 a0_0, .int .i64 a0_1, .int .i64 a0_2, .int .i64 a0_3, .slice A0_4 l0_4.length c0_4] 33 ?_; intro gb189 hg w18 hbox hb; have n0_ := ak (below_step HB.1 hb); have n1_ := ak (hbox); have n2_ := ak ((by rw [hg]; exact (below_size HB.1) : w.heap.size ≤ gb189)); have n3_ := ak ((by rw [hg]; exact (below_size HB.1) : w.heap.size ≤ gb189)); clear HB; have HB := n0_; have BK189 := n1_; have GW189 := n2_; have GE189 := n3_; clear n0_ n1_ n2_ n3_; clear hb hbox hg; have hcz19_0 : w18.cell? ⟨gb189, 0, none⟩ = some (.int .i64 a0_0) := bc_ BK189 0; have hcz19_1 : w18.cell? ⟨gb189, 1, none⟩ = some (.int .i64 a0_1) := bc_ BK189 1; have hcz19_2 : w18.cell? ⟨gb189, 2, none⟩ = some (.int .i64 a0_2) := bc_ BK189 2; have hcz19_3 : w18.cell? ⟨gb189, 3, none⟩ = some (.int .i64 a0_3) := bc_ BK189 3; have hcz19_4 : w18.cell? ⟨gb189, 4, none⟩ = some (.slice A0_4 l0_4.length c0_4) := bc_ BK189 4; have hfz19_0 := blk_frozen BK189.1 0; have hfz19_1 := blk_frozen BK189.1 1; have hfz19_2 := blk_frozen BK189.1 2; have hfz19_3 := blk_frozen BK189.1 3; have hfz19_4 := blk_frozen BK189.1 4) | ((with_reducible refine gate_callee (f := 22) rfl ?_); refine gl_ 13 Try.func22 #[.agg #[.int .i64 a0_0, .int .i64 a0_1, .int .i64 a0_2, .int .i64 a0_3, .slice A0_4 l0_4.length c0_4], .slice A1 l1.length c1] ?_; (with_reducible refine (boxpack_Bound.calls k a0_0 a0_1 a0_2 a0_3 _ _ l0_4 _ _ l1 t190 t191 _ ?side1 ?side2 ?side3 ?side4 A4.1).mono ?_); (case side1 => exact (Kd.C_below HR0_4.1 HB.1)); (case side2 => exact HC0_4.1); (case side3 => exact (Kd.C_below HR1.1 HB.1)); (case side4 => exact HC1.1); rintro e w20 ⟨rfl, hb⟩; refine ⟨_, rfl, ?_⟩; have n0_ := ak (blk_below (g := gb189) (o := .cells #[.int .i64 a0_0, .int .i64 a0_1, .int .i64 a0_2, .int .i64 a0_3, .slice A0_4 l0_4.length c0_4] 33 (0, 0)) (by exact BK189.1) hb); have n1_ := ak (below_step HB.1 hb); clear BK189; clear HB; have BK189 := n0_; have HB := n1_; clear n0_ n1_; (try clear hb)))
  go_ret
  exact ⟨by rfl, by repeat (with_reducible exact HB.1)⟩

def lw_vec.f (a0 : Int) (a1 : Int) (a2 : Int) : Option (Int × Int × Int) := some (a0, a1, a2)
set_option maxHeartbeats 8000000 in
set_option maxRecDepth 100000 in
theorem lw_vec.calls (a0 : Int) (a1 : Int) (a2 : Int) (r1 : Int) (r2 : Int) (r3 : Int) (w : World) (h : lw_vec.f a0 a1 a2 = some (r1, r2, r3)) :
    Calls Try.prog 27 #[.int .i64 a0, .int .i64 a1, .int .i64 a2] w fun e w' => e = .returned (.agg #[.int .i64 r1, .int .i64 r2, .int .i64 r3]) ∧ Below w.heap.size w w' := by
  have hu23 := Try.underlying23
  have HB := ak (Below.refl w.heap.size w)
  have H : (some (a0, a1, a2)) = some (r1, r2, r3) := h
  clear h
  simp only [Option.some.injEq, Prod.mk.injEq] at H
  obtain ⟨rfl, rfl, rfl⟩ := H
  go_enter Try.func27, Try.ntmps27
  go_wp2_with (first | ((with_reducible refine gate_dst (N := 6) rfl ?_); refine bx_ 6 #[.int .i64 0, .int .i64 0, .int .i64 0] 23 ?_; intro gb194 hg w4 hbox hb; have n0_ := ak (below_step HB.1 hb); have n1_ := ak (hbox); have n2_ := ak ((by rw [hg]; exact (below_size HB.1) : w.heap.size ≤ gb194)); have n3_ := ak ((by rw [hg]; exact (below_size HB.1) : w.heap.size ≤ gb194)); clear HB; have HB := n0_; have BK194 := n1_; have GW194 := n2_; have GE194 := n3_; clear n0_ n1_ n2_ n3_; clear hb hbox hg; have hcz5_0 : w4.cell? ⟨gb194, 0, none⟩ = some (.int .i64 0) := bc_ BK194 0; have hcz5_1 : w4.cell? ⟨gb194, 1, none⟩ = some (.int .i64 0) := bc_ BK194 1; have hcz5_2 : w4.cell? ⟨gb194, 2, none⟩ = some (.int .i64 0) := bc_ BK194 2; have hfz5_0 := blk_frozen BK194.1 0; have hfz5_1 := blk_frozen BK194.1 1; have hfz5_2 := blk_frozen BK194.1 2))
  refine bodyPost_ret (results_cell_row rfl _ _ gb194 23 #[.int .i64 a0, .int .i64 a1, .int .i64 a2] (0, 0) _ rfl (by refine blk_put (cs := #[.int .i64 a0, .int .i64 a1, .int .i64 0]) ?_ 2 _ rfl; refine blk_put (cs := #[.int .i64 a0, .int .i64 0, .int .i64 0]) ?_ 1 _ rfl; refine blk_put (cs := #[.int .i64 0, .int .i64 0, .int .i64 0]) ?_ 0 _ rfl; exact BK194.1) Try.underlying23 rfl (by kernel_rfl)) rfl ?_
  exact ⟨by rfl, by repeat (with_reducible first | exact HB.1 | refine below_set ?_ GE194.1)⟩

end Go.Proofs.Ytgacodhpniehiaa.XA
