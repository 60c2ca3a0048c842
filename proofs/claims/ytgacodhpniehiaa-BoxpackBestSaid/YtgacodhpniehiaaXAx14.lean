import Derived.Test.YtgacodhpniehiaaXAx5
import Derived.Test.YtgacodhpniehiaaXAx12
namespace Go.Proofs.Ytgacodhpniehiaa.XA
open Flat Go.RowKit Opens YtgacodhpniehiaaW.PrintWords YtgacodhpniehiaaW.PrintLast YtgacodhpniehiaaW.PrintMore
attribute [local go_sem] max2_int min2_int max_two min_two max_three min_three max_four min_four cell_some cell_same
set_option linter.unusedVariables false
set_option linter.unusedSimpArgs false

def boxpack_Table.f (k : Nat) (a0_0 : Int) (a0_1 : Int) (a0_2 : Int) (a0_3 : Int) (l0_4 : List (S56)) : Option (List Int × Int) := (boxpack_Check.f k a0_0 a0_1 a0_2 a0_3 l0_4).bind fun t167 => (if t167 = 0 then ((boxpack_Problem_table.f k a0_0 a0_1 a0_2 a0_3 l0_4).bind fun t168 => (some (t168, 0))) else (some (([] : List Int), t167)))
theorem boxpack_Table.mono : ∀ a0 a1 a2 a3 a4 k, LeO (boxpack_Table.f k a0 a1 a2 a3 a4) (boxpack_Table.f (k + 1) a0 a1 a2 a3 a4) := by
  intro a0 a1 a2 a3 a4 k
  unfold boxpack_Table.f
  repeat' first
      | (with_reducible exact boxpack_Check.mono _ _ _ _ _ _)
      | (with_reducible exact boxpack_Problem_table.mono _ _ _ _ _ _)
      | (with_reducible exact LeO.refl _)
      | (with_reducible refine LeO.ite ?_ ?_)
      | (with_reducible refine LeO.bind ?_ (fun _ => ?_))
set_option maxHeartbeats 8000000 in
set_option maxRecDepth 100000 in
theorem boxpack_Table.calls (k : Nat) (a0_0 : Int) (a0_1 : Int) (a0_2 : Int) (a0_3 : Int) (A0_4 : Option Addr) (c0_4 : Nat) (l0_4 : List (S56)) (r1 : List Int) (r2 : Int) (w : World) (hr0_4 : Kd.C k56 w A0_4 l0_4.length l0_4) (hc0_4 : l0_4.length ≤ c0_4) (h : boxpack_Table.f k a0_0 a0_1 a0_2 a0_3 l0_4 = some (r1, r2)) :
    Calls Try.prog 20 #[.agg #[.int .i64 a0_0, .int .i64 a0_1, .int .i64 a0_2, .int .i64 a0_3, .slice A0_4 l0_4.length c0_4]] w fun e w' => ∃ v0_ : Value, e = .returned (.tuple #[v0_, .int .i64 r2]) ∧ Kd.R (Kd.int .i64) 2 w' w.heap.size (fun _ => True) v0_ r1 ∧ Below w.heap.size w w' := by
  have hu33 := Try.underlying33
  have HR0_4 := ak hr0_4
  have HC0_4 := ak hc0_4
  clear hr0_4 hc0_4
  have HB := ak (Below.refl w.heap.size w)
  have H : ((boxpack_Check.f k a0_0 a0_1 a0_2 a0_3 l0_4).bind fun t167 => (if t167 = 0 then ((boxpack_Problem_table.f k a0_0 a0_1 a0_2 a0_3 l0_4).bind fun t168 => (some (t168, 0))) else (some (([] : List Int), t167)))) = some (r1, r2) := h
  clear h
  replace H := Option.bind_eq_some_iff.mp H
  obtain ⟨t167, A20, H⟩ := H
  (try dsimp only at H)
  have A2 := ak A20
  clear A20
  by_cases c3 : t167 = 0
  · rw [if_pos c3] at H
    have c3b0 : (t167 == 0) = true := beq_iff_eq.mpr c3
    have c3b1 : (t167 != 0) = false := bne_eq_false_iff_eq.mpr c3
    clear c3
    replace H := Option.bind_eq_some_iff.mp H
    obtain ⟨t168, A40, H⟩ := H
    (try dsimp only at H)
    have A4 := ak A40
    clear A40
    simp only [Option.some.injEq, Prod.mk.injEq] at H
    obtain ⟨rfl, rfl⟩ := H
    go_enter Try.func20, Try.ntmps20
    go_wp2_with (first | ((with_reducible refine gate_dst (N := 1) rfl ?_); refine bx_ 1 #[.int .i64 a0_0, .int .i64 a0_1, .int .i64 a0_2, .int .i64 a0_3, .slice A0_4 l0_4.length c0_4] 33 ?_; intro gb166 hg w5 hbox hb; have n0_ := ak (below_step HB.1 hb); have n1_ := ak (hbox); have n2_ := ak ((by rw [hg]; exact (below_size HB.1) : w.heap.size ≤ gb166)); have n3_ := ak ((by rw [hg]; exact (below_size HB.1) : w.heap.size ≤ gb166)); clear HB; have HB := n0_; have BK166 := n1_; have GW166 := n2_; have GE166 := n3_; clear n0_ n1_ n2_ n3_; clear hb hbox hg; have hcz6_0 : w5.cell? ⟨gb166, 0, none⟩ = some (.int .i64 a0_0) := bc_ BK166 0; have hcz6_1 : w5.cell? ⟨gb166, 1, none⟩ = some (.int .i64 a0_1) := bc_ BK166 1; have hcz6_2 : w5.cell? ⟨gb166, 2, none⟩ = some (.int .i64 a0_2) := bc_ BK166 2; have hcz6_3 : w5.cell? ⟨gb166, 3, none⟩ = some (.int .i64 a0_3) := bc_ BK166 3; have hcz6_4 : w5.cell? ⟨gb166, 4, none⟩ = some (.slice A0_4 l0_4.length c0_4) := bc_ BK166 4; have hfz6_0 := blk_frozen BK166.1 0; have hfz6_1 := blk_frozen BK166.1 1; have hfz6_2 := blk_frozen BK166.1 2; have hfz6_3 := blk_frozen BK166.1 3; have hfz6_4 := blk_frozen BK166.1 4) | ((with_reducible refine gate_callee (f := 14) rfl ?_); refine gl_ 6 Try.func14 #[.agg #[.int .i64 a0_0, .int .i64 a0_1, .int .i64 a0_2, .int .i64 a0_3, .slice A0_4 l0_4.length c0_4]] ?_; (with_reducible refine (boxpack_Check.calls k a0_0 a0_1 a0_2 a0_3 _ _ l0_4 t167 _ ?side1 ?side2 A2.1).mono ?_); (case side1 => exact (Kd.C_below HR0_4.1 HB.1)); (case side2 => exact HC0_4.1); rintro e w7 ⟨rfl, hb⟩; refine ⟨_, rfl, ?_⟩; have n0_ := ak (blk_below (g := gb166) (o := .cells #[.int .i64 a0_0, .int .i64 a0_1, .int .i64 a0_2, .int .i64 a0_3, .slice A0_4 l0_4.length c0_4] 33 (0, 0)) (by exact BK166.1) hb); have n1_ := ak (below_step HB.1 hb); clear BK166; clear HB; have BK166 := n0_; have HB := n1_; clear n0_ n1_; (try clear hb); have hcz8_0 : w7.cell? ⟨gb166, 0, none⟩ = some (.int .i64 a0_0) := bc_ BK166 0; have hcz8_1 : w7.cell? ⟨gb166, 1, none⟩ = some (.int .i64 a0_1) := bc_ BK166 1; have hcz8_2 : w7.cell? ⟨gb166, 2, none⟩ = some (.int .i64 a0_2) := bc_ BK166 2; have hcz8_3 : w7.cell? ⟨gb166, 3, none⟩ = some (.int .i64 a0_3) := bc_ BK166 3; have hcz8_4 : w7.cell? ⟨gb166, 4, none⟩ = some (.slice A0_4 l0_4.length c0_4) := bc_ BK166 4; have hfz8_0 := blk_frozen BK166.1 0; have hfz8_1 := blk_frozen BK166.1 1; have hfz8_2 := blk_frozen BK166.1 2; have hfz8_3 := blk_frozen BK166.1 3; have hfz8_4 := blk_frozen BK166.1 4) | ((with_reducible refine gate_callee (f := 45) rfl ?_); refine gl_ 11 Try.func45 #[.agg #[.int .i64 a0_0, .int .i64 a0_1, .int .i64 a0_2, .int .i64 a0_3, .slice A0_4 l0_4.length c0_4]] ?_; (with_reducible refine (boxpack_Problem_table.calls k a0_0 a0_1 a0_2 a0_3 _ _ l0_4 t168 _ ?side1 ?side2 A4.1).mono ?_); (case side1 => exact (Kd.C_below HR0_4.1 HB.1)); (case side2 => exact HC0_4.1); rintro e w9 ⟨v169, rfl, ho0, hb⟩; refine ⟨_, rfl, ?_⟩; have n0_ := ak (Kd.R_lower ho0 (below_size HB.1)); have n1_ := ak (blk_below (g := gb166) (o := .cells #[.int .i64 a0_0, .int .i64 a0_1, .int .i64 a0_2, .int .i64 a0_3, .slice A0_4 l0_4.length c0_4] 33 (0, 0)) (by exact BK166.1) hb); have n2_ := ak (below_step HB.1 hb); clear BK166; clear HB; have HO170 := n0_; have BK166 := n1_; have HB := n2_; clear n0_ n1_ n2_; (try clear hb); (try clear ho0)))
    go_ret2
    exact ⟨_, by rfl, by exact HO170.1, by repeat (with_reducible exact HB.1)⟩
  rw [if_neg c3] at H
  have c3b0 : (t167 == 0) = false := beq_eq_false_iff_ne.mpr c3
  have c3b1 : (t167 != 0) = true := bne_iff_ne.mpr c3
  simp only [Option.some.injEq, Prod.mk.injEq] at H
  obtain ⟨rfl, rfl⟩ := H
  go_enter Try.func20, Try.ntmps20
  go_wp2_with (first | ((with_reducible refine gate_dst (N := 1) rfl ?_); refine bx_ 1 #[.int .i64 a0_0, .int .i64 a0_1, .int .i64 a0_2, .int .i64 a0_3, .slice A0_4 l0_4.length c0_4] 33 ?_; intro gb166 hg w10 hbox hb; have n0_ := ak (below_step HB.1 hb); have n1_ := ak (hbox); have n2_ := ak ((by rw [hg]; exact (below_size HB.1) : w.heap.size ≤ gb166)); have n3_ := ak ((by rw [hg]; exact (below_size HB.1) : w.heap.size ≤ gb166)); clear HB; have HB := n0_; have BK166 := n1_; have GW166 := n2_; have GE166 := n3_; clear n0_ n1_ n2_ n3_; clear hb hbox hg; have hcz11_0 : w10.cell? ⟨gb166, 0, none⟩ = some (.int .i64 a0_0) := bc_ BK166 0; have hcz11_1 : w10.cell? ⟨gb166, 1, none⟩ = some (.int .i64 a0_1) := bc_ BK166 1; have hcz11_2 : w10.cell? ⟨gb166, 2, none⟩ = some (.int .i64 a0_2) := bc_ BK166 2; have hcz11_3 : w10.cell? ⟨gb166, 3, none⟩ = some (.int .i64 a0_3) := bc_ BK166 3; have hcz11_4 : w10.cell? ⟨gb166, 4, none⟩ = some (.slice A0_4 l0_4.length c0_4) := bc_ BK166 4; have hfz11_0 := blk_frozen BK166.1 0; have hfz11_1 := blk_frozen BK166.1 1; have hfz11_2 := blk_frozen BK166.1 2; have hfz11_3 := blk_frozen BK166.1 3; have hfz11_4 := blk_frozen BK166.1 4) | ((with_reducible refine gate_callee (f := 14) rfl ?_); refine gl_ 6 Try.func14 #[.agg #[.int .i64 a0_0, .int .i64 a0_1, .int .i64 a0_2, .int .i64 a0_3, .slice A0_4 l0_4.length c0_4]] ?_; (with_reducible refine (boxpack_Check.calls k a0_0 a0_1 a0_2 a0_3 _ _ l0_4 t167 _ ?side1 ?side2 A2.1).mono ?_); (case side1 => exact (Kd.C_below HR0_4.1 HB.1)); (case side2 => exact HC0_4.1); rintro e w12 ⟨rfl, hb⟩; refine ⟨_, rfl, ?_⟩; have n0_ := ak (blk_below (g := gb166) (o := .cells #[.int .i64 a0_0, .int .i64 a0_1, .int .i64 a0_2, .int .i64 a0_3, .slice A0_4 l0_4.length c0_4] 33 (0, 0)) (by exact BK166.1) hb); have n1_ := ak (below_step HB.1 hb); clear BK166; clear HB; have BK166 := n0_; have HB := n1_; clear n0_ n1_; (try clear hb)))
  go_ret2
  exact ⟨_, by rfl, by exact Kd.R_nil _ _ _ _ _, by repeat (with_reducible exact HB.1)⟩

-- NOT PRINTED: function 61 (slices_IndexFunc_int64_int64)

-- NOT PRINTED: function 55 (slices_ContainsFunc_int64_int64)

def boxpack_CheckTable_1.f (a0 : Int) : Option (Bool) := if a0 < 0 then (some true) else (some (decide (a0 > 100000000000000)))
set_option maxHeartbeats 8000000 in
set_option maxRecDepth 100000 in
theorem boxpack_CheckTable_1.calls (a0 : Int) (r : Bool) (w : World) (h : boxpack_CheckTable_1.f a0 = some r) :
    Calls Try.prog 56 #[.int .i64 a0] w fun e w' => e = .returned (.bool r) ∧ Drawn0 w w' := by
  have H : (if a0 < 0 then (some true) else (some (decide (a0 > 100000000000000)))) = some r := h
  clear h
  by_cases c2 : a0 < 0
  · rw [if_pos c2] at H
    have c2b0 : decide (a0 < 0) = true := decide_eq_true c2
    clear c2
    obtain rfl := Option.some.inj H
    go_enter Try.func56, Try.ntmps56
    go_wp2
    go_ret
    exact ⟨by rfl, by exact Drawn0.refl _⟩
  rw [if_neg c2] at H
  have c2b0 : decide (a0 < 0) = false := decide_eq_false c2
  clear c2
  obtain rfl := Option.some.inj H
  go_enter Try.func56, Try.ntmps56
  go_wp2
  go_ret
  exact ⟨by rfl, by exact Drawn0.refl _⟩

def slices_IndexFunc_int64_int64_by_boxpack_CheckTable_1.l0 : Nat → List Int → Int → Int → Option (Int)
  | 0, _, _, _ => none
  | k + 1, x0, x7, x8 => if x8 < x7 then (if 0 ≤ x8 then (if x8 < (x0.length : Int) then ((boxpack_CheckTable_1.f (rd x0 x8)).bind fun t172 => (if t172 = true then (some x8) else (slices_IndexFunc_int64_int64_by_boxpack_CheckTable_1.l0 k x0 x7 (wrap64 (x8 + 1))))) else (none)) else (none)) else (some (-1))
def slices_IndexFunc_int64_int64_by_boxpack_CheckTable_1.f (k : Nat) (l0 : List Int)  : Option (Int) := slices_IndexFunc_int64_int64_by_boxpack_CheckTable_1.l0 k l0 (l0.length : Int) 0
theorem slices_IndexFunc_int64_int64_by_boxpack_CheckTable_1.mono_l : ∀ k, (∀ y0 y1 y2, LeO (slices_IndexFunc_int64_int64_by_boxpack_CheckTable_1.l0 k y0 y1 y2) (slices_IndexFunc_int64_int64_by_boxpack_CheckTable_1.l0 (k + 1) y0 y1 y2))
  | 0 => fun _ _ _ r h => by simp [slices_IndexFunc_int64_int64_by_boxpack_CheckTable_1.l0] at h
  | k + 1 => by
    have ih0 := slices_IndexFunc_int64_int64_by_boxpack_CheckTable_1.mono_l k
    intro y0 y1 y2
    unfold slices_IndexFunc_int64_int64_by_boxpack_CheckTable_1.l0
    repeat' first
    | (with_reducible exact ih0 _ _ _)
    | (with_reducible exact LeO.refl _)
    | (with_reducible refine LeO.ite ?_ ?_)
    | (with_reducible refine LeO.bind ?_ (fun _ => ?_))
theorem slices_IndexFunc_int64_int64_by_boxpack_CheckTable_1.mono : ∀ a0 k, LeO (slices_IndexFunc_int64_int64_by_boxpack_CheckTable_1.f k a0) (slices_IndexFunc_int64_int64_by_boxpack_CheckTable_1.f (k + 1) a0) := by
  intro a0 k
  have ih0 := slices_IndexFunc_int64_int64_by_boxpack_CheckTable_1.mono_l k
  unfold slices_IndexFunc_int64_int64_by_boxpack_CheckTable_1.f
  repeat' (with_reducible exact ih0 _ _ _)
set_option maxHeartbeats 8000000 in
set_option maxRecDepth 100000 in
theorem slices_IndexFunc_int64_int64_by_boxpack_CheckTable_1.calls (k : Nat) (A0 : Option Addr) (c0 : Nat) (l0 : List Int)  (r : Int) (w : World) (hr0 : Kd.C (Kd.int .i64) w A0 l0.length l0) (hc0 : l0.length ≤ c0) (h : slices_IndexFunc_int64_int64_by_boxpack_CheckTable_1.f k l0 = some r) :
    Calls Try.prog 61 #[.slice A0 l0.length c0, .func (.func 56) #[] #[]] w fun e w' => e = .returned (.int .i64 r) ∧ Drawn0 w w' := by
  have HR0 := ak hr0
  have HC0 := ak hc0
  clear hr0 hc0
  have H : (slices_IndexFunc_int64_int64_by_boxpack_CheckTable_1.l0 k l0 (l0.length : Int) 0) = some r := h
  clear h
  have H' := ak H
  clear H
  go_enter Try.func61, Try.ntmps61
  go_wp2
  go_loopg [8] k (fun kq v8 w' => ∃ (x8_1 : Int), v8 = .int .i64 x8_1 ∧ Aside0 (slices_IndexFunc_int64_int64_by_boxpack_CheckTable_1.l0 kq l0 (l0.length : Int) x8_1 = some r) ∧ Aside0 (kq ≤ k) ∧ Drawn0 w w')
  case atStart => exact ⟨(0), (by rfl), H', ⟨Nat.le_refl _⟩, by exact Drawn0.refl _⟩
  clear H'
  obtain ⟨x8_1, rfl, HA, HK1, ⟨m1, rfl⟩⟩ := hrel
  cases gk with
  | zero => exact absurd HA.1 (by simp [slices_IndexFunc_int64_int64_by_boxpack_CheckTable_1.l0])
  | succ k1 =>
    have H := HA.1
    clear HA
    simp only [slices_IndexFunc_int64_int64_by_boxpack_CheckTable_1.l0] at H
    by_cases c3 : x8_1 < (l0.length : Int)
    · rw [if_pos c3] at H
      have c3b0 : decide (x8_1 < (l0.length : Int)) = true := decide_eq_true c3
      clear c3
      by_cases c4 : 0 ≤ x8_1
      · rw [if_pos c4] at H
        have c4b0 : decide (0 ≤ x8_1) = true := decide_eq_true c4
        clear c4
        by_cases c5 : x8_1 < (l0.length : Int)
        · rw [if_pos c5] at H
          have c5b0 : decide (x8_1 < (l0.length : Int)) = true := decide_eq_true c5
          clear c5
          replace H := Option.bind_eq_some_iff.mp H
          obtain ⟨t172, A60, H⟩ := H
          (try dsimp only at H)
          have A6 := ak A60
          clear A60
          by_cases c7 : t172 = true
          · subst c7
            have H1 : (some x8_1) = some r := by rw [if_pos rfl] at H; exact H
            clear H
            have H := H1
            clear H1
            obtain rfl := Option.some.inj H
            have p171 : 0 ≤ (x8_1 : Int) := od_
            have q171 : x8_1 < (l0.length : Int) := od_
            obtain ⟨ad171, e171, hx171_0⟩ := Kd.at_int HR0.1 x8_1 p171 q171
            cases e171
            replace p171 := eq_true p171
            replace q171 := eq_true q171
            go_wp2_with (first | (go_at_call 56; (with_reducible refine (boxpack_CheckTable_1.calls (rd l0 x8_1) true _ A6.1).mono ?_); rintro e w' ⟨rfl, ⟨nd, rfl⟩⟩))
            go_ret
            exact ⟨by rfl, by repeat (first | exact Drawn0.refl _ | apply Drawn0.step)⟩
          replace c7 := Bool.eq_false_iff.mpr c7
          subst c7
          have H1 : (slices_IndexFunc_int64_int64_by_boxpack_CheckTable_1.l0 k1 l0 (l0.length : Int) (wrap64 (x8_1 + 1))) = some r := by rw [if_neg (show ¬ (false = true) by decide)] at H; exact H
          clear H
          have H := H1
          clear H1
          have H' := ak H
          clear H
          have p171 : 0 ≤ (x8_1 : Int) := od_
          have q171 : x8_1 < (l0.length : Int) := od_
          obtain ⟨ad171, e171, hx171_0⟩ := Kd.at_int HR0.1 x8_1 p171 q171
          cases e171
          replace p171 := eq_true p171
          replace q171 := eq_true q171
          go_wp2_with (first | (go_at_call 56; (with_reducible refine (boxpack_CheckTable_1.calls (rd l0 x8_1) false _ A6.1).mono ?_); rintro e w' ⟨rfl, ⟨nd, rfl⟩⟩))
          go_roundg k1
          case measure => have := HK1.1; omega
          case rel => exact ⟨(wrap64 (x8_1 + 1)), (by rfl), H', ⟨by have := HK1.1; omega⟩, by repeat (first | exact Drawn0.refl _ | apply Drawn0.step)⟩
        rw [if_neg c5] at H
        exact absurd H (by simp)
      rw [if_neg c4] at H
      exact absurd H (by simp)
    rw [if_neg c3] at H
    have c3b0 : decide (x8_1 < (l0.length : Int)) = false := decide_eq_false c3
    clear c3
    obtain rfl := Option.some.inj H
    go_wp2
    go_ret
    exact ⟨by rfl, by repeat (first | exact Drawn0.refl _ | apply Drawn0.step)⟩

def slices_ContainsFunc_int64_int64_by_boxpack_CheckTable_1.f (k : Nat) (l0 : List Int)  : Option (Bool) := (slices_IndexFunc_int64_int64_by_boxpack_CheckTable_1.f k l0).bind fun t173 => (some (decide (t173 ≥ 0)))
theorem slices_ContainsFunc_int64_int64_by_boxpack_CheckTable_1.mono : ∀ a0 k, LeO (slices_ContainsFunc_int64_int64_by_boxpack_CheckTable_1.f k a0) (slices_ContainsFunc_int64_int64_by_boxpack_CheckTable_1.f (k + 1) a0) := by
  intro a0 k
  unfold slices_ContainsFunc_int64_int64_by_boxpack_CheckTable_1.f
  repeat' first
      | (with_reducible exact slices_IndexFunc_int64_int64_by_boxpack_CheckTable_1.mono _ _)
      | (with_reducible exact LeO.refl _)
      | (with_reducible refine LeO.bind ?_ (fun _ => ?_))
set_option maxHeartbeats 8000000 in
set_option maxRecDepth 100000 in
theorem slices_ContainsFunc_int64_int64_by_boxpack_CheckTable_1.calls (k : Nat) (A0 : Option Addr) (c0 : Nat) (l0 : List Int)  (r : Bool) (w : World) (hr0 : Kd.C (Kd.int .i64) w A0 l0.length l0) (hc0 : l0.length ≤ c0) (h : slices_ContainsFunc_int64_int64_by_boxpack_CheckTable_1.f k l0 = some r) :
    Calls Try.prog 55 #[.slice A0 l0.length c0, .func (.func 56) #[] #[]] w fun e w' => e = .returned (.bool r) ∧ Drawn0 w w' := by
  have HR0 := ak hr0
  have HC0 := ak hc0
  clear hr0 hc0
  have H : ((slices_IndexFunc_int64_int64_by_boxpack_CheckTable_1.f k l0).bind fun t173 => (some (decide (t173 ≥ 0)))) = some r := h
  clear h
  replace H := Option.bind_eq_some_iff.mp H
  obtain ⟨t173, A30, H⟩ := H
  (try dsimp only at H)
  have A3 := ak A30
  clear A30
  obtain rfl := Option.some.inj H
  go_enter Try.func55, Try.ntmps55
  go_wp2_with (first | (go_at_call 61; (with_reducible refine (slices_IndexFunc_int64_int64_by_boxpack_CheckTable_1.calls k _ _ l0  t173 _ ?side1 ?side2 A3.1).mono ?_); (case side1 => exact HR0.1); (case side2 => exact HC0.1); rintro e w' ⟨rfl, ⟨nd, rfl⟩⟩))
  go_ret
  exact ⟨by rfl, by repeat (first | exact Drawn0.refl _ | apply Drawn0.step)⟩

mutual
def boxpack_CheckTable.j0 : Nat → List Int → Bool → Int → Int → Int → Int → List (S56) → Option (Int × Int)
 | 0, _, _, _, _, _, _, _ => none
 | k + 1, x1, x22, x175000, x175001, x175002, x175003, x175004 => if x22 = true then (some (0, 1)) else (boxpack_CheckTable.l0 k x1 x1 (x1.length : Int) 0 x175000 x175001 x175002 x175003 x175004)
def boxpack_CheckTable.l0 : Nat → List Int → List Int → Int → Int → Int → Int → Int → Int → List (S56) → Option (Int × Int)
 | 0, _, _, _, _, _, _, _, _, _ => none
 | k + 1, x1, x23, x24, x25, x175000, x175001, x175002, x175003, x175004 => if x25 < x24 then (if 0 ≤ x25 then (if x25 < (x23.length : Int) then ((boxpack_Problem_size.f x175000 x175001 x175002 x175003 x175004 x25).bind fun bt179 => ((boxpack_Problem_least.f k x175000 x175001 x175002 x175003 x175004 x1 bt179.1 bt179.2.1 bt179.2.2).bind fun t182 => (if (rd x23 x25) < t182 then (some (x25, 10)) else (boxpack_CheckTable.l0 k x1 x23 x24 (wrap64 (x25 + 1)) x175000 x175001 x175002 x175003 x175004)))) else (none)) else (none)) else (some ((x1.length : Int), 0))
end
def boxpack_CheckTable.f (k : Nat) (a0_0 : Int) (a0_1 : Int) (a0_2 : Int) (a0_3 : Int) (l0_4 : List (S56)) (l1 : List Int) : Option (Int × Int) := (boxpack_Check.f k a0_0 a0_1 a0_2 a0_3 l0_4).bind fun t175 => (if t175 = 0 then ((boxpack_Problem_count.f a0_0 a0_1 a0_2 a0_3 l0_4).bind fun t176 => (if (l1.length : Int) = t176 then ((slices_ContainsFunc_int64_int64_by_boxpack_CheckTable_1.f k l1).bind fun t177 => (boxpack_CheckTable.j0 k l1 t177 a0_0 a0_1 a0_2 a0_3 l0_4)) else (boxpack_CheckTable.j0 k l1 true a0_0 a0_1 a0_2 a0_3 l0_4))) else (some (0, t175)))
theorem boxpack_CheckTable.mono_l : ∀ k, (∀ y0 y1 y2 y3 y4 y5 y6, LeO (boxpack_CheckTable.j0 k y0 y1 y2 y3 y4 y5 y6) (boxpack_CheckTable.j0 (k + 1) y0 y1 y2 y3 y4 y5 y6)) ∧ (∀ y0 y1 y2 y3 y4 y5 y6 y7 y8, LeO (boxpack_CheckTable.l0 k y0 y1 y2 y3 y4 y5 y6 y7 y8) (boxpack_CheckTable.l0 (k + 1) y0 y1 y2 y3 y4 y5 y6 y7 y8))
 | 0 => ⟨fun _ _ _ _ _ _ _ r h => by simp [boxpack_CheckTable.j0] at h, fun _ _ _ _ _ _ _ _ _ r h => by simp [boxpack_CheckTable.l0] at h⟩
 | k + 1 => by
  obtain ⟨ih0, ih1⟩ := boxpack_CheckTable.mono_l k; refine ⟨?_, ?_⟩; (all_goals (intros; (first | unfold boxpack_CheckTable.j0 | unfold boxpack_CheckTable.l0)))
  all_goals (repeat' first
   | (with_reducible exact ih1 _ _ _ _ _ _ _ _ _)
   | (with_reducible exact boxpack_Problem_least.mono _ _ _ _ _ _ _ _ _ _)
   | (with_reducible exact LeO.refl _)
   | (with_reducible refine LeO.ite ?_ ?_)
   | (with_reducible refine LeO.bind ?_ (fun _ => ?_))
   )
theorem boxpack_CheckTable.mono : ∀ a0 a1 a2 a3 a4 a5 k, LeO (boxpack_CheckTable.f k a0 a1 a2 a3 a4 a5) (boxpack_CheckTable.f (k + 1) a0 a1 a2 a3 a4 a5) := by
 intro a0 a1 a2 a3 a4 a5 k
 obtain ⟨ih0, ih1⟩ := boxpack_CheckTable.mono_l k
 unfold boxpack_CheckTable.f
 repeat' first
   | (with_reducible exact ih0 _ _ _ _ _ _ _)
   | (with_reducible exact boxpack_Check.mono _ _ _ _ _ _)
   | (with_reducible exact slices_ContainsFunc_int64_int64_by_boxpack_CheckTable_1.mono _ _)
   | (with_reducible exact LeO.refl _)
   | (with_reducible refine LeO.ite ?_ ?_)
   | (with_reducible refine LeO.bind ?_ (fun _ => ?_))
def boxpack_CheckTable.T9 : Bool × List (List Nat × List Nat) := (true, [([], []), ([], []), ([], []), ([], []), ([], []), ([3, 4], [3, 4]), ([1, 2, 5, 5], [1, 2, 5]), ([0, 6], [0, 6])])
def boxpack_CheckTable.B9 : List Nat := [0, 0, 0, 0, 0, 24, 62, 127]
theorem boxpack_CheckTable.tab9 : rtab .any (opsOf Try.f21 9) = boxpack_CheckTable.T9 := by kernel_rfl
theorem boxpack_CheckTable.bits9 : waitsOk boxpack_CheckTable.T9.2 boxpack_CheckTable.B9 = true := by kernel_rfl
set_option maxHeartbeats 8000000 in
set_option maxRecDepth 100000 in
theorem boxpack_CheckTable.calls (k : Nat) (a0_0 : Int) (a0_1 : Int) (a0_2 : Int) (a0_3 : Int) (A0_4 : Option Addr) (c0_4 : Nat) (l0_4 : List (S56)) (A1 : Option Addr) (c1 : Nat) (l1 : List Int) (r1 : Int) (r2 : Int) (w : World) (hr0_4 : Kd.C k56 w A0_4 l0_4.length l0_4) (hc0_4 : l0_4.length ≤ c0_4) (hr1 : Kd.C (Kd.int .i64) w A1 l1.length l1) (hc1 : l1.length ≤ c1) (h : boxpack_CheckTable.f k a0_0 a0_1 a0_2 a0_3 l0_4 l1 = some (r1, r2)) :
  Calls Try.prog 21 #[.agg #[.int .i64 a0_0, .int .i64 a0_1, .int .i64 a0_2, .int .i64 a0_3, .slice A0_4 l0_4.length c0_4], .slice A1 l1.length c1] w fun e w' => e = .returned (.tuple #[.int .i64 r1, .int .i64 r2]) ∧ Below w.heap.size w w' := by
 have hu33 := Try.underlying33
 have HR0_4 := ak hr0_4
 have HC0_4 := ak hc0_4
 clear hr0_4 hc0_4
 have HR1 := ak hr1
 have HC1 := ak hc1
 clear hr1 hc1
 have HB := ak (Below.refl w.heap.size w)
 have H : ((boxpack_Check.f k a0_0 a0_1 a0_2 a0_3 l0_4).bind fun t175 => (if t175 = 0 then ((boxpack_Problem_count.f a0_0 a0_1 a0_2 a0_3 l0_4).bind fun t176 => (if (l1.length : Int) = t176 then ((slices_ContainsFunc_int64_int64_by_boxpack_CheckTable_1.f k l1).bind fun t177 => (boxpack_CheckTable.j0 k l1 t177 a0_0 a0_1 a0_2 a0_3 l0_4)) else (boxpack_CheckTable.j0 k l1 true a0_0 a0_1 a0_2 a0_3 l0_4))) else (some (0, t175)))) = some (r1, r2) := h
 clear h
 replace H := Option.bind_eq_some_iff.mp H
 obtain ⟨t175, A30, H⟩ := H
 (try dsimp only at H)
 have A3 := ak A30
 clear A30
 by_cases c4 : t175 = 0
 ·rw [if_pos c4] at H
  have c4b0 := beq_iff_eq.mpr c4; have c4b1 := bne_eq_false_iff_eq.mpr c4; clear c4; have HC5 := ak H; clear H; (go_enter Try.func21, Try.ntmps21); (go_upto_region 4 with (first | ((with_reducible refine gate_dst (N := 2) rfl ?_); refine bx_ 2 #[.int .i64 a0_0, .int .i64 a0_1, .int .i64 a0_2, .int .i64 a0_3, .slice A0_4 l0_4.length c0_4] 33 ?_; intro gb174 hg w6 hbox hb; have BK174 := ak (hbox); have GW174 := gw_ HB hg; have GE174 := gw_ HB hg; replace HB := hs_ HB hb; clear hb hbox hg; obtain ⟨hcz7_0, hcz7_1, hcz7_2, hcz7_3, hcz7_4, hfz7_0, hfz7_1, hfz7_2, hfz7_3, hfz7_4⟩ := cz5_ BK174) | ((with_reducible refine gate_callee (f := 14) rfl ?_); refine gl_ 10 Try.func14 #[.agg #[.int .i64 a0_0, .int .i64 a0_1, .int .i64 a0_2, .int .i64 a0_3, .slice A0_4 l0_4.length c0_4]] ?_; (with_reducible refine (boxpack_Check.calls k a0_0 a0_1 a0_2 a0_3 _ _ l0_4 t175 _ ?side1 ?side2 A3.1).mono ?_); (case side1 => exact (Kd.C_below HR0_4.1 HB.1)); (case side2 => exact HC0_4.1); rintro e w8 ⟨rfl, hb⟩; refine ⟨_, rfl, ?_⟩; replace BK174 := bb_ BK174 hb; replace HB := hs_ HB hb; (try clear hb)))); (go_cut [22] (fun v22 wc => ∃ (kq : Nat) (x22_4 : Bool), v22 = .bool x22_4 ∧ Aside0 (boxpack_CheckTable.j0 kq l1 x22_4 a0_0 a0_1 a0_2 a0_3 l0_4 = some (r1, r2)) ∧ Aside0 (kq ≤ k) ∧ Aside0 (wc.heap[gb174]? = some (.cells #[.int .i64 a0_0, .int .i64 a0_1, .int .i64 a0_2, .int .i64 a0_3, (.slice A0_4 l0_4.length c0_4)] 33 (0, 0))) ∧ Aside0 (Below w.heap.size w wc)))
  case first =>
   have H := HC5.1; clear HC5; obtain ⟨t176, A90, H⟩ := obs_ H; (try dsimp only at H); have A9 := ak A90; clear A90; (by_cases c10 : (l1.length : Int) = t176)
   ·rw [if_pos c10] at H
    have c10b0 := beq_iff_eq.mpr c10; have c10b1 := bne_eq_false_iff_eq.mpr c10; clear c10; obtain ⟨t177, A110, H⟩ := obs_ H; (try dsimp only at H); have A11 := ak A110; clear A110; have H' := ak H; clear H; obtain ⟨hcz12_0, hcz12_1, hcz12_2, hcz12_3, hcz12_4, hfz12_0, hfz12_1, hfz12_2, hfz12_3, hfz12_4⟩ := cz5_ BK174; (go_wp2_with (first | ((with_reducible refine gate_callee (f := 54) rfl ?_); refine gl_ 17 Try.func54 #[.agg #[.int .i64 a0_0, .int .i64 a0_1, .int .i64 a0_2, .int .i64 a0_3, .slice A0_4 l0_4.length c0_4]] ?_; (with_reducible refine (boxpack_Problem_count.calls a0_0 a0_1 a0_2 a0_3 _ _ l0_4 t176 _ ?side1 ?side2 A9.1).mono ?_); (case side1 => exact (Kd.C_below HR0_4.1 HB.1)); (case side2 => exact HC0_4.1); rintro e w13 ⟨rfl, hb⟩; refine ⟨_, rfl, ?_⟩; replace BK174 := bb_ BK174 hb; replace HB := hs_ HB hb; (try clear hb)) | (go_at_call 55; (with_reducible refine (slices_ContainsFunc_int64_int64_by_boxpack_CheckTable_1.calls k _ _ l1  t177 _ ?side1 ?side2 A11.1).mono ?_); (case side1 => exact (Kd.C_below HR1.1 HB.1)); (case side2 => exact HC1.1); rintro e w' ⟨rfl, ⟨nd, rfl⟩⟩))); (go_meet)
    case rel => exact ⟨_, (t177), (by rfl), H', ⟨by omega⟩, ⟨bk_ BK174⟩, ⟨hb_ HB⟩⟩
   rw [if_neg c10] at H
   have c10b0 := beq_eq_false_iff_ne.mpr c10; have c10b1 := bne_iff_ne.mpr c10; have H' := ak H; clear H; obtain ⟨hcz14_0, hcz14_1, hcz14_2, hcz14_3, hcz14_4, hfz14_0, hfz14_1, hfz14_2, hfz14_3, hfz14_4⟩ := cz5_ BK174; (go_wp2_with (first | ((with_reducible refine gate_callee (f := 54) rfl ?_); refine gl_ 17 Try.func54 #[.agg #[.int .i64 a0_0, .int .i64 a0_1, .int .i64 a0_2, .int .i64 a0_3, .slice A0_4 l0_4.length c0_4]] ?_; (with_reducible refine (boxpack_Problem_count.calls a0_0 a0_1 a0_2 a0_3 _ _ l0_4 t176 _ ?side1 ?side2 A9.1).mono ?_); (case side1 => exact (Kd.C_below HR0_4.1 HB.1)); (case side2 => exact HC0_4.1); rintro e w15 ⟨rfl, hb⟩; refine ⟨_, rfl, ?_⟩; replace BK174 := bb_ BK174 hb; replace HB := hs_ HB hb; (try clear hb)))); (go_meet)
   case rel => exact ⟨_, (true), (by rfl), H', ⟨by omega⟩, ⟨bk_ BK174⟩, ⟨hb_ HB⟩⟩
  clear HC5; (try clear c4b0); (try clear c4b1); (try clear hcz7_0); (try clear hcz7_1); (try clear hcz7_2); (try clear hcz7_3); (try clear hcz7_4); (try clear hfz7_0); (try clear hfz7_1); (try clear hfz7_2); (try clear hfz7_3); (try clear hfz7_4); obtain ⟨kq, x22_4, rfl, HA, HJ4, BK174, HB⟩ := hcut
  cases kq with
  | zero => exact absurd HA.1 (by simp [boxpack_CheckTable.j0])
  | succ kj4 =>
   have H := HA.1; clear HA; simp only [boxpack_CheckTable.j0] at H; (by_cases c16 : x22_4 = true)
   ·subst c16; (replace H : (some (0, 1)) = some (r1, r2) := by rw [if_pos rfl] at H; exact H); simp only [Option.some.injEq, Prod.mk.injEq] at H; obtain ⟨rfl, rfl⟩ := H; (go_wp2); (go_ret2); (exact ⟨by rfl, hb_ HB⟩)
   replace c16 := Bool.eq_false_iff.mpr c16
   subst c16; (replace H : (boxpack_CheckTable.l0 kj4 l1 l1 (l1.length : Int) 0 a0_0 a0_1 a0_2 a0_3 l0_4) = some (r1, r2) := by rw [if_neg (show ¬ (false = true) by decide)] at H; exact H); have H' := ak H; clear H; (go_wp2); (go_loopg [25] kj4 (fun kq v25 w' => ∃ (x25_2 : Int), v25 = .int .i64 x25_2 ∧ Aside0 (boxpack_CheckTable.l0 kq l1 l1 (l1.length : Int) x25_2 a0_0 a0_1 a0_2 a0_3 l0_4 = some (r1, r2)) ∧ Aside0 (kq ≤ kj4) ∧ Aside0 (w'.heap[gb174]? = some (.cells #[.int .i64 a0_0, .int .i64 a0_1, .int .i64 a0_2, .int .i64 a0_3, (.slice A0_4 l0_4.length c0_4)] 33 (0, 0))) ∧ Aside0 (Below w.heap.size w w')))
   case atStart => exact ⟨(0), (by rfl), H', ⟨Nat.le_refl _⟩, ⟨bk_ BK174⟩, ⟨hb_ HB⟩⟩
   clear H'; obtain ⟨x25_2, rfl, HA, HK2, BK174, HB⟩ := hrel
   cases gk with
   | zero => exact absurd HA.1 (by simp [boxpack_CheckTable.l0])
   | succ k2 =>
    have H := HA.1; clear HA; simp only [boxpack_CheckTable.l0] at H; (by_cases c17 : x25_2 < (l1.length : Int))
    ·rw [if_pos c17] at H
     have c17b0 := decide_eq_true c17; clear c17; (by_cases c18 : 0 ≤ x25_2)
     ·rw [if_pos c18] at H
      have c18b0 := decide_eq_true c18; clear c18; (by_cases c19 : x25_2 < (l1.length : Int))
      ·rw [if_pos c19] at H
       have c19b0 := decide_eq_true c19; clear c19; obtain ⟨⟨t179, t180, t181⟩, A200, H⟩ := obs_ H; (try dsimp only at H); have A20 := ak A200; clear A200; obtain ⟨t182, A210, H⟩ := obs_ H; (try dsimp only at H); have A21 := ak A210; clear A210; (by_cases c22 : (rd l1 x25_2) < t182)
       ·rw [if_pos c22] at H
        have c22b0 := decide_eq_true c22; clear c22; simp only [Option.some.injEq, Prod.mk.injEq] at H; obtain ⟨rfl, rfl⟩ := H; have p178 : 0 ≤ (x25_2 : Int) := od_; have q178 : x25_2 < (l1.length : Int) := od_; obtain ⟨ad178, e178, hx178_0⟩ := Kd.at_int HR1.1 x25_2 p178 q178; (cases e178); replace hx178_0 := (hc_ HB hx178_0).trans hx178_0; replace p178 := eq_true p178; replace q178 := eq_true q178; (try go_wp2); replace BK174 := bq_ BK174; replace HB := ak (below_drew1 HB.1); (refine start_ (n := 8) (S := fun w' => w'.cell? ⟨gb174, 0, none⟩ = some (.int .i64 a0_0) ∧ w'.cell? ⟨gb174, 1, none⟩ = some (.int .i64 a0_1) ∧ w'.cell? ⟨gb174, 2, none⟩ = some (.int .i64 a0_2) ∧ w'.cell? ⟨gb174, 3, none⟩ = some (.int .i64 a0_3) ∧ w'.cell? ⟨gb174, 4, none⟩ = some (.slice A0_4 l0_4.length c0_4)) (ds := []) (bm 8 0) (by kernel_rfl) rfl rfl ⟨bc_ BK174 0, bc_ BK174 1, bc_ BK174 2, bc_ BK174 3, bc_ BK174 4⟩ (fun hHeld => ?_); refine with_tabW boxpack_CheckTable.tab9 boxpack_CheckTable.bits9 (fun HT_ HW_ => ?_)); generalize wr.drew = w23 at BK174 HB hHeld ⊢; refine pv_ 0 HT_ ?_; refine pv_ 2 HT_ ?_; refine pv_ 4 HT_ ?_; refine tv_ 1 HT_ HW_ hHeld ?_; refine tv_ 3 HT_ HW_ hHeld ?_; (refine one_ (i := 5) (N := some 35) (bm 8 63) rfl rfl (one_of HT_.1 (by kernel_rfl)) (by decide) (fun K hK => ?_)); (refine goes_ Try.func58 (by kernel_rfl) rfl #[.agg #[.int .i64 a0_0, .int .i64 a0_1, .int .i64 a0_2, .int .i64 a0_3, .slice A0_4 l0_4.length c0_4], .int .i64 x25_2] (by rfl) rfl rfl am_ ?_); (with_reducible refine (boxpack_Problem_size.calls a0_0 a0_1 a0_2 a0_3 _ _ l0_4 x25_2 t179 t180 t181 _ ?side1 ?side2 A20.1).mono ?_); ((case side1 => exact (Kd.C_below HR0_4.1 HB.1))); ((case side2 => exact HC0_4.1)); rintro e w24 ⟨rfl, hb⟩; refine ⟨_, rfl, ?_⟩; replace BK174 := bb_ BK174 hb; replace HB := hs_ HB hb; ((try clear hb)); (refine hK.out _ _ ⟨bc_ BK174 0, bc_ BK174 1, bc_ BK174 2, bc_ BK174 3, bc_ BK174 4⟩ (fun hHeld => ?_)); clear hK K; refine nv_ ?_; (refine one_ (i := 6) (N := some 36) (bm 8 127) rfl rfl (one_of HT_.1 (by kernel_rfl)) (by decide) (fun K hK => ?_)); (refine goes_ Try.func57 (by kernel_rfl) rfl #[.agg #[.int .i64 a0_0, .int .i64 a0_1, .int .i64 a0_2, .int .i64 a0_3, .slice A0_4 l0_4.length c0_4], .slice (some ad178) l1.length c1, .agg #[.int .i64 t179, .int .i64 t180, .int .i64 t181]] (by rfl) rfl rfl am_ ?_)
        (with_reducible refine (boxpack_Problem_least.calls k2 a0_0 a0_1 a0_2 a0_3 _ _ l0_4 _ _ l1 t179 t180 t181 t182 _ ?side1 ?side2 ?side3 ?side4 A21.1).mono ?_); ((case side1 => exact (Kd.C_below HR0_4.1 HB.1))); ((case side2 => exact HC0_4.1)); ((case side3 => exact (Kd.C_below HR1.1 HB.1))); ((case side4 => exact HC1.1)); rintro e w25 ⟨rfl, hb⟩; refine ⟨_, rfl, ?_⟩; replace BK174 := bb_ BK174 hb; replace HB := hs_ HB hb; ((try clear hb)); (refine hK.out _ _ ⟨bc_ BK174 0, bc_ BK174 1, bc_ BK174 2, bc_ BK174 3, bc_ BK174 4⟩ (fun hHeld => ?_)); clear hK K; refine nv_ ?_; refine pv_ 7 HT_ ?_; (refine done_ (done_of HT_.1 (by kernel_rfl)) ?_); (try go_wp2); (go_ret2); (exact ⟨by rfl, hb_ HB⟩)
       rw [if_neg c22] at H
       have c22b0 := decide_eq_false c22; clear c22; have H' := ak H; clear H; have p178 : 0 ≤ (x25_2 : Int) := od_; have q178 : x25_2 < (l1.length : Int) := od_; obtain ⟨ad178, e178, hx178_0⟩ := Kd.at_int HR1.1 x25_2 p178 q178; (cases e178); replace hx178_0 := (hc_ HB hx178_0).trans hx178_0; replace p178 := eq_true p178; replace q178 := eq_true q178; (try go_wp2); replace BK174 := bq_ BK174; replace HB := ak (below_drew1 HB.1); (refine start_ (n := 8) (S := fun w' => w'.cell? ⟨gb174, 0, none⟩ = some (.int .i64 a0_0) ∧ w'.cell? ⟨gb174, 1, none⟩ = some (.int .i64 a0_1) ∧ w'.cell? ⟨gb174, 2, none⟩ = some (.int .i64 a0_2) ∧ w'.cell? ⟨gb174, 3, none⟩ = some (.int .i64 a0_3) ∧ w'.cell? ⟨gb174, 4, none⟩ = some (.slice A0_4 l0_4.length c0_4)) (ds := []) (bm 8 0) (by kernel_rfl) rfl rfl ⟨bc_ BK174 0, bc_ BK174 1, bc_ BK174 2, bc_ BK174 3, bc_ BK174 4⟩ (fun hHeld => ?_); refine with_tabW boxpack_CheckTable.tab9 boxpack_CheckTable.bits9 (fun HT_ HW_ => ?_)); generalize wr.drew = w26 at BK174 HB hHeld ⊢; refine pv_ 0 HT_ ?_; refine pv_ 2 HT_ ?_; refine pv_ 4 HT_ ?_; refine tv_ 1 HT_ HW_ hHeld ?_; refine tv_ 3 HT_ HW_ hHeld ?_; (refine one_ (i := 5) (N := some 35) (bm 8 63) rfl rfl (one_of HT_.1 (by kernel_rfl)) (by decide) (fun K hK => ?_)); (refine goes_ Try.func58 (by kernel_rfl) rfl #[.agg #[.int .i64 a0_0, .int .i64 a0_1, .int .i64 a0_2, .int .i64 a0_3, .slice A0_4 l0_4.length c0_4], .int .i64 x25_2] (by rfl) rfl rfl am_ ?_); (with_reducible refine (boxpack_Problem_size.calls a0_0 a0_1 a0_2 a0_3 _ _ l0_4 x25_2 t179 t180 t181 _ ?side1 ?side2 A20.1).mono ?_); ((case side1 => exact (Kd.C_below HR0_4.1 HB.1))); ((case side2 => exact HC0_4.1)); rintro e w27 ⟨rfl, hb⟩; refine ⟨_, rfl, ?_⟩; replace BK174 := bb_ BK174 hb; replace HB := hs_ HB hb; ((try clear hb)); (refine hK.out _ _ ⟨bc_ BK174 0, bc_ BK174 1, bc_ BK174 2, bc_ BK174 3, bc_ BK174 4⟩ (fun hHeld => ?_)); clear hK K; refine nv_ ?_; (refine one_ (i := 6) (N := some 36) (bm 8 127) rfl rfl (one_of HT_.1 (by kernel_rfl)) (by decide) (fun K hK => ?_)); (refine goes_ Try.func57 (by kernel_rfl) rfl #[.agg #[.int .i64 a0_0, .int .i64 a0_1, .int .i64 a0_2, .int .i64 a0_3, .slice A0_4 l0_4.length c0_4], .slice (some ad178) l1.length c1, .agg #[.int .i64 t179, .int .i64 t180, .int .i64 t181]] (by rfl) rfl rfl am_ ?_)
       (with_reducible refine (boxpack_Problem_least.calls k2 a0_0 a0_1 a0_2 a0_3 _ _ l0_4 _ _ l1 t179 t180 t181 t182 _ ?side1 ?side2 ?side3 ?side4 A21.1).mono ?_); ((case side1 => exact (Kd.C_below HR0_4.1 HB.1))); ((case side2 => exact HC0_4.1)); ((case side3 => exact (Kd.C_below HR1.1 HB.1))); ((case side4 => exact HC1.1)); rintro e w28 ⟨rfl, hb⟩; refine ⟨_, rfl, ?_⟩; replace BK174 := bb_ BK174 hb; replace HB := hs_ HB hb; ((try clear hb)); (refine hK.out _ _ ⟨bc_ BK174 0, bc_ BK174 1, bc_ BK174 2, bc_ BK174 3, bc_ BK174 4⟩ (fun hHeld => ?_)); clear hK K; refine nv_ ?_; refine pv_ 7 HT_ ?_; (refine done_ (done_of HT_.1 (by kernel_rfl)) ?_); (try go_wp2); (go_roundg k2)
       case measure => have := HJ4.1; have := HK2.1; omega
       case rel => exact ⟨(wrap64 (x25_2 + 1)), (by rfl), H', ⟨by have := HJ4.1; have := HK2.1; omega⟩, ⟨bk_ BK174⟩, ⟨hb_ HB⟩⟩
      rw [if_neg c19] at H; (exact absurd H (by simp))
     rw [if_neg c18] at H; (exact absurd H (by simp))
    rw [if_neg c17] at H; have c17b0 := decide_eq_false c17; clear c17; simp only [Option.some.injEq, Prod.mk.injEq] at H; obtain ⟨rfl, rfl⟩ := H; (go_wp2); (go_ret2); (exact ⟨by rfl, hb_ HB⟩)
 rw [if_neg c4] at H
 have c4b0 := beq_eq_false_iff_ne.mpr c4; have c4b1 := bne_iff_ne.mpr c4; simp only [Option.some.injEq, Prod.mk.injEq] at H; obtain ⟨rfl, rfl⟩ := H; (go_enter Try.func21, Try.ntmps21); (go_wp2_with (first | ((with_reducible refine gate_dst (N := 2) rfl ?_); refine bx_ 2 #[.int .i64 a0_0, .int .i64 a0_1, .int .i64 a0_2, .int .i64 a0_3, .slice A0_4 l0_4.length c0_4] 33 ?_; intro gb174 hg w29 hbox hb; have BK174 := ak (hbox); have GW174 := gw_ HB hg; have GE174 := gw_ HB hg; replace HB := hs_ HB hb; clear hb hbox hg; obtain ⟨hcz30_0, hcz30_1, hcz30_2, hcz30_3, hcz30_4, hfz30_0, hfz30_1, hfz30_2, hfz30_3, hfz30_4⟩ := cz5_ BK174) | ((with_reducible refine gate_callee (f := 14) rfl ?_); refine gl_ 10 Try.func14 #[.agg #[.int .i64 a0_0, .int .i64 a0_1, .int .i64 a0_2, .int .i64 a0_3, .slice A0_4 l0_4.length c0_4]] ?_; (with_reducible refine (boxpack_Check.calls k a0_0 a0_1 a0_2 a0_3 _ _ l0_4 t175 _ ?side1 ?side2 A3.1).mono ?_); (case side1 => exact (Kd.C_below HR0_4.1 HB.1)); (case side2 => exact HC0_4.1); rintro e w31 ⟨rfl, hb⟩; refine ⟨_, rfl, ?_⟩; replace BK174 := bb_ BK174 hb; replace HB := hs_ HB hb; (try clear hb)))); (go_ret2); (exact ⟨by rfl, hb_ HB⟩)

end Go.Proofs.Ytgacodhpniehiaa.XA
