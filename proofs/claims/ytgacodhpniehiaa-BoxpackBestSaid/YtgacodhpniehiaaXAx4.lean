import Derived.Test.YtgacodhpniehiaaXAx3
namespace Go.Proofs.Ytgacodhpniehiaa.XA
open Go.RowKit Opens YtgacodhpniehiaaW.PrintWords YtgacodhpniehiaaW.PrintLast YtgacodhpniehiaaW.PrintMore
attribute [local go_sem] max2_int min2_int max_two min_two max_three min_three max_four min_four cell_some cell_same
set_option linter.unusedVariables false
set_option linter.unusedSimpArgs false

def api_Item_30_by_boxpack_Check_1.l0 : Nat → List (S56) → Int → Int → Option (Int)
  | 0, _, _, _ => none
  | k + 1, x0, x7, x8 => if x8 < x7 then (if 0 ≤ x8 then (if x8 < (x0.length : Int) then ((boxpack_Check_1.f ((rd_T56 x0 x8).f0) ((rd_T56 x0 x8).f1.f0) ((rd_T56 x0 x8).f1.f1) ((rd_T56 x0 x8).f1.f2) ((rd_T56 x0 x8).f2) ((rd_T56 x0 x8).f3) ((rd_T56 x0 x8).f4)).bind fun t112 => (if t112 = true then (some x8) else (api_Item_30_by_boxpack_Check_1.l0 k x0 x7 (wrap64 (x8 + 1))))) else (none)) else (none)) else (some (-1))
def api_Item_30_by_boxpack_Check_1.f (k : Nat) (l0 : List (S56))  : Option (Int) := api_Item_30_by_boxpack_Check_1.l0 k l0 (l0.length : Int) 0
theorem api_Item_30_by_boxpack_Check_1.mono_l : ∀ k, (∀ y0 y1 y2, LeO (api_Item_30_by_boxpack_Check_1.l0 k y0 y1 y2) (api_Item_30_by_boxpack_Check_1.l0 (k + 1) y0 y1 y2))
  | 0 => fun _ _ _ r h => by simp [api_Item_30_by_boxpack_Check_1.l0] at h
  | k + 1 => by
    have ih0 := api_Item_30_by_boxpack_Check_1.mono_l k
    intro y0 y1 y2
    unfold api_Item_30_by_boxpack_Check_1.l0
    repeat' first
    | (with_reducible exact ih0 _ _ _)
    | (with_reducible exact LeO.refl _)
    | (with_reducible refine LeO.ite ?_ ?_)
    | (with_reducible refine LeO.bind ?_ (fun _ => ?_))
theorem api_Item_30_by_boxpack_Check_1.mono : ∀ a0 k, LeO (api_Item_30_by_boxpack_Check_1.f k a0) (api_Item_30_by_boxpack_Check_1.f (k + 1) a0) := by
  intro a0 k
  have ih0 := api_Item_30_by_boxpack_Check_1.mono_l k
  unfold api_Item_30_by_boxpack_Check_1.f
  repeat' (with_reducible exact ih0 _ _ _)
set_option maxHeartbeats 8000000 in
set_option maxRecDepth 100000 in
theorem api_Item_30_by_boxpack_Check_1.calls (k : Nat) (A0 : Option Addr) (c0 : Nat) (l0 : List (S56))  (r : Int) (w : World) (hr0 : Kd.C k56 w A0 l0.length l0) (hc0 : l0.length ≤ c0) (h : api_Item_30_by_boxpack_Check_1.f k l0 = some r) :
    Calls Try.prog 30 #[.slice A0 l0.length c0, .func (.func 35) #[] #[]] w fun e w' => e = .returned (.int .i64 r) ∧ Below w.heap.size w w' := by
  have hu56 := Try.underlying56
  have HR0 := ak hr0
  have HC0 := ak hc0
  clear hr0 hc0
  have HB := ak (Below.refl w.heap.size w)
  have H : (api_Item_30_by_boxpack_Check_1.l0 k l0 (l0.length : Int) 0) = some r := h
  clear h
  have H' := ak H
  clear H
  go_enter Try.func30, Try.ntmps30
  go_wp2
  go_loopg [8] k (fun kq v8 w' => ∃ (x8_1 : Int), v8 = .int .i64 x8_1 ∧ Aside0 (api_Item_30_by_boxpack_Check_1.l0 kq l0 (l0.length : Int) x8_1 = some r) ∧ Aside0 (kq ≤ k) ∧ Aside0 (Below w.heap.size w w'))
  case atStart => exact ⟨(0), (by rfl), H', ⟨Nat.le_refl _⟩, ⟨by repeat (with_reducible exact HB.1)⟩⟩
  clear H'
  obtain ⟨x8_1, rfl, HA, HK1, HB⟩ := hrel
  cases gk with
  | zero => exact absurd HA.1 (by simp [api_Item_30_by_boxpack_Check_1.l0])
  | succ k1 =>
    have H := HA.1
    clear HA
    simp only [api_Item_30_by_boxpack_Check_1.l0] at H
    by_cases c3 : x8_1 < (l0.length : Int)
    · rw [if_pos c3] at H
      have c3b0 : decide (x8_1 < (l0.length : Int)) = true := decide_eq_true c3
      clear c3
      by_cases c4 : 0 ≤ x8_1
      · rw [if_pos c4] at H
        have c4b0 : decide (0 ≤ x8_1) = true := decide_eq_true c4
        clear c4
        by_cases c5 : x8_1 < (l0.length : Int)
        · rw [if_pos c5] at H
          have c5b0 : decide (x8_1 < (l0.length : Int)) = true := decide_eq_true c5
          clear c5
          replace H := Option.bind_eq_some_iff.mp H
          obtain ⟨t112, A60, H⟩ := H
          (try dsimp only at H)
          have A6 := ak A60
          clear A60
          by_cases c7 : t112 = true
          · subst c7
            have H1 : (some x8_1) = some r := by rw [if_pos rfl] at H; exact H
            clear H
            have H := H1
            clear H1
            obtain rfl := Option.some.inj H
            have p111 : 0 ≤ (x8_1 : Int) := od_
            have q111 : x8_1 < (l0.length : Int) := od_
            obtain ⟨ad111, e111, hx111_0, hx111_1, hx111_2, hx111_3, hx111_4, hx111_5, hx111_6⟩ := at_T56 HR0.1 x8_1 p111 q111
            cases e111
            replace hx111_0 := (hc_ HB hx111_0).trans hx111_0
            replace hx111_1 := (hc_ HB hx111_1).trans hx111_1
            replace hx111_2 := (hc_ HB hx111_2).trans hx111_2
            replace hx111_3 := (hc_ HB hx111_3).trans hx111_3
            replace hx111_4 := (hc_ HB hx111_4).trans hx111_4
            replace hx111_5 := (hc_ HB hx111_5).trans hx111_5
            replace hx111_6 := (hc_ HB hx111_6).trans hx111_6
            replace p111 := eq_true p111
            replace q111 := eq_true q111
            go_wp2_with (first | (go_at_call 35; (with_reducible refine (boxpack_Check_1.calls ((rd_T56 l0 x8_1).f0) ((rd_T56 l0 x8_1).f1.f0) ((rd_T56 l0 x8_1).f1.f1) ((rd_T56 l0 x8_1).f1.f2) ((rd_T56 l0 x8_1).f2) ((rd_T56 l0 x8_1).f3) ((rd_T56 l0 x8_1).f4) true _ A6.1).mono ?_); rintro e w8 ⟨rfl, hb⟩; have n0_ := ak (below_step HB.1 hb); clear HB; have HB := n0_; clear n0_; (try clear hb)))
            go_ret
            exact ⟨by rfl, by repeat (with_reducible exact HB.1)⟩
          replace c7 := Bool.eq_false_iff.mpr c7
          subst c7
          have H1 : (api_Item_30_by_boxpack_Check_1.l0 k1 l0 (l0.length : Int) (wrap64 (x8_1 + 1))) = some r := by rw [if_neg (show ¬ (false = true) by decide)] at H; exact H
          clear H
          have H := H1
          clear H1
          have H' := ak H
          clear H
          have p111 : 0 ≤ (x8_1 : Int) := od_
          have q111 : x8_1 < (l0.length : Int) := od_
          obtain ⟨ad111, e111, hx111_0, hx111_1, hx111_2, hx111_3, hx111_4, hx111_5, hx111_6⟩ := at_T56 HR0.1 x8_1 p111 q111
          cases e111
          replace hx111_0 := (hc_ HB hx111_0).trans hx111_0
          replace hx111_1 := (hc_ HB hx111_1).trans hx111_1
          replace hx111_2 := (hc_ HB hx111_2).trans hx111_2
          replace hx111_3 := (hc_ HB hx111_3).trans hx111_3
          replace hx111_4 := (hc_ HB hx111_4).trans hx111_4
          replace hx111_5 := (hc_ HB hx111_5).trans hx111_5
          replace hx111_6 := (hc_ HB hx111_6).trans hx111_6
          replace p111 := eq_true p111
          replace q111 := eq_true q111
          go_wp2_with (first | (go_at_call 35; (with_reducible refine (boxpack_Check_1.calls ((rd_T56 l0 x8_1).f0) ((rd_T56 l0 x8_1).f1.f0) ((rd_T56 l0 x8_1).f1.f1) ((rd_T56 l0 x8_1).f1.f2) ((rd_T56 l0 x8_1).f2) ((rd_T56 l0 x8_1).f3) ((rd_T56 l0 x8_1).f4) false _ A6.1).mono ?_); rintro e w9 ⟨rfl, hb⟩; have n0_ := ak (below_step HB.1 hb); clear HB; have HB := n0_; clear n0_; (try clear hb)))
          go_roundg k1
          case measure => have := HK1.1; omega
          case rel => exact ⟨(wrap64 (x8_1 + 1)), (by rfl), H', ⟨by have := HK1.1; omega⟩, ⟨by repeat (with_reducible exact HB.1)⟩⟩
        rw [if_neg c5] at H
        exact absurd H (by simp)
      rw [if_neg c4] at H
      exact absurd H (by simp)
    rw [if_neg c3] at H
    have c3b0 : decide (x8_1 < (l0.length : Int)) = false := decide_eq_false c3
    clear c3
    obtain rfl := Option.some.inj H
    go_wp2
    go_ret
    exact ⟨by rfl, by repeat (with_reducible exact HB.1)⟩

def api_Item_34_by_boxpack_Check_1.f (k : Nat) (l0 : List (S56))  : Option (Bool) := (api_Item_30_by_boxpack_Check_1.f k l0).bind fun t113 => (some (decide (t113 ≥ 0)))
theorem api_Item_34_by_boxpack_Check_1.mono : ∀ a0 k, LeO (api_Item_34_by_boxpack_Check_1.f k a0) (api_Item_34_by_boxpack_Check_1.f (k + 1) a0) := by
  intro a0 k
  unfold api_Item_34_by_boxpack_Check_1.f
  repeat' first
      | (with_reducible exact api_Item_30_by_boxpack_Check_1.mono _ _)
      | (with_reducible exact LeO.refl _)
      | (with_reducible refine LeO.bind ?_ (fun _ => ?_))
set_option maxHeartbeats 8000000 in
set_option maxRecDepth 100000 in
theorem api_Item_34_by_boxpack_Check_1.calls (k : Nat) (A0 : Option Addr) (c0 : Nat) (l0 : List (S56))  (r : Bool) (w : World) (hr0 : Kd.C k56 w A0 l0.length l0) (hc0 : l0.length ≤ c0) (h : api_Item_34_by_boxpack_Check_1.f k l0 = some r) :
    Calls Try.prog 34 #[.slice A0 l0.length c0, .func (.func 35) #[] #[]] w fun e w' => e = .returned (.bool r) ∧ Below w.heap.size w w' := by
  have HR0 := ak hr0
  have HC0 := ak hc0
  clear hr0 hc0
  have HB := ak (Below.refl w.heap.size w)
  have H : ((api_Item_30_by_boxpack_Check_1.f k l0).bind fun t113 => (some (decide (t113 ≥ 0)))) = some r := h
  clear h
  replace H := Option.bind_eq_some_iff.mp H
  obtain ⟨t113, A30, H⟩ := H
  (try dsimp only at H)
  have A3 := ak A30
  clear A30
  obtain rfl := Option.some.inj H
  go_enter Try.func34, Try.ntmps34
  go_wp2_with (first | (go_at_call 30; (with_reducible refine (api_Item_30_by_boxpack_Check_1.calls k _ _ l0  t113 _ ?side1 ?side2 A3.1).mono ?_); (case side1 => exact HR0.1); (case side2 => exact HC0.1); rintro e w4 ⟨rfl, hb⟩; have n0_ := ak (below_step HB.1 hb); clear HB; have HB := n0_; clear n0_; (try clear hb)))
  go_ret
  exact ⟨by rfl, by repeat (with_reducible exact HB.1)⟩

def api_Item_30_by_boxpack_Check_2.l0 : Nat → List (S56) → Int → Int → Option (Int)
  | 0, _, _, _ => none
  | k + 1, x0, x7, x8 => if x8 < x7 then (if 0 ≤ x8 then (if x8 < (x0.length : Int) then ((boxpack_Check_2.f k ((rd_T56 x0 x8).f0) ((rd_T56 x0 x8).f1.f0) ((rd_T56 x0 x8).f1.f1) ((rd_T56 x0 x8).f1.f2) ((rd_T56 x0 x8).f2) ((rd_T56 x0 x8).f3) ((rd_T56 x0 x8).f4)).bind fun t112 => (if t112 = true then (some x8) else (api_Item_30_by_boxpack_Check_2.l0 k x0 x7 (wrap64 (x8 + 1))))) else (none)) else (none)) else (some (-1))
def api_Item_30_by_boxpack_Check_2.f (k : Nat) (l0 : List (S56))  : Option (Int) := api_Item_30_by_boxpack_Check_2.l0 k l0 (l0.length : Int) 0
theorem api_Item_30_by_boxpack_Check_2.mono_l : ∀ k, (∀ y0 y1 y2, LeO (api_Item_30_by_boxpack_Check_2.l0 k y0 y1 y2) (api_Item_30_by_boxpack_Check_2.l0 (k + 1) y0 y1 y2))
  | 0 => fun _ _ _ r h => by simp [api_Item_30_by_boxpack_Check_2.l0] at h
  | k + 1 => by
    have ih0 := api_Item_30_by_boxpack_Check_2.mono_l k
    intro y0 y1 y2
    unfold api_Item_30_by_boxpack_Check_2.l0
    repeat' first
    | (with_reducible exact ih0 _ _ _)
    | (with_reducible exact boxpack_Check_2.mono _ _ _ _ _ _ _ _)
    | (with_reducible exact LeO.refl _)
    | (with_reducible refine LeO.ite ?_ ?_)
    | (with_reducible refine LeO.bind ?_ (fun _ => ?_))
theorem api_Item_30_by_boxpack_Check_2.mono : ∀ a0 k, LeO (api_Item_30_by_boxpack_Check_2.f k a0) (api_Item_30_by_boxpack_Check_2.f (k + 1) a0) := by
  intro a0 k
  have ih0 := api_Item_30_by_boxpack_Check_2.mono_l k
  unfold api_Item_30_by_boxpack_Check_2.f
  repeat' (with_reducible exact ih0 _ _ _)
set_option maxHeartbeats 8000000 in
set_option maxRecDepth 100000 in
theorem api_Item_30_by_boxpack_Check_2.calls (k : Nat) (A0 : Option Addr) (c0 : Nat) (l0 : List (S56))  (r : Int) (w : World) (hr0 : Kd.C k56 w A0 l0.length l0) (hc0 : l0.length ≤ c0) (h : api_Item_30_by_boxpack_Check_2.f k l0 = some r) :
    Calls Try.prog 30 #[.slice A0 l0.length c0, .func (.func 37) #[] #[]] w fun e w' => e = .returned (.int .i64 r) ∧ Below w.heap.size w w' := by
  have hu56 := Try.underlying56
  have HR0 := ak hr0
  have HC0 := ak hc0
  clear hr0 hc0
  have HB := ak (Below.refl w.heap.size w)
  have H : (api_Item_30_by_boxpack_Check_2.l0 k l0 (l0.length : Int) 0) = some r := h
  clear h
  have H' := ak H
  clear H
  go_enter Try.func30, Try.ntmps30
  go_wp2
  go_loopg [8] k (fun kq v8 w' => ∃ (x8_1 : Int), v8 = .int .i64 x8_1 ∧ Aside0 (api_Item_30_by_boxpack_Check_2.l0 kq l0 (l0.length : Int) x8_1 = some r) ∧ Aside0 (kq ≤ k) ∧ Aside0 (Below w.heap.size w w'))
  case atStart => exact ⟨(0), (by rfl), H', ⟨Nat.le_refl _⟩, ⟨by repeat (with_reducible exact HB.1)⟩⟩
  clear H'
  obtain ⟨x8_1, rfl, HA, HK1, HB⟩ := hrel
  cases gk with
  | zero => exact absurd HA.1 (by simp [api_Item_30_by_boxpack_Check_2.l0])
  | succ k1 =>
    have H := HA.1
    clear HA
    simp only [api_Item_30_by_boxpack_Check_2.l0] at H
    by_cases c3 : x8_1 < (l0.length : Int)
    · rw [if_pos c3] at H
      have c3b0 : decide (x8_1 < (l0.length : Int)) = true := decide_eq_true c3
      clear c3
      by_cases c4 : 0 ≤ x8_1
      · rw [if_pos c4] at H
        have c4b0 : decide (0 ≤ x8_1) = true := decide_eq_true c4
        clear c4
        by_cases c5 : x8_1 < (l0.length : Int)
        · rw [if_pos c5] at H
          have c5b0 : decide (x8_1 < (l0.length : Int)) = true := decide_eq_true c5
          clear c5
          replace H := Option.bind_eq_some_iff.mp H
          obtain ⟨t112, A60, H⟩ := H
          (try dsimp only at H)
          have A6 := ak A60
          clear A60
          by_cases c7 : t112 = true
          · subst c7
            have H1 : (some x8_1) = some r := by rw [if_pos rfl] at H; exact H
            clear H
            have H := H1
            clear H1
            obtain rfl := Option.some.inj H
            have p111 : 0 ≤ (x8_1 : Int) := od_
            have q111 : x8_1 < (l0.length : Int) := od_
            obtain ⟨ad111, e111, hx111_0, hx111_1, hx111_2, hx111_3, hx111_4, hx111_5, hx111_6⟩ := at_T56 HR0.1 x8_1 p111 q111
            cases e111
            replace hx111_0 := (hc_ HB hx111_0).trans hx111_0
            replace hx111_1 := (hc_ HB hx111_1).trans hx111_1
            replace hx111_2 := (hc_ HB hx111_2).trans hx111_2
            replace hx111_3 := (hc_ HB hx111_3).trans hx111_3
            replace hx111_4 := (hc_ HB hx111_4).trans hx111_4
            replace hx111_5 := (hc_ HB hx111_5).trans hx111_5
            replace hx111_6 := (hc_ HB hx111_6).trans hx111_6
            replace p111 := eq_true p111
            replace q111 := eq_true q111
            go_wp2_with (first | (go_at_call 37; (with_reducible refine (boxpack_Check_2.calls k1 ((rd_T56 l0 x8_1).f0) ((rd_T56 l0 x8_1).f1.f0) ((rd_T56 l0 x8_1).f1.f1) ((rd_T56 l0 x8_1).f1.f2) ((rd_T56 l0 x8_1).f2) ((rd_T56 l0 x8_1).f3) ((rd_T56 l0 x8_1).f4) true _ A6.1).mono ?_); rintro e w8 ⟨rfl, hb⟩; have n0_ := ak (below_step HB.1 hb); clear HB; have HB := n0_; clear n0_; (try clear hb)))
            go_ret
            exact ⟨by rfl, by repeat (with_reducible exact HB.1)⟩
          replace c7 := Bool.eq_false_iff.mpr c7
          subst c7
          have H1 : (api_Item_30_by_boxpack_Check_2.l0 k1 l0 (l0.length : Int) (wrap64 (x8_1 + 1))) = some r := by rw [if_neg (show ¬ (false = true) by decide)] at H; exact H
          clear H
          have H := H1
          clear H1
          have H' := ak H
          clear H
          have p111 : 0 ≤ (x8_1 : Int) := od_
          have q111 : x8_1 < (l0.length : Int) := od_
          obtain ⟨ad111, e111, hx111_0, hx111_1, hx111_2, hx111_3, hx111_4, hx111_5, hx111_6⟩ := at_T56 HR0.1 x8_1 p111 q111
          cases e111
          replace hx111_0 := (hc_ HB hx111_0).trans hx111_0
          replace hx111_1 := (hc_ HB hx111_1).trans hx111_1
          replace hx111_2 := (hc_ HB hx111_2).trans hx111_2
          replace hx111_3 := (hc_ HB hx111_3).trans hx111_3
          replace hx111_4 := (hc_ HB hx111_4).trans hx111_4
          replace hx111_5 := (hc_ HB hx111_5).trans hx111_5
          replace hx111_6 := (hc_ HB hx111_6).trans hx111_6
          replace p111 := eq_true p111
          replace q111 := eq_true q111
          go_wp2_with (first | (go_at_call 37; (with_reducible refine (boxpack_Check_2.calls k1 ((rd_T56 l0 x8_1).f0) ((rd_T56 l0 x8_1).f1.f0) ((rd_T56 l0 x8_1).f1.f1) ((rd_T56 l0 x8_1).f1.f2) ((rd_T56 l0 x8_1).f2) ((rd_T56 l0 x8_1).f3) ((rd_T56 l0 x8_1).f4) false _ A6.1).mono ?_); rintro e w9 ⟨rfl, hb⟩; have n0_ := ak (below_step HB.1 hb); clear HB; have HB := n0_; clear n0_; (try clear hb)))
          go_roundg k1
          case measure => have := HK1.1; omega
          case rel => exact ⟨(wrap64 (x8_1 + 1)), (by rfl), H', ⟨by have := HK1.1; omega⟩, ⟨by repeat (with_reducible exact HB.1)⟩⟩
        rw [if_neg c5] at H
        exact absurd H (by simp)
      rw [if_neg c4] at H
      exact absurd H (by simp)
    rw [if_neg c3] at H
    have c3b0 : decide (x8_1 < (l0.length : Int)) = false := decide_eq_false c3
    clear c3
    obtain rfl := Option.some.inj H
    go_wp2
    go_ret
    exact ⟨by rfl, by repeat (with_reducible exact HB.1)⟩

def api_Item_34_by_boxpack_Check_2.f (k : Nat) (l0 : List (S56))  : Option (Bool) := (api_Item_30_by_boxpack_Check_2.f k l0).bind fun t113 => (some (decide (t113 ≥ 0)))
theorem api_Item_34_by_boxpack_Check_2.mono : ∀ a0 k, LeO (api_Item_34_by_boxpack_Check_2.f k a0) (api_Item_34_by_boxpack_Check_2.f (k + 1) a0) := by
  intro a0 k
  unfold api_Item_34_by_boxpack_Check_2.f
  repeat' first
      | (with_reducible exact api_Item_30_by_boxpack_Check_2.mono _ _)
      | (with_reducible exact LeO.refl _)
      | (with_reducible refine LeO.bind ?_ (fun _ => ?_))
set_option maxHeartbeats 8000000 in
set_option maxRecDepth 100000 in
theorem api_Item_34_by_boxpack_Check_2.calls (k : Nat) (A0 : Option Addr) (c0 : Nat) (l0 : List (S56))  (r : Bool) (w : World) (hr0 : Kd.C k56 w A0 l0.length l0) (hc0 : l0.length ≤ c0) (h : api_Item_34_by_boxpack_Check_2.f k l0 = some r) :
    Calls Try.prog 34 #[.slice A0 l0.length c0, .func (.func 37) #[] #[]] w fun e w' => e = .returned (.bool r) ∧ Below w.heap.size w w' := by
  have HR0 := ak hr0
  have HC0 := ak hc0
  clear hr0 hc0
  have HB := ak (Below.refl w.heap.size w)
  have H : ((api_Item_30_by_boxpack_Check_2.f k l0).bind fun t113 => (some (decide (t113 ≥ 0)))) = some r := h
  clear h
  replace H := Option.bind_eq_some_iff.mp H
  obtain ⟨t113, A30, H⟩ := H
  (try dsimp only at H)
  have A3 := ak A30
  clear A30
  obtain rfl := Option.some.inj H
  go_enter Try.func34, Try.ntmps34
  go_wp2_with (first | (go_at_call 30; (with_reducible refine (api_Item_30_by_boxpack_Check_2.calls k _ _ l0  t113 _ ?side1 ?side2 A3.1).mono ?_); (case side1 => exact HR0.1); (case side2 => exact HC0.1); rintro e w4 ⟨rfl, hb⟩; have n0_ := ak (below_step HB.1 hb); clear HB; have HB := n0_; clear n0_; (try clear hb)))
  go_ret
  exact ⟨by rfl, by repeat (with_reducible exact HB.1)⟩

end Go.Proofs.Ytgacodhpniehiaa.XA
