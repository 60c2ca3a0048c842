import Derived.Test.YtgacodhpniehiaaXAx4
import Derived.Test.YtgacodhpniehiaaFlat
namespace Go.Proofs.Ytgacodhpniehiaa.XA
open Flat Go.RowKit Opens YtgacodhpniehiaaW.PrintWords YtgacodhpniehiaaW.PrintLast YtgacodhpniehiaaW.PrintMore
attribute [local go_sem] max2_int min2_int max_two min_two max_three min_three max_four min_four cell_some cell_same
set_option linter.unusedVariables false
set_option linter.unusedSimpArgs false

def api_Item_30_by_boxpack_Check_3.l0 : Nat → List (S56) → Int → Int → ByteArray → Int → Int → Int → Int → Int → Int → Option (Int)
  | 0, _, _, _, _, _, _, _, _, _, _ => none
  | k + 1, x0, x7, x8, x9000, x9001, x9002, x9003, x9004, x9005, x9006 => if x8 < x7 then (if 0 ≤ x8 then (if x8 < (x0.length : Int) then ((boxpack_Check_3.f ((rd_T56 x0 x8).f0) ((rd_T56 x0 x8).f1.f0) ((rd_T56 x0 x8).f1.f1) ((rd_T56 x0 x8).f1.f2) ((rd_T56 x0 x8).f2) ((rd_T56 x0 x8).f3) ((rd_T56 x0 x8).f4) x9000 x9001 x9002 x9003 x9004 x9005 x9006).bind fun t112 => (if t112 = true then (some x8) else (api_Item_30_by_boxpack_Check_3.l0 k x0 x7 (wrap64 (x8 + 1)) x9000 x9001 x9002 x9003 x9004 x9005 x9006))) else (none)) else (none)) else (some (-1))
def api_Item_30_by_boxpack_Check_3.f (k : Nat) (l0 : List (S56)) (s8_0 : ByteArray) (s8_1 : Int) (s8_2 : Int) (s8_3 : Int) (s8_4 : Int) (s8_5 : Int) (s8_6 : Int) : Option (Int) := api_Item_30_by_boxpack_Check_3.l0 k l0 (l0.length : Int) 0 s8_0 s8_1 s8_2 s8_3 s8_4 s8_5 s8_6
theorem api_Item_30_by_boxpack_Check_3.mono_l : ∀ k, (∀ y0 y1 y2 y3 y4 y5 y6 y7 y8 y9, LeO (api_Item_30_by_boxpack_Check_3.l0 k y0 y1 y2 y3 y4 y5 y6 y7 y8 y9) (api_Item_30_by_boxpack_Check_3.l0 (k + 1) y0 y1 y2 y3 y4 y5 y6 y7 y8 y9))
  | 0 => fun _ _ _ _ _ _ _ _ _ _ r h => by simp [api_Item_30_by_boxpack_Check_3.l0] at h
  | k + 1 => by
    have ih0 := api_Item_30_by_boxpack_Check_3.mono_l k
    intro y0 y1 y2 y3 y4 y5 y6 y7 y8 y9
    unfold api_Item_30_by_boxpack_Check_3.l0
    repeat' first
    | (with_reducible exact ih0 _ _ _ _ _ _ _ _ _ _)
    | (with_reducible exact LeO.refl _)
    | (with_reducible refine LeO.ite ?_ ?_)
    | (with_reducible refine LeO.bind ?_ (fun _ => ?_))
theorem api_Item_30_by_boxpack_Check_3.mono : ∀ a0 a1 a2 a3 a4 a5 a6 a7 k, LeO (api_Item_30_by_boxpack_Check_3.f k a0 a1 a2 a3 a4 a5 a6 a7) (api_Item_30_by_boxpack_Check_3.f (k + 1) a0 a1 a2 a3 a4 a5 a6 a7) := by
  intro a0 a1 a2 a3 a4 a5 a6 a7 k
  have ih0 := api_Item_30_by_boxpack_Check_3.mono_l k
  unfold api_Item_30_by_boxpack_Check_3.f
  repeat' (with_reducible exact ih0 _ _ _ _ _ _ _ _ _ _)
set_option maxHeartbeats 8000000 in
set_option maxRecDepth 100000 in
theorem api_Item_30_by_boxpack_Check_3.calls (k : Nat) (A0 : Option Addr) (c0 : Nat) (l0 : List (S56)) (g8 : Nat) (s8_0 : ByteArray) (s8_1 : Int) (s8_2 : Int) (s8_3 : Int) (s8_4 : Int) (s8_5 : Int) (s8_6 : Int) (r : Int) (w : World) (hr0 : Kd.C k56 w A0 l0.length l0) (hc0 : l0.length ≤ c0) (hb8 : w.heap[g8]? = some (.cells #[.string s8_0, .int .i64 s8_1, .int .i64 s8_2, .int .i64 s8_3, .int .i64 s8_4, .int .i64 s8_5, .int .i64 s8_6] 56 (0, 0))) (h : api_Item_30_by_boxpack_Check_3.f k l0 s8_0 s8_1 s8_2 s8_3 s8_4 s8_5 s8_6 = some r) :
    Calls Try.prog 30 #[.slice A0 l0.length c0, .func (.func 38) #[] #[.pointer (some ⟨g8, 0, none⟩)]] w fun e w' => e = .returned (.int .i64 r) ∧ Below w.heap.size w w' := by
  have hu56 := Try.underlying56
  have HR0 := ak hr0
  have HC0 := ak hc0
  clear hr0 hc0
  have BK8 := ak hb8
  clear hb8
  have HB := ak (Below.refl w.heap.size w)
  have H : (api_Item_30_by_boxpack_Check_3.l0 k l0 (l0.length : Int) 0 s8_0 s8_1 s8_2 s8_3 s8_4 s8_5 s8_6) = some r := h
  clear h
  have H' := ak H
  clear H
  go_enter Try.func30, Try.ntmps30
  go_wp2
  go_loopg [8] k (fun kq v8 w' => ∃ (x8_1 : Int), v8 = .int .i64 x8_1 ∧ Aside0 (api_Item_30_by_boxpack_Check_3.l0 kq l0 (l0.length : Int) x8_1 s8_0 s8_1 s8_2 s8_3 s8_4 s8_5 s8_6 = some r) ∧ Aside0 (kq ≤ k) ∧ Aside0 (w'.heap[g8]? = some (.cells #[.string s8_0, .int .i64 s8_1, .int .i64 s8_2, .int .i64 s8_3, .int .i64 s8_4, .int .i64 s8_5, .int .i64 s8_6] 56 (0, 0))) ∧ Aside0 (Below w.heap.size w w'))
  case atStart => exact ⟨(0), (by rfl), H', ⟨Nat.le_refl _⟩, ⟨by exact BK8.1⟩, ⟨by repeat (with_reducible exact HB.1)⟩⟩
  clear H'
  obtain ⟨x8_1, rfl, HA, HK1, BK8, HB⟩ := hrel
  cases gk with
  | zero => exact absurd HA.1 (by simp [api_Item_30_by_boxpack_Check_3.l0])
  | succ k1 =>
    have H := HA.1
    clear HA
    simp only [api_Item_30_by_boxpack_Check_3.l0] at H
    by_cases c3 : x8_1 < (l0.length : Int)
    · rw [if_pos c3] at H
      have c3b0 : decide (x8_1 < (l0.length : Int)) = true := decide_eq_true c3
      clear c3
      by_cases c4 : 0 ≤ x8_1
      · rw [if_pos c4] at H
        have c4b0 : decide (0 ≤ x8_1) = true := decide_eq_true c4
        clear c4
        by_cases c5 : x8_1 < (l0.length : Int)
        · rw [if_pos c5] at H
          have c5b0 : decide (x8_1 < (l0.length : Int)) = true := decide_eq_true c5
          clear c5
          replace H := Option.bind_eq_some_iff.mp H
          obtain ⟨t112, A60, H⟩ := H
          (try dsimp only at H)
          have A6 := ak A60
          clear A60
          by_cases c7 : t112 = true
          · subst c7
            have H1 : (some x8_1) = some r := by rw [if_pos rfl] at H; exact H
            clear H
            have H := H1
            clear H1
            obtain rfl := Option.some.inj H
            have p111 : 0 ≤ (x8_1 : Int) := od_
            have q111 : x8_1 < (l0.length : Int) := od_
            obtain ⟨ad111, e111, hx111_0, hx111_1, hx111_2, hx111_3, hx111_4, hx111_5, hx111_6⟩ := at_T56 HR0.1 x8_1 p111 q111
            cases e111
            replace hx111_0 := (hc_ HB hx111_0).trans hx111_0
            replace hx111_1 := (hc_ HB hx111_1).trans hx111_1
            replace hx111_2 := (hc_ HB hx111_2).trans hx111_2
            replace hx111_3 := (hc_ HB hx111_3).trans hx111_3
            replace hx111_4 := (hc_ HB hx111_4).trans hx111_4
            replace hx111_5 := (hc_ HB hx111_5).trans hx111_5
            replace hx111_6 := (hc_ HB hx111_6).trans hx111_6
            replace p111 := eq_true p111
            replace q111 := eq_true q111
            go_wp2_with (first | (go_at_call 38; (with_reducible refine (boxpack_Check_3.calls ((rd_T56 l0 x8_1).f0) ((rd_T56 l0 x8_1).f1.f0) ((rd_T56 l0 x8_1).f1.f1) ((rd_T56 l0 x8_1).f1.f2) ((rd_T56 l0 x8_1).f2) ((rd_T56 l0 x8_1).f3) ((rd_T56 l0 x8_1).f4) g8 s8_0 s8_1 s8_2 s8_3 s8_4 s8_5 s8_6 true _ ?side1 A6.1).mono ?_); (case side1 => exact (by exact BK8.1)); rintro e w8 ⟨rfl, hb⟩; have n0_ := ak (blk_below (g := g8) (o := .cells #[.string s8_0, .int .i64 s8_1, .int .i64 s8_2, .int .i64 s8_3, .int .i64 s8_4, .int .i64 s8_5, .int .i64 s8_6] 56 (0, 0)) (by exact BK8.1) hb); have n1_ := ak (below_step HB.1 hb); clear BK8; clear HB; have BK8 := n0_; have HB := n1_; clear n0_ n1_; (try clear hb)))
            go_ret
            exact ⟨by rfl, by repeat (with_reducible exact HB.1)⟩
          replace c7 := Bool.eq_false_iff.mpr c7
          subst c7
          have H1 : (api_Item_30_by_boxpack_Check_3.l0 k1 l0 (l0.length : Int) (wrap64 (x8_1 + 1)) s8_0 s8_1 s8_2 s8_3 s8_4 s8_5 s8_6) = some r := by rw [if_neg (show ¬ (false = true) by decide)] at H; exact H
          clear H
          have H := H1
          clear H1
          have H' := ak H
          clear H
          have p111 : 0 ≤ (x8_1 : Int) := od_
          have q111 : x8_1 < (l0.length : Int) := od_
          obtain ⟨ad111, e111, hx111_0, hx111_1, hx111_2, hx111_3, hx111_4, hx111_5, hx111_6⟩ := at_T56 HR0.1 x8_1 p111 q111
          cases e111
          replace hx111_0 := (hc_ HB hx111_0).trans hx111_0
          replace hx111_1 := (hc_ HB hx111_1).trans hx111_1
          replace hx111_2 := (hc_ HB hx111_2).trans hx111_2
          replace hx111_3 := (hc_ HB hx111_3).trans hx111_3
          replace hx111_4 := (hc_ HB hx111_4).trans hx111_4
          replace hx111_5 := (hc_ HB hx111_5).trans hx111_5
          replace hx111_6 := (hc_ HB hx111_6).trans hx111_6
          replace p111 := eq_true p111
          replace q111 := eq_true q111
          go_wp2_with (first | (go_at_call 38; (with_reducible refine (boxpack_Check_3.calls ((rd_T56 l0 x8_1).f0) ((rd_T56 l0 x8_1).f1.f0) ((rd_T56 l0 x8_1).f1.f1) ((rd_T56 l0 x8_1).f1.f2) ((rd_T56 l0 x8_1).f2) ((rd_T56 l0 x8_1).f3) ((rd_T56 l0 x8_1).f4) g8 s8_0 s8_1 s8_2 s8_3 s8_4 s8_5 s8_6 false _ ?side1 A6.1).mono ?_); (case side1 => exact (by exact BK8.1)); rintro e w9 ⟨rfl, hb⟩; have n0_ := ak (blk_below (g := g8) (o := .cells #[.string s8_0, .int .i64 s8_1, .int .i64 s8_2, .int .i64 s8_3, .int .i64 s8_4, .int .i64 s8_5, .int .i64 s8_6] 56 (0, 0)) (by exact BK8.1) hb); have n1_ := ak (below_step HB.1 hb); clear BK8; clear HB; have BK8 := n0_; have HB := n1_; clear n0_ n1_; (try clear hb)))
          go_roundg k1
          case measure => have := HK1.1; omega
          case rel => exact ⟨(wrap64 (x8_1 + 1)), (by rfl), H', ⟨by have := HK1.1; omega⟩, ⟨by exact BK8.1⟩, ⟨by repeat (with_reducible exact HB.1)⟩⟩
        rw [if_neg c5] at H
        exact absurd H (by simp)
      rw [if_neg c4] at H
      exact absurd H (by simp)
    rw [if_neg c3] at H
    have c3b0 : decide (x8_1 < (l0.length : Int)) = false := decide_eq_false c3
    clear c3
    obtain rfl := Option.some.inj H
    go_wp2
    go_ret
    exact ⟨by rfl, by repeat (with_reducible exact HB.1)⟩

def api_Item_34_by_boxpack_Check_3.f (k : Nat) (l0 : List (S56)) (s8_0 : ByteArray) (s8_1 : Int) (s8_2 : Int) (s8_3 : Int) (s8_4 : Int) (s8_5 : Int) (s8_6 : Int) : Option (Bool) := (api_Item_30_by_boxpack_Check_3.f k l0 s8_0 s8_1 s8_2 s8_3 s8_4 s8_5 s8_6).bind fun t113 => (some (decide (t113 ≥ 0)))
theorem api_Item_34_by_boxpack_Check_3.mono : ∀ a0 a1 a2 a3 a4 a5 a6 a7 k, LeO (api_Item_34_by_boxpack_Check_3.f k a0 a1 a2 a3 a4 a5 a6 a7) (api_Item_34_by_boxpack_Check_3.f (k + 1) a0 a1 a2 a3 a4 a5 a6 a7) := by
  intro a0 a1 a2 a3 a4 a5 a6 a7 k
  unfold api_Item_34_by_boxpack_Check_3.f
  repeat' first
      | (with_reducible exact api_Item_30_by_boxpack_Check_3.mono _ _ _ _ _ _ _ _ _)
      | (with_reducible exact LeO.refl _)
      | (with_reducible refine LeO.bind ?_ (fun _ => ?_))
set_option maxHeartbeats 8000000 in
set_option maxRecDepth 100000 in
theorem api_Item_34_by_boxpack_Check_3.calls (k : Nat) (A0 : Option Addr) (c0 : Nat) (l0 : List (S56)) (g8 : Nat) (s8_0 : ByteArray) (s8_1 : Int) (s8_2 : Int) (s8_3 : Int) (s8_4 : Int) (s8_5 : Int) (s8_6 : Int) (r : Bool) (w : World) (hr0 : Kd.C k56 w A0 l0.length l0) (hc0 : l0.length ≤ c0) (hb8 : w.heap[g8]? = some (.cells #[.string s8_0, .int .i64 s8_1, .int .i64 s8_2, .int .i64 s8_3, .int .i64 s8_4, .int .i64 s8_5, .int .i64 s8_6] 56 (0, 0))) (h : api_Item_34_by_boxpack_Check_3.f k l0 s8_0 s8_1 s8_2 s8_3 s8_4 s8_5 s8_6 = some r) :
    Calls Try.prog 34 #[.slice A0 l0.length c0, .func (.func 38) #[] #[.pointer (some ⟨g8, 0, none⟩)]] w fun e w' => e = .returned (.bool r) ∧ Below w.heap.size w w' := by
  have HR0 := ak hr0
  have HC0 := ak hc0
  clear hr0 hc0
  have BK8 := ak hb8
  clear hb8
  have HB := ak (Below.refl w.heap.size w)
  have H : ((api_Item_30_by_boxpack_Check_3.f k l0 s8_0 s8_1 s8_2 s8_3 s8_4 s8_5 s8_6).bind fun t113 => (some (decide (t113 ≥ 0)))) = some r := h
  clear h
  replace H := Option.bind_eq_some_iff.mp H
  obtain ⟨t113, A30, H⟩ := H
  (try dsimp only at H)
  have A3 := ak A30
  clear A30
  obtain rfl := Option.some.inj H
  go_enter Try.func34, Try.ntmps34
  go_wp2_with (first | (go_at_call 30; (with_reducible refine (api_Item_30_by_boxpack_Check_3.calls k _ _ l0 g8 s8_0 s8_1 s8_2 s8_3 s8_4 s8_5 s8_6 t113 _ ?side1 ?side2 ?side3 A3.1).mono ?_); (case side1 => exact HR0.1); (case side2 => exact HC0.1); (case side3 => exact (by exact BK8.1)); rintro e w4 ⟨rfl, hb⟩; have n0_ := ak (blk_below (g := g8) (o := .cells #[.string s8_0, .int .i64 s8_1, .int .i64 s8_2, .int .i64 s8_3, .int .i64 s8_4, .int .i64 s8_5, .int .i64 s8_6] 56 (0, 0)) (by exact BK8.1) hb); have n1_ := ak (below_step HB.1 hb); clear BK8; clear HB; have BK8 := n0_; have HB := n1_; clear n0_ n1_; (try clear hb)))
  go_ret
  exact ⟨by rfl, by repeat (with_reducible exact HB.1)⟩

mutual
def boxpack_Check.j0 : Nat → Bool → Int → Int → Int → Int → List (S56) → Option (Int)
 | 0, _, _, _, _, _, _ => none
 | k + 1, x30, x115000, x115001, x115002, x115003, x115004 => if x30 = true then (some 6) else (boxpack_Check.l0 k x115004 (x115004.length : Int) 0 x115000 x115001 x115002 x115003 x115004)
def boxpack_Check.l0 : Nat → List (S56) → Int → Int → Int → Int → Int → Int → List (S56) → Option (Int)
 | 0, _, _, _, _, _, _, _, _ => none
 | k + 1, x32, x33, x34, x115000, x115001, x115002, x115003, x115004 => if x34 < x33 then (if 0 ≤ x34 then (if x34 < (x32.length : Int) then (if x34 ≤ (x115004.length : Int) then ((api_Item_34_by_boxpack_Check_3.f k (x115004.take (x34 : Int).toNat) ((rd_T56 x32 x34).f0) ((rd_T56 x32 x34).f1.f0) ((rd_T56 x32 x34).f1.f1) ((rd_T56 x32 x34).f1.f2) ((rd_T56 x32 x34).f2) ((rd_T56 x32 x34).f3) ((rd_T56 x32 x34).f4)).bind fun t124 => (if t124 = true then (some 5) else (boxpack_Check.l0 k x32 x33 (wrap64 (x34 + 1)) x115000 x115001 x115002 x115003 x115004))) else (none)) else (none)) else (none)) else (some 0)
end
def boxpack_Check.f (k : Nat) (a0_0 : Int) (a0_1 : Int) (a0_2 : Int) (a0_3 : Int) (l0_4 : List (S56)) : Option (Int) := if (l0_4.length : Int) > 6 then (some 7) else ((api_Item_34_by_boxpack_Check_1.f k l0_4).bind fun t115 => (if t115 = true then (some 4) else ((boxpack_possible.f k a0_0 a0_1 a0_2).bind fun t116 => (if t116 = true then (if a0_3 < 0 then (boxpack_Check.j0 k true a0_0 a0_1 a0_2 a0_3 l0_4) else (if a0_3 > 24 then (boxpack_Check.j0 k true a0_0 a0_1 a0_2 a0_3 l0_4) else ((api_Item_34_by_boxpack_Check_2.f k l0_4).bind fun t117 => (boxpack_Check.j0 k t117 a0_0 a0_1 a0_2 a0_3 l0_4)))) else (boxpack_Check.j0 k true a0_0 a0_1 a0_2 a0_3 l0_4)))))
theorem boxpack_Check.mono_l : ∀ k, (∀ y0 y1 y2 y3 y4 y5, LeO (boxpack_Check.j0 k y0 y1 y2 y3 y4 y5) (boxpack_Check.j0 (k + 1) y0 y1 y2 y3 y4 y5)) ∧ (∀ y0 y1 y2 y3 y4 y5 y6 y7, LeO (boxpack_Check.l0 k y0 y1 y2 y3 y4 y5 y6 y7) (boxpack_Check.l0 (k + 1) y0 y1 y2 y3 y4 y5 y6 y7))
 | 0 => ⟨fun _ _ _ _ _ _ r h => by simp [boxpack_Check.j0] at h, fun _ _ _ _ _ _ _ _ r h => by simp [boxpack_Check.l0] at h⟩
 | k + 1 => by
  obtain ⟨ih0, ih1⟩ := boxpack_Check.mono_l k; refine ⟨?_, ?_⟩; (all_goals (intros; (first | unfold boxpack_Check.j0 | unfold boxpack_Check.l0)))
  all_goals (repeat' first
   | (with_reducible exact ih1 _ _ _ _ _ _ _ _)
   | (with_reducible exact api_Item_34_by_boxpack_Check_3.mono _ _ _ _ _ _ _ _ _)
   | (with_reducible exact LeO.refl _)
   | (with_reducible refine LeO.ite ?_ ?_)
   | (with_reducible refine LeO.bind ?_ (fun _ => ?_))
   )
theorem boxpack_Check.mono : ∀ a0 a1 a2 a3 a4 k, LeO (boxpack_Check.f k a0 a1 a2 a3 a4) (boxpack_Check.f (k + 1) a0 a1 a2 a3 a4) := by
 intro a0 a1 a2 a3 a4 k
 obtain ⟨ih0, ih1⟩ := boxpack_Check.mono_l k
 unfold boxpack_Check.f
 repeat' first
   | (with_reducible exact ih0 _ _ _ _ _ _)
   | (with_reducible exact api_Item_34_by_boxpack_Check_1.mono _ _)
   | (with_reducible exact api_Item_34_by_boxpack_Check_2.mono _ _)
   | (with_reducible exact boxpack_possible.mono _ _ _ _)
   | (with_reducible exact LeO.refl _)
   | (with_reducible refine LeO.ite ?_ ?_)
   | (with_reducible refine LeO.bind ?_ (fun _ => ?_))
set_option maxHeartbeats 8000000 in
set_option maxRecDepth 100000 in
theorem boxpack_Check.calls (k : Nat) (a0_0 : Int) (a0_1 : Int) (a0_2 : Int) (a0_3 : Int) (A0_4 : Option Addr) (c0_4 : Nat) (l0_4 : List (S56)) (r : Int) (w : World) (hr0_4 : Kd.C k56 w A0_4 l0_4.length l0_4) (hc0_4 : l0_4.length ≤ c0_4) (h : boxpack_Check.f k a0_0 a0_1 a0_2 a0_3 l0_4 = some r) :
  Calls Try.prog 14 #[.agg #[.int .i64 a0_0, .int .i64 a0_1, .int .i64 a0_2, .int .i64 a0_3, .slice A0_4 l0_4.length c0_4]] w fun e w' => e = .returned (.int .i64 r) ∧ Below w.heap.size w w' := by
 have hu33 := Try.underlying33
 have hu23 := Try.underlying23
 have hu56 := Try.underlying56
 have HR0_4 := ak hr0_4
 have HC0_4 := ak hc0_4
 clear hr0_4 hc0_4
 have HB := ak (Below.refl w.heap.size w)
 have H : (if (l0_4.length : Int) > 6 then (some 7) else ((api_Item_34_by_boxpack_Check_1.f k l0_4).bind fun t115 => (if t115 = true then (some 4) else ((boxpack_possible.f k a0_0 a0_1 a0_2).bind fun t116 => (if t116 = true then (if a0_3 < 0 then (boxpack_Check.j0 k true a0_0 a0_1 a0_2 a0_3 l0_4) else (if a0_3 > 24 then (boxpack_Check.j0 k true a0_0 a0_1 a0_2 a0_3 l0_4) else ((api_Item_34_by_boxpack_Check_2.f k l0_4).bind fun t117 => (boxpack_Check.j0 k t117 a0_0 a0_1 a0_2 a0_3 l0_4)))) else (boxpack_Check.j0 k true a0_0 a0_1 a0_2 a0_3 l0_4)))))) = some r := h
 clear h
 by_cases c2 : (l0_4.length : Int) > 6
 ·rw [if_pos c2] at H
  have c2b0 := decide_eq_true c2; (have c2b1 : decide (6 < l0_4.length) = true := decide_eq_true (by omega)); clear c2; obtain rfl := Option.some.inj H; (go_enter Try.func14, Try.ntmps14); (go_wp2_with (first | ((with_reducible refine gate_dst (N := 1) rfl ?_); refine bx_ 1 #[.int .i64 a0_0, .int .i64 a0_1, .int .i64 a0_2, .int .i64 a0_3, .slice A0_4 l0_4.length c0_4] 33 ?_; intro gb114 hg w3 hbox hb; have BK114 := ak (hbox); have GW114 := gw_ HB hg; have GE114 := gw_ HB hg; replace HB := hs_ HB hb; clear hb hbox hg; obtain ⟨hcz4_0, hcz4_1, hcz4_2, hcz4_3, hcz4_4, hfz4_0, hfz4_1, hfz4_2, hfz4_3, hfz4_4⟩ := cz5_ BK114))); (go_ret); (exact ⟨by rfl, hb_ HB⟩)
 rw [if_neg c2] at H
 have c2b0 := decide_eq_false c2; (have c2b1 : decide (6 < l0_4.length) = false := decide_eq_false (by omega)); clear c2; obtain ⟨t115, A50, H⟩ := obs_ H; (try dsimp only at H); have A5 := ak A50; clear A50; (by_cases c6 : t115 = true)
 ·subst c6; (replace H : (some 4) = some r := by rw [if_pos rfl] at H; exact H); obtain rfl := Option.some.inj H; (go_enter Try.func14, Try.ntmps14); (go_wp2_with (first | ((with_reducible refine gate_dst (N := 1) rfl ?_); refine bx_ 1 #[.int .i64 a0_0, .int .i64 a0_1, .int .i64 a0_2, .int .i64 a0_3, .slice A0_4 l0_4.length c0_4] 33 ?_; intro gb114 hg w7 hbox hb; have BK114 := ak (hbox); have GW114 := gw_ HB hg; have GE114 := gw_ HB hg; replace HB := hs_ HB hb; clear hb hbox hg; obtain ⟨hcz8_0, hcz8_1, hcz8_2, hcz8_3, hcz8_4, hfz8_0, hfz8_1, hfz8_2, hfz8_3, hfz8_4⟩ := cz5_ BK114) | (go_at_call 34; (with_reducible refine (api_Item_34_by_boxpack_Check_1.calls k _ _ l0_4  true _ ?side1 ?side2 A5.1).mono ?_); (case side1 => exact (Kd.C_below HR0_4.1 HB.1)); (case side2 => exact HC0_4.1); rintro e w9 ⟨rfl, hb⟩; replace BK114 := bb_ BK114 hb; replace HB := hs_ HB hb; (try clear hb)))); (go_ret); (exact ⟨by rfl, hb_ HB⟩)
 replace c6 := Bool.eq_false_iff.mpr c6
 subst c6; (replace H : ((boxpack_possible.f k a0_0 a0_1 a0_2).bind fun t116 => (if t116 = true then (if a0_3 < 0 then (boxpack_Check.j0 k true a0_0 a0_1 a0_2 a0_3 l0_4) else (if a0_3 > 24 then (boxpack_Check.j0 k true a0_0 a0_1 a0_2 a0_3 l0_4) else ((api_Item_34_by_boxpack_Check_2.f k l0_4).bind fun t117 => (boxpack_Check.j0 k t117 a0_0 a0_1 a0_2 a0_3 l0_4)))) else (boxpack_Check.j0 k true a0_0 a0_1 a0_2 a0_3 l0_4))) = some r := by rw [if_neg (show ¬ (false = true) by decide)] at H; exact H); have HC10 := ak H; clear H; (go_enter Try.func14, Try.ntmps14); (go_upto_region 5 with (first | ((with_reducible refine gate_dst (N := 1) rfl ?_); refine bx_ 1 #[.int .i64 a0_0, .int .i64 a0_1, .int .i64 a0_2, .int .i64 a0_3, .slice A0_4 l0_4.length c0_4] 33 ?_; intro gb114 hg w11 hbox hb; have BK114 := ak (hbox); have GW114 := gw_ HB hg; have GE114 := gw_ HB hg; replace HB := hs_ HB hb; clear hb hbox hg; obtain ⟨hcz12_0, hcz12_1, hcz12_2, hcz12_3, hcz12_4, hfz12_0, hfz12_1, hfz12_2, hfz12_3, hfz12_4⟩ := cz5_ BK114) | (go_at_call 34; (with_reducible refine (api_Item_34_by_boxpack_Check_1.calls k _ _ l0_4  false _ ?side1 ?side2 A5.1).mono ?_); (case side1 => exact (Kd.C_below HR0_4.1 HB.1)); (case side2 => exact HC0_4.1); rintro e w13 ⟨rfl, hb⟩; replace BK114 := bb_ BK114 hb; replace HB := hs_ HB hb; (try clear hb)))); (go_cut [30] (fun v30 wc => ∃ (kq : Nat) (x30_9 : Bool), v30 = .bool x30_9 ∧ Aside0 (boxpack_Check.j0 kq x30_9 a0_0 a0_1 a0_2 a0_3 l0_4 = some r) ∧ Aside0 (kq ≤ k) ∧ Aside0 (wc.heap[gb114]? = some (.cells #[.int .i64 a0_0, .int .i64 a0_1, .int .i64 a0_2, .int .i64 a0_3, (.slice A0_4 l0_4.length c0_4)] 33 (0, 0))) ∧ Aside0 (Below w.heap.size w wc)))
 case first =>
  have H := HC10.1; clear HC10; obtain ⟨t116, A140, H⟩ := obs_ H; (try dsimp only at H); have A14 := ak A140; clear A140; (by_cases c15 : t116 = true)
  ·subst c15
   (replace H : (if a0_3 < 0 then (boxpack_Check.j0 k true a0_0 a0_1 a0_2 a0_3 l0_4) else (if a0_3 > 24 then (boxpack_Check.j0 k true a0_0 a0_1 a0_2 a0_3 l0_4) else ((api_Item_34_by_boxpack_Check_2.f k l0_4).bind fun t117 => (boxpack_Check.j0 k t117 a0_0 a0_1 a0_2 a0_3 l0_4)))) = some r := by rw [if_pos rfl] at H; exact H); (by_cases c16 : a0_3 < 0)
   ·rw [if_pos c16] at H
    have c16b0 := decide_eq_true c16; clear c16; have H' := ak H; clear H; obtain ⟨hcz17_0, hcz17_1, hcz17_2, hcz17_3, hcz17_4, hfz17_0, hfz17_1, hfz17_2, hfz17_3, hfz17_4⟩ := cz5_ BK114; (go_wp2_with (first | ((with_reducible refine gate_callee (f := 36) rfl ?_); refine gl_ 14 Try.func36 #[.agg #[.int .i64 a0_0, .int .i64 a0_1, .int .i64 a0_2]] ?_; (with_reducible refine (boxpack_possible.calls k a0_0 a0_1 a0_2 true _ A14.1).mono ?_); rintro e w18 ⟨rfl, hb⟩; refine ⟨_, rfl, ?_⟩; replace BK114 := bb_ BK114 hb; replace HB := hs_ HB hb; (try clear hb); obtain ⟨hcz19_0, hcz19_1, hcz19_2, hcz19_3, hcz19_4, hfz19_0, hfz19_1, hfz19_2, hfz19_3, hfz19_4⟩ := cz5_ BK114))); (go_meet)
    case rel => exact ⟨_, (true), (by rfl), H', ⟨by omega⟩, ⟨bk_ BK114⟩, ⟨hb_ HB⟩⟩
   rw [if_neg c16] at H
   have c16b0 := decide_eq_false c16; clear c16; (by_cases c20 : a0_3 > 24)
   ·rw [if_pos c20] at H
    have c20b0 := decide_eq_true c20; clear c20; have H' := ak H; clear H; obtain ⟨hcz21_0, hcz21_1, hcz21_2, hcz21_3, hcz21_4, hfz21_0, hfz21_1, hfz21_2, hfz21_3, hfz21_4⟩ := cz5_ BK114; (go_wp2_with (first | ((with_reducible refine gate_callee (f := 36) rfl ?_); refine gl_ 14 Try.func36 #[.agg #[.int .i64 a0_0, .int .i64 a0_1, .int .i64 a0_2]] ?_; (with_reducible refine (boxpack_possible.calls k a0_0 a0_1 a0_2 true _ A14.1).mono ?_); rintro e w22 ⟨rfl, hb⟩; refine ⟨_, rfl, ?_⟩; replace BK114 := bb_ BK114 hb; replace HB := hs_ HB hb; (try clear hb); obtain ⟨hcz23_0, hcz23_1, hcz23_2, hcz23_3, hcz23_4, hfz23_0, hfz23_1, hfz23_2, hfz23_3, hfz23_4⟩ := cz5_ BK114))); (go_meet)
    case rel => exact ⟨_, (true), (by rfl), H', ⟨by omega⟩, ⟨bk_ BK114⟩, ⟨hb_ HB⟩⟩
   rw [if_neg c20] at H
   have c20b0 := decide_eq_false c20; clear c20; obtain ⟨t117, A240, H⟩ := obs_ H; (try dsimp only at H); have A24 := ak A240; clear A240; have H' := ak H; clear H; obtain ⟨hcz25_0, hcz25_1, hcz25_2, hcz25_3, hcz25_4, hfz25_0, hfz25_1, hfz25_2, hfz25_3, hfz25_4⟩ := cz5_ BK114; (go_wp2_with (first | ((with_reducible refine gate_callee (f := 36) rfl ?_); refine gl_ 14 Try.func36 #[.agg #[.int .i64 a0_0, .int .i64 a0_1, .int .i64 a0_2]] ?_; (with_reducible refine (boxpack_possible.calls k a0_0 a0_1 a0_2 true _ A14.1).mono ?_); rintro e w26 ⟨rfl, hb⟩; refine ⟨_, rfl, ?_⟩; replace BK114 := bb_ BK114 hb; replace HB := hs_ HB hb; (try clear hb); obtain ⟨hcz27_0, hcz27_1, hcz27_2, hcz27_3, hcz27_4, hfz27_0, hfz27_1, hfz27_2, hfz27_3, hfz27_4⟩ := cz5_ BK114) | (go_at_call 34; (with_reducible refine (api_Item_34_by_boxpack_Check_2.calls k _ _ l0_4  t117 _ ?side1 ?side2 A24.1).mono ?_); (case side1 => exact (Kd.C_below HR0_4.1 HB.1)); (case side2 => exact HC0_4.1); rintro e w28 ⟨rfl, hb⟩; replace BK114 := bb_ BK114 hb; replace HB := hs_ HB hb; (try clear hb)))); (go_meet)
   case rel => exact ⟨_, (t117), (by rfl), H', ⟨by omega⟩, ⟨bk_ BK114⟩, ⟨hb_ HB⟩⟩
  replace c15 := Bool.eq_false_iff.mpr c15
  subst c15; (replace H : (boxpack_Check.j0 k true a0_0 a0_1 a0_2 a0_3 l0_4) = some r := by rw [if_neg (show ¬ (false = true) by decide)] at H; exact H); have H' := ak H; clear H; obtain ⟨hcz29_0, hcz29_1, hcz29_2, hcz29_3, hcz29_4, hfz29_0, hfz29_1, hfz29_2, hfz29_3, hfz29_4⟩ := cz5_ BK114; (go_wp2_with (first | ((with_reducible refine gate_callee (f := 36) rfl ?_); refine gl_ 14 Try.func36 #[.agg #[.int .i64 a0_0, .int .i64 a0_1, .int .i64 a0_2]] ?_; (with_reducible refine (boxpack_possible.calls k a0_0 a0_1 a0_2 false _ A14.1).mono ?_); rintro e w30 ⟨rfl, hb⟩; refine ⟨_, rfl, ?_⟩; replace BK114 := bb_ BK114 hb; replace HB := hs_ HB hb; (try clear hb)))); (go_meet)
  case rel => exact ⟨_, (true), (by rfl), H', ⟨by omega⟩, ⟨bk_ BK114⟩, ⟨hb_ HB⟩⟩
 clear HC10; (try clear c2b0); (try clear c2b1); (try clear hcz12_0); (try clear hcz12_1); (try clear hcz12_2); (try clear hcz12_3); (try clear hcz12_4); (try clear hfz12_0); (try clear hfz12_1); (try clear hfz12_2); (try clear hfz12_3); (try clear hfz12_4); obtain ⟨kq, x30_9, rfl, HA, HJ9, BK114, HB⟩ := hcut
 cases kq with
 | zero => exact absurd HA.1 (by simp [boxpack_Check.j0])
 | succ kj9 =>
  have H := HA.1; clear HA; simp only [boxpack_Check.j0] at H; (by_cases c31 : x30_9 = true)
  ·subst c31; (replace H : (some 6) = some r := by rw [if_pos rfl] at H; exact H); obtain rfl := Option.some.inj H; (go_wp2); (go_ret); (exact ⟨by rfl, hb_ HB⟩)
  replace c31 := Bool.eq_false_iff.mpr c31
  subst c31; (replace H : (boxpack_Check.l0 kj9 l0_4 (l0_4.length : Int) 0 a0_0 a0_1 a0_2 a0_3 l0_4) = some r := by rw [if_neg (show ¬ (false = true) by decide)] at H; exact H); have H' := ak H; clear H; obtain ⟨hcz32_0, hcz32_1, hcz32_2, hcz32_3, hcz32_4, hfz32_0, hfz32_1, hfz32_2, hfz32_3, hfz32_4⟩ := cz5_ BK114; (go_wp2); (go_loopg [34] kj9 (fun kq v34 w' => ∃ (x34_2 : Int), v34 = .int .i64 x34_2 ∧ Aside0 (boxpack_Check.l0 kq l0_4 (l0_4.length : Int) x34_2 a0_0 a0_1 a0_2 a0_3 l0_4 = some r) ∧ Aside0 (kq ≤ kj9) ∧ Aside0 (w'.heap[gb114]? = some (.cells #[.int .i64 a0_0, .int .i64 a0_1, .int .i64 a0_2, .int .i64 a0_3, (.slice A0_4 l0_4.length c0_4)] 33 (0, 0))) ∧ Aside0 (Below w.heap.size w w')))
  case atStart => exact ⟨(0), (by rfl), H', ⟨Nat.le_refl _⟩, ⟨bk_ BK114⟩, ⟨hb_ HB⟩⟩
  clear H'; (try clear hcz32_0); (try clear hcz32_1); (try clear hcz32_2); (try clear hcz32_3); (try clear hcz32_4); (try clear hfz32_0); (try clear hfz32_1); (try clear hfz32_2); (try clear hfz32_3); (try clear hfz32_4); obtain ⟨x34_2, rfl, HA, HK2, BK114, HB⟩ := hrel
  cases gk with
  | zero => exact absurd HA.1 (by simp [boxpack_Check.l0])
  | succ k2 =>
   have H := HA.1; clear HA; simp only [boxpack_Check.l0] at H; (by_cases c33 : x34_2 < (l0_4.length : Int))
   ·rw [if_pos c33] at H
    have c33b0 := decide_eq_true c33; clear c33; (by_cases c34 : 0 ≤ x34_2)
    ·rw [if_pos c34] at H
     have c34b0 := decide_eq_true c34; clear c34; (by_cases c35 : x34_2 < (l0_4.length : Int))
     ·rw [if_pos c35] at H
      have c35b0 := decide_eq_true c35; clear c35; have c36b0 := eq_true (od_ : 0 ≤ x34_2); (by_cases c37 : x34_2 ≤ (l0_4.length : Int))
      ·rw [if_pos c37] at H
       have c37b0 := eq_true c37; have c37b1 := decide_eq_true c37; clear c37; obtain ⟨y120, hy120⟩ : ∃ y_ : List (S56), y_ = (l0_4.take (x34_2 : Int).toNat) := ⟨_, rfl⟩; (replace H : ((api_Item_34_by_boxpack_Check_3.f k2 y120 ((rd_T56 l0_4 x34_2).f0) ((rd_T56 l0_4 x34_2).f1.f0) ((rd_T56 l0_4 x34_2).f1.f1) ((rd_T56 l0_4 x34_2).f1.f2) ((rd_T56 l0_4 x34_2).f2) ((rd_T56 l0_4 x34_2).f3) ((rd_T56 l0_4 x34_2).f4)).bind fun t124 => (if t124 = true then (some 5) else (boxpack_Check.l0 k2 l0_4 (l0_4.length : Int) (wrap64 (x34_2 + 1)) a0_0 a0_1 a0_2 a0_3 l0_4))) = some r := by (rw [hy120]; with_reducible exact H)); have Ny120 := ak hy120; clear hy120; obtain ⟨t124, A380, H⟩ := obs_ H; (try dsimp only at H); have A38 := ak A380; clear A380; (by_cases c39 : t124 = true)
       ·subst c39
        (replace H : (some 5) = some r := by rw [if_pos rfl] at H; exact H); obtain rfl := Option.some.inj H; have p118 : 0 ≤ (x34_2 : Int) := od_; have q118 : x34_2 < (l0_4.length : Int) := od_; obtain ⟨ad118, e118, hx118_0, hx118_1, hx118_2, hx118_3, hx118_4, hx118_5, hx118_6⟩ := at_T56 HR0_4.1 x34_2 p118 q118; (cases e118); replace hx118_0 := (hc_ HB hx118_0).trans hx118_0; replace hx118_1 := (hc_ HB hx118_1).trans hx118_1; replace hx118_2 := (hc_ HB hx118_2).trans hx118_2; replace hx118_3 := (hc_ HB hx118_3).trans hx118_3; replace hx118_4 := (hc_ HB hx118_4).trans hx118_4; replace hx118_5 := (hc_ HB hx118_5).trans hx118_5; replace hx118_6 := (hc_ HB hx118_6).trans hx118_6; replace p118 := eq_true p118; replace q118 := eq_true q118; (go_wp2_with (first | ((with_reducible refine gate_dst (N := 4) rfl ?_); refine bx_ 4 #[.string (⟨#[]⟩ : ByteArray), .int .i64 0, .int .i64 0, .int .i64 0, .int .i64 0, .int .i64 0, .int .i64 0] 56 ?_; intro gb119 hg w40 hbox hb; have BK119 := ak (hbox); have GW119 := gw_ HB hg; have GE119 := gw_ HB hg; replace HB := hs_ HB hb; have NB114_119 := nl_ BK114 hg; have NB119_114 := nr_ BK114 hg; replace BK114 := bb_ BK114 hb; clear hb hbox hg; have hnb41 := NB119_114.1; have hnc41 := NB114_119.1; have hcz42_0 : w40.cell? ⟨gb119, 0, none⟩ = some (.string (⟨#[]⟩ : ByteArray)) := bc_ BK119 0; have hcz42_1 : w40.cell? ⟨gb119, 1, none⟩ = some (.int .i64 0) := bc_ BK119 1; have hcz42_2 : w40.cell? ⟨gb119, 2, none⟩ = some (.int .i64 0) := bc_ BK119 2; have hcz42_3 : w40.cell? ⟨gb119, 3, none⟩ = some (.int .i64 0) := bc_ BK119 3; have hcz42_4 : w40.cell? ⟨gb119, 4, none⟩ = some (.int .i64 0) := bc_ BK119 4; have hcz42_5 : w40.cell? ⟨gb119, 5, none⟩ = some (.int .i64 0) := bc_ BK119 5; have hcz42_6 : w40.cell? ⟨gb119, 6, none⟩ = some (.int .i64 0) := bc_ BK119 6; have hfz42_0 := blk_frozen BK119.1 0; have hfz42_1 := blk_frozen BK119.1 1; have hfz42_2 := blk_frozen BK119.1 2; have hfz42_3 := blk_frozen BK119.1 3; have hfz42_4 := blk_frozen BK119.1 4; have hfz42_5 := blk_frozen BK119.1 5; have hfz42_6 := blk_frozen BK119.1 6) | ((with_reducible refine gate_store (t := 56) (p := 4) rfl ?_); refine store_event (t := 56) (p := 4) (v := ?vo_w43) (w1 := (((((((w40.setCell ⟨gb119, 0, none⟩ (.string ((rd_T56 l0_4 x34_2).f0))).setCell ⟨gb119, 1, none⟩ (.int .i64 ((rd_T56 l0_4 x34_2).f1.f0))).setCell ⟨gb119, 2, none⟩ (.int .i64 ((rd_T56 l0_4 x34_2).f1.f1))).setCell ⟨gb119, 3, none⟩ (.int .i64 ((rd_T56 l0_4 x34_2).f1.f2))).setCell ⟨gb119, 4, none⟩ (.int .i64 ((rd_T56 l0_4 x34_2).f2))).setCell ⟨gb119, 5, none⟩ (.int .i64 ((rd_T56 l0_4 x34_2).f3))).setCell ⟨gb119, 6, none⟩ (.int .i64 ((rd_T56 l0_4 x34_2).f4)))) ?hg ?ho ?hn ?hr ?_; (case ho => rfl); (case hg => rfl); (case hn => rfl); (case hr => (go_simp; done)); intro w43 hw; have n0_ : Aside0 (w43.heap[gb114]? = some (.cells #[.int .i64 a0_0, .int .i64 a0_1, .int .i64 a0_2, .int .i64 a0_3, .slice (some ad118) l0_4.length c0_4] 33 (0, 0))) := ⟨(by rw [hw]; exact (by refine blk_far ?_ NB114_119.1 _; refine blk_far ?_ NB114_119.1 _; refine blk_far ?_ NB114_119.1 _; refine blk_far ?_ NB114_119.1 _; refine blk_far ?_ NB114_119.1 _; refine blk_far ?_ NB114_119.1 _; refine blk_far ?_ NB114_119.1 _; exact BK114.1))⟩; have n1_ : Aside0 (w43.heap[gb119]? = some (.cells #[.string ((rd_T56 l0_4 x34_2).f0), .int .i64 ((rd_T56 l0_4 x34_2).f1.f0), .int .i64 ((rd_T56 l0_4 x34_2).f1.f1), .int .i64 ((rd_T56 l0_4 x34_2).f1.f2), .int .i64 ((rd_T56 l0_4 x34_2).f2), .int .i64 ((rd_T56 l0_4 x34_2).f3), .int .i64 ((rd_T56 l0_4 x34_2).f4)] 56 (0, 0))) := ⟨(by rw [hw]; exact (by refine blk_put (cs := #[.string ((rd_T56 l0_4 x34_2).f0), .int .i64 ((rd_T56 l0_4 x34_2).f1.f0), .int .i64 ((rd_T56 l0_4 x34_2).f1.f1), .int .i64 ((rd_T56 l0_4 x34_2).f1.f2), .int .i64 ((rd_T56 l0_4 x34_2).f2), .int .i64 ((rd_T56 l0_4 x34_2).f3), .int .i64 0]) ?_ 6 _ rfl; refine blk_put (cs := #[.string ((rd_T56 l0_4 x34_2).f0), .int .i64 ((rd_T56 l0_4 x34_2).f1.f0), .int .i64 ((rd_T56 l0_4 x34_2).f1.f1), .int .i64 ((rd_T56 l0_4 x34_2).f1.f2), .int .i64 ((rd_T56 l0_4 x34_2).f2), .int .i64 0, .int .i64 0]) ?_ 5 _ rfl; refine blk_put (cs := #[.string ((rd_T56 l0_4 x34_2).f0), .int .i64 ((rd_T56 l0_4 x34_2).f1.f0), .int .i64 ((rd_T56 l0_4 x34_2).f1.f1), .int .i64 ((rd_T56 l0_4 x34_2).f1.f2), .int .i64 0, .int .i64 0, .int .i64 0]) ?_ 4 _ rfl; refine blk_put (cs := #[.string ((rd_T56 l0_4 x34_2).f0), .int .i64 ((rd_T56 l0_4 x34_2).f1.f0), .int .i64 ((rd_T56 l0_4 x34_2).f1.f1), .int .i64 0, .int .i64 0, .int .i64 0, .int .i64 0]) ?_ 3 _ rfl; refine blk_put (cs := #[.string ((rd_T56 l0_4 x34_2).f0), .int .i64 ((rd_T56 l0_4 x34_2).f1.f0), .int .i64 0, .int .i64 0, .int .i64 0, .int .i64 0, .int .i64 0]) ?_ 2 _ rfl; refine blk_put (cs := #[.string ((rd_T56 l0_4 x34_2).f0), .int .i64 0, .int .i64 0, .int .i64 0, .int .i64 0, .int .i64 0, .int .i64 0]) ?_ 1 _ rfl; refine blk_put (cs := #[.string (⟨#[]⟩ : ByteArray), .int .i64 0, .int .i64 0, .int .i64 0, .int .i64 0, .int .i64 0, .int .i64 0]) ?_ 0 _ rfl; exact BK119.1))⟩; have n2_ : Aside0 (Below w.heap.size w w43) := ⟨(by rw [hw]; exact (hb_ HB))⟩; clear hw; clear BK114; clear BK119; clear HB; have BK114 := n0_; have BK119 := n1_; have HB := n2_; clear n0_ n1_ n2_; obtain ⟨hcz44_0, hcz44_1, hcz44_2, hcz44_3, hcz44_4, hfz44_0, hfz44_1, hfz44_2, hfz44_3, hfz44_4⟩ := cz5_ BK114; have q45 : (x34_2 : Int) ≤ ((l0_4.length : Int) : Int) := od_; obtain ⟨i045, hi045, _, hsz45, _⟩ := info_parts info56; have hroom45 : l0_4.length ≤ c0_4 := HC0_4.1; have hC45 : Kd.C k56 _ (some ad118) l0_4.length l0_4 := HR0_4.1; have hcut45 := cut_to (P := Try.prog) 24 56 .i64 Try.underlying24 hi045 (some ad118) l0_4.length c0_4 x34_2 (od_) q45 hroom45; have hr45 := Kd.C_take (m := (x34_2 : Int).toNat) hC45 (by omega); have hy45 : y120.length = (x34_2 : Int).toNat := (by rw [Ny120.1, List.length_take]; omega); rw [← Ny120.1] at hr45; rw [← hy45] at hcut45; have HR123 := ak hr45; have HC123 := ak (show y120.length ≤ c0_4 from by omega); clear hr45 hC45 hroom45 hi045 hsz45; have KY45 := ak hy45; clear hy45; replace q45 := eq_true q45) | (go_at_call 34; (with_reducible refine (api_Item_34_by_boxpack_Check_3.calls k2 _ _ y120 gb119 ((rd_T56 l0_4 x34_2).f0) ((rd_T56 l0_4 x34_2).f1.f0) ((rd_T56 l0_4 x34_2).f1.f1) ((rd_T56 l0_4 x34_2).f1.f2) ((rd_T56 l0_4 x34_2).f2) ((rd_T56 l0_4 x34_2).f3) ((rd_T56 l0_4 x34_2).f4) true _ ?side1 ?side2 ?side3 A38.1).mono ?_); (case side1 => exact (Kd.C_below HR123.1 HB.1)); (case side2 => exact HC123.1); (case side3 => exact (bk_ BK119)); rintro e w46 ⟨rfl, hb⟩; replace BK114 := bb_ BK114 hb; replace BK119 := bb_ BK119 hb; replace HB := hs_ HB hb; (try clear hb))))
        (go_ret); (exact ⟨by rfl, hb_ HB⟩)
       replace c39 := Bool.eq_false_iff.mpr c39
       subst c39; (replace H : (boxpack_Check.l0 k2 l0_4 (l0_4.length : Int) (wrap64 (x34_2 + 1)) a0_0 a0_1 a0_2 a0_3 l0_4) = some r := by rw [if_neg (show ¬ (false = true) by decide)] at H; exact H); have H' := ak H; clear H; have p118 : 0 ≤ (x34_2 : Int) := od_; have q118 : x34_2 < (l0_4.length : Int) := od_; obtain ⟨ad118, e118, hx118_0, hx118_1, hx118_2, hx118_3, hx118_4, hx118_5, hx118_6⟩ := at_T56 HR0_4.1 x34_2 p118 q118; (cases e118); replace hx118_0 := (hc_ HB hx118_0).trans hx118_0; replace hx118_1 := (hc_ HB hx118_1).trans hx118_1; replace hx118_2 := (hc_ HB hx118_2).trans hx118_2; replace hx118_3 := (hc_ HB hx118_3).trans hx118_3; replace hx118_4 := (hc_ HB hx118_4).trans hx118_4; replace hx118_5 := (hc_ HB hx118_5).trans hx118_5; replace hx118_6 := (hc_ HB hx118_6).trans hx118_6; replace p118 := eq_true p118; replace q118 := eq_true q118; (go_wp2_with (first | ((with_reducible refine gate_dst (N := 4) rfl ?_); refine bx_ 4 #[.string (⟨#[]⟩ : ByteArray), .int .i64 0, .int .i64 0, .int .i64 0, .int .i64 0, .int .i64 0, .int .i64 0] 56 ?_; intro gb119 hg w47 hbox hb; have BK119 := ak (hbox); have GW119 := gw_ HB hg; have GE119 := gw_ HB hg; replace HB := hs_ HB hb; have NB114_119 := nl_ BK114 hg; have NB119_114 := nr_ BK114 hg; replace BK114 := bb_ BK114 hb; clear hb hbox hg; have hnb48 := NB119_114.1; have hnc48 := NB114_119.1; have hcz49_0 : w47.cell? ⟨gb119, 0, none⟩ = some (.string (⟨#[]⟩ : ByteArray)) := bc_ BK119 0; have hcz49_1 : w47.cell? ⟨gb119, 1, none⟩ = some (.int .i64 0) := bc_ BK119 1; have hcz49_2 : w47.cell? ⟨gb119, 2, none⟩ = some (.int .i64 0) := bc_ BK119 2; have hcz49_3 : w47.cell? ⟨gb119, 3, none⟩ = some (.int .i64 0) := bc_ BK119 3; have hcz49_4 : w47.cell? ⟨gb119, 4, none⟩ = some (.int .i64 0) := bc_ BK119 4; have hcz49_5 : w47.cell? ⟨gb119, 5, none⟩ = some (.int .i64 0) := bc_ BK119 5; have hcz49_6 : w47.cell? ⟨gb119, 6, none⟩ = some (.int .i64 0) := bc_ BK119 6; have hfz49_0 := blk_frozen BK119.1 0; have hfz49_1 := blk_frozen BK119.1 1; have hfz49_2 := blk_frozen BK119.1 2; have hfz49_3 := blk_frozen BK119.1 3; have hfz49_4 := blk_frozen BK119.1 4; have hfz49_5 := blk_frozen BK119.1 5; have hfz49_6 := blk_frozen BK119.1 6) | ((with_reducible refine gate_store (t := 56) (p := 4) rfl ?_); refine store_event (t := 56) (p := 4) (v := ?vo_w50) (w1 := (((((((w47.setCell ⟨gb119, 0, none⟩ (.string ((rd_T56 l0_4 x34_2).f0))).setCell ⟨gb119, 1, none⟩ (.int .i64 ((rd_T56 l0_4 x34_2).f1.f0))).setCell ⟨gb119, 2, none⟩ (.int .i64 ((rd_T56 l0_4 x34_2).f1.f1))).setCell ⟨gb119, 3, none⟩ (.int .i64 ((rd_T56 l0_4 x34_2).f1.f2))).setCell ⟨gb119, 4, none⟩ (.int .i64 ((rd_T56 l0_4 x34_2).f2))).setCell ⟨gb119, 5, none⟩ (.int .i64 ((rd_T56 l0_4 x34_2).f3))).setCell ⟨gb119, 6, none⟩ (.int .i64 ((rd_T56 l0_4 x34_2).f4)))) ?hg ?ho ?hn ?hr ?_; (case ho => rfl); (case hg => rfl); (case hn => rfl); (case hr => (go_simp; done)); intro w50 hw; have n0_ : Aside0 (w50.heap[gb114]? = some (.cells #[.int .i64 a0_0, .int .i64 a0_1, .int .i64 a0_2, .int .i64 a0_3, .slice (some ad118) l0_4.length c0_4] 33 (0, 0))) := ⟨(by rw [hw]; exact (by refine blk_far ?_ NB114_119.1 _; refine blk_far ?_ NB114_119.1 _; refine blk_far ?_ NB114_119.1 _; refine blk_far ?_ NB114_119.1 _; refine blk_far ?_ NB114_119.1 _; refine blk_far ?_ NB114_119.1 _; refine blk_far ?_ NB114_119.1 _; exact BK114.1))⟩; have n1_ : Aside0 (w50.heap[gb119]? = some (.cells #[.string ((rd_T56 l0_4 x34_2).f0), .int .i64 ((rd_T56 l0_4 x34_2).f1.f0), .int .i64 ((rd_T56 l0_4 x34_2).f1.f1), .int .i64 ((rd_T56 l0_4 x34_2).f1.f2), .int .i64 ((rd_T56 l0_4 x34_2).f2), .int .i64 ((rd_T56 l0_4 x34_2).f3), .int .i64 ((rd_T56 l0_4 x34_2).f4)] 56 (0, 0))) := ⟨(by rw [hw]; exact (by refine blk_put (cs := #[.string ((rd_T56 l0_4 x34_2).f0), .int .i64 ((rd_T56 l0_4 x34_2).f1.f0), .int .i64 ((rd_T56 l0_4 x34_2).f1.f1), .int .i64 ((rd_T56 l0_4 x34_2).f1.f2), .int .i64 ((rd_T56 l0_4 x34_2).f2), .int .i64 ((rd_T56 l0_4 x34_2).f3), .int .i64 0]) ?_ 6 _ rfl; refine blk_put (cs := #[.string ((rd_T56 l0_4 x34_2).f0), .int .i64 ((rd_T56 l0_4 x34_2).f1.f0), .int .i64 ((rd_T56 l0_4 x34_2).f1.f1), .int .i64 ((rd_T56 l0_4 x34_2).f1.f2), .int .i64 ((rd_T56 l0_4 x34_2).f2), .int .i64 0, .int .i64 0]) ?_ 5 _ rfl; refine blk_put (cs := #[.string ((rd_T56 l0_4 x34_2).f0), .int .i64 ((rd_T56 l0_4 x34_2).f1.f0), .int .i64 ((rd_T56 l0_4 x34_2).f1.f1), .int .i64 ((rd_T56 l0_4 x34_2).f1.f2), .int .i64 0, .int .i64 0, .int .i64 0]) ?_ 4 _ rfl; refine blk_put (cs := #[.string ((rd_T56 l0_4 x34_2).f0), .int .i64 ((rd_T56 l0_4 x34_2).f1.f0), .int .i64 ((rd_T56 l0_4 x34_2).f1.f1), .int .i64 0, .int .i64 0, .int .i64 0, .int .i64 0]) ?_ 3 _ rfl; refine blk_put (cs := #[.string ((rd_T56 l0_4 x34_2).f0), .int .i64 ((rd_T56 l0_4 x34_2).f1.f0), .int .i64 0, .int .i64 0, .int .i64 0, .int .i64 0, .int .i64 0]) ?_ 2 _ rfl; refine blk_put (cs := #[.string ((rd_T56 l0_4 x34_2).f0), .int .i64 0, .int .i64 0, .int .i64 0, .int .i64 0, .int .i64 0, .int .i64 0]) ?_ 1 _ rfl; refine blk_put (cs := #[.string (⟨#[]⟩ : ByteArray), .int .i64 0, .int .i64 0, .int .i64 0, .int .i64 0, .int .i64 0, .int .i64 0]) ?_ 0 _ rfl; exact BK119.1))⟩; have n2_ : Aside0 (Below w.heap.size w w50) := ⟨(by rw [hw]; exact (hb_ HB))⟩; clear hw; clear BK114; clear BK119; clear HB; have BK114 := n0_; have BK119 := n1_; have HB := n2_; clear n0_ n1_ n2_; obtain ⟨hcz51_0, hcz51_1, hcz51_2, hcz51_3, hcz51_4, hfz51_0, hfz51_1, hfz51_2, hfz51_3, hfz51_4⟩ := cz5_ BK114; have q52 : (x34_2 : Int) ≤ ((l0_4.length : Int) : Int) := od_; obtain ⟨i052, hi052, _, hsz52, _⟩ := info_parts info56; have hroom52 : l0_4.length ≤ c0_4 := HC0_4.1; have hC52 : Kd.C k56 _ (some ad118) l0_4.length l0_4 := HR0_4.1; have hcut52 := cut_to (P := Try.prog) 24 56 .i64 Try.underlying24 hi052 (some ad118) l0_4.length c0_4 x34_2 (od_) q52 hroom52; have hr52 := Kd.C_take (m := (x34_2 : Int).toNat) hC52 (by omega); have hy52 : y120.length = (x34_2 : Int).toNat := (by rw [Ny120.1, List.length_take]; omega); rw [← Ny120.1] at hr52; rw [← hy52] at hcut52; have HR123 := ak hr52; have HC123 := ak (show y120.length ≤ c0_4 from by omega); clear hr52 hC52 hroom52 hi052 hsz52; have KY52 := ak hy52; clear hy52; replace q52 := eq_true q52) | (go_at_call 34; (with_reducible refine (api_Item_34_by_boxpack_Check_3.calls k2 _ _ y120 gb119 ((rd_T56 l0_4 x34_2).f0) ((rd_T56 l0_4 x34_2).f1.f0) ((rd_T56 l0_4 x34_2).f1.f1) ((rd_T56 l0_4 x34_2).f1.f2) ((rd_T56 l0_4 x34_2).f2) ((rd_T56 l0_4 x34_2).f3) ((rd_T56 l0_4 x34_2).f4) false _ ?side1 ?side2 ?side3 A38.1).mono ?_); (case side1 => exact (Kd.C_below HR123.1 HB.1)); (case side2 => exact HC123.1); (case side3 => exact (bk_ BK119)); rintro e w53 ⟨rfl, hb⟩; replace BK114 := bb_ BK114 hb; replace BK119 := bb_ BK119 hb; replace HB := hs_ HB hb; (try clear hb))))
       go_roundg k2
       case measure => have := HJ9.1; have := HK2.1; omega
       case rel => exact ⟨(wrap64 (x34_2 + 1)), (by rfl), H', ⟨by have := HJ9.1; have := HK2.1; omega⟩, ⟨bk_ BK114⟩, ⟨hb_ HB⟩⟩
      rw [if_neg c37] at H; (exact absurd H (by simp))
     rw [if_neg c35] at H; (exact absurd H (by simp))
    rw [if_neg c34] at H; (exact absurd H (by simp))
   rw [if_neg c33] at H; have c33b0 := decide_eq_false c33; clear c33; obtain rfl := Option.some.inj H; (go_wp2); (go_ret); (exact ⟨by rfl, hb_ HB⟩)

-- NOT PRINTED: function 63 (slices_IndexFunc_int_int)

-- NOT PRINTED: function 59 (slices_ContainsFunc_int_int)

def boxpack_plan_1.f (a0 : Int) : Option (Bool) := some (a0 != 1)
set_option maxHeartbeats 8000000 in
set_option maxRecDepth 100000 in
theorem boxpack_plan_1.calls (a0 : Int) (r : Bool) (w : World) (h : boxpack_plan_1.f a0 = some r) :
    Calls Try.prog 60 #[.int .i64 a0] w fun e w' => e = .returned (.bool r) ∧ Drawn0 w w' := by
  have H : (some (a0 != 1)) = some r := h
  clear h
  obtain rfl := Option.some.inj H
  go_enter Try.func60, Try.ntmps60
  go_wp2
  go_ret
  exact ⟨by rfl, by exact Drawn0.refl _⟩

end Go.Proofs.Ytgacodhpniehiaa.XA
