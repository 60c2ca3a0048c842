import Derived.Test.YtgacodhpniehiaaXAx0
namespace Go.Proofs.Ytgacodhpniehiaa.XA
open Go.RowKit Opens YtgacodhpniehiaaW.PrintWords YtgacodhpniehiaaW.PrintLast YtgacodhpniehiaaW.PrintMore
attribute [local go_sem] max2_int min2_int max_two min_two max_three min_three max_four min_four cell_some cell_same
set_option linter.unusedVariables false
set_option linter.unusedSimpArgs false

-- NOT PRINTED: function 30 (api_Item_30)

-- NOT PRINTED: function 34 (api_Item_34)

def boxpack_Check_1.f (a0_0 : ByteArray) (a0_1 : Int) (a0_2 : Int) (a0_3 : Int) (a0_4 : Int) (a0_5 : Int) (a0_6 : Int) : Option (Bool) := some (a0_0.toList == ([] : List UInt8))
set_option maxHeartbeats 8000000 in
set_option maxRecDepth 100000 in
theorem boxpack_Check_1.calls (a0_0 : ByteArray) (a0_1 : Int) (a0_2 : Int) (a0_3 : Int) (a0_4 : Int) (a0_5 : Int) (a0_6 : Int) (r : Bool) (w : World) (h : boxpack_Check_1.f a0_0 a0_1 a0_2 a0_3 a0_4 a0_5 a0_6 = some r) :
    Calls Try.prog 35 #[.agg #[.string a0_0, .int .i64 a0_1, .int .i64 a0_2, .int .i64 a0_3, .int .i64 a0_4, .int .i64 a0_5, .int .i64 a0_6]] w fun e w' => e = .returned (.bool r) ∧ Below w.heap.size w w' := by
  have hu56 := Try.underlying56
  have HB := ak (Below.refl w.heap.size w)
  have H : (some (a0_0.toList == ([] : List UInt8))) = some r := h
  clear h
  obtain rfl := Option.some.inj H
  go_enter Try.func35, Try.ntmps35
  go_wp2_with (first | ((with_reducible refine gate_dst (N := 1) rfl ?_); refine bx_ 1 #[.string a0_0, .int .i64 a0_1, .int .i64 a0_2, .int .i64 a0_3, .int .i64 a0_4, .int .i64 a0_5, .int .i64 a0_6] 56 ?_; intro gb101 hg w2 hbox hb; have n0_ := ak (below_step HB.1 hb); have n1_ := ak (hbox); have n2_ := ak ((by rw [hg]; exact (below_size HB.1) : w.heap.size ≤ gb101)); have n3_ := ak ((by rw [hg]; exact (below_size HB.1) : w.heap.size ≤ gb101)); clear HB; have HB := n0_; have BK101 := n1_; have GW101 := n2_; have GE101 := n3_; clear n0_ n1_ n2_ n3_; clear hb hbox hg; have hcz3_0 : w2.cell? ⟨gb101, 0, none⟩ = some (.string a0_0) := bc_ BK101 0; have hcz3_1 : w2.cell? ⟨gb101, 1, none⟩ = some (.int .i64 a0_1) := bc_ BK101 1; have hcz3_2 : w2.cell? ⟨gb101, 2, none⟩ = some (.int .i64 a0_2) := bc_ BK101 2; have hcz3_3 : w2.cell? ⟨gb101, 3, none⟩ = some (.int .i64 a0_3) := bc_ BK101 3; have hcz3_4 : w2.cell? ⟨gb101, 4, none⟩ = some (.int .i64 a0_4) := bc_ BK101 4; have hcz3_5 : w2.cell? ⟨gb101, 5, none⟩ = some (.int .i64 a0_5) := bc_ BK101 5; have hcz3_6 : w2.cell? ⟨gb101, 6, none⟩ = some (.int .i64 a0_6) := bc_ BK101 6; have hfz3_0 := blk_frozen BK101.1 0; have hfz3_1 := blk_frozen BK101.1 1; have hfz3_2 := blk_frozen BK101.1 2; have hfz3_3 := blk_frozen BK101.1 3; have hfz3_4 := blk_frozen BK101.1 4; have hfz3_5 := blk_frozen BK101.1 5; have hfz3_6 := blk_frozen BK101.1 6))
  go_ret
  exact ⟨by rfl, by repeat (with_reducible exact HB.1)⟩

def boxpack_sides.f (a0_0 : Int) (a0_1 : Int) (a0_2 : Int) : Option (Int × Int × Int) := some (a0_0, a0_1, a0_2)
set_option maxHeartbeats 8000000 in
set_option maxRecDepth 100000 in
theorem boxpack_sides.calls (a0_0 : Int) (a0_1 : Int) (a0_2 : Int) (r1 : Int) (r2 : Int) (r3 : Int) (w : World) (h : boxpack_sides.f a0_0 a0_1 a0_2 = some (r1, r2, r3)) :
    Calls Try.prog 29 #[.agg #[.int .i64 a0_0, .int .i64 a0_1, .int .i64 a0_2]] w fun e w' => e = .returned (.agg #[.int .i64 r1, .int .i64 r2, .int .i64 r3]) ∧ Below w.heap.size w w' := by
  have hu23 := Try.underlying23
  have hu64 := Try.underlying64
  have HB := ak (Below.refl w.heap.size w)
  have H : (some (a0_0, a0_1, a0_2)) = some (r1, r2, r3) := h
  clear h
  simp only [Option.some.injEq, Prod.mk.injEq] at H
  obtain ⟨rfl, rfl, rfl⟩ := H
  go_enter Try.func29, Try.ntmps29
  go_wp2_with (first | ((with_reducible refine gate_dst (N := 1) rfl ?_); refine bx_ 1 #[.int .i64 a0_0, .int .i64 a0_1, .int .i64 a0_2] 23 ?_; intro gb102 hg w2 hbox hb; have n0_ := ak (below_step HB.1 hb); have n1_ := ak (hbox); have n2_ := ak ((by rw [hg]; exact (below_size HB.1) : w.heap.size ≤ gb102)); have n3_ := ak ((by rw [hg]; exact (below_size HB.1) : w.heap.size ≤ gb102)); clear HB; have HB := n0_; have BK102 := n1_; have GW102 := n2_; have GE102 := n3_; clear n0_ n1_ n2_ n3_; clear hb hbox hg) | ((with_reducible refine gate_dst (N := 2) rfl ?_); refine bx_ 2 #[.int .i64 0, .int .i64 0, .int .i64 0] 64 ?_; intro gb103 hg w3 hbox hb; have n0_ := ak (blk_below (g := gb102) (o := .cells #[.int .i64 a0_0, .int .i64 a0_1, .int .i64 a0_2] 23 (0, 0)) (by exact BK102.1) hb); have n1_ := ak (below_step HB.1 hb); have n2_ := ak (hbox); have n3_ := ak ((by rw [hg]; exact (below_size HB.1) : w.heap.size ≤ gb103)); have n4_ := ak ((by rw [hg]; exact (below_size HB.1) : w.heap.size ≤ gb103)); have n5_ := ak ((by rw [hg]; exact Nat.ne_of_lt (blk_lt (g := gb102) (o := .cells #[.int .i64 a0_0, .int .i64 a0_1, .int .i64 a0_2] 23 (0, 0)) (by exact BK102.1)) : gb102 ≠ gb103)); have n6_ := ak ((by rw [hg]; exact Nat.ne_of_gt (blk_lt (g := gb102) (o := .cells #[.int .i64 a0_0, .int .i64 a0_1, .int .i64 a0_2] 23 (0, 0)) (by exact BK102.1)) : gb103 ≠ gb102)); clear BK102; clear HB; have BK102 := n0_; have HB := n1_; have BK103 := n2_; have GW103 := n3_; have GE103 := n4_; have NB102_103 := n5_; have NB103_102 := n6_; clear n0_ n1_ n2_ n3_ n4_ n5_ n6_; clear hb hbox hg; have hnb4 := NB102_103.1; have hnc4 := NB103_102.1; have hcz5_0 : w3.cell? ⟨gb102, 0, none⟩ = some (.int .i64 a0_0) := bc_ BK102 0; have hcz5_1 : w3.cell? ⟨gb102, 1, none⟩ = some (.int .i64 a0_1) := bc_ BK102 1; have hcz5_2 : w3.cell? ⟨gb102, 2, none⟩ = some (.int .i64 a0_2) := bc_ BK102 2; have hfz5_0 := blk_frozen BK102.1 0; have hfz5_1 := blk_frozen BK102.1 1; have hfz5_2 := blk_frozen BK102.1 2; have hcz6_0 : w3.cell? ⟨gb103, 0, none⟩ = some (.int .i64 0) := bc_ BK103 0; have hcz6_1 : w3.cell? ⟨gb103, 1, none⟩ = some (.int .i64 0) := bc_ BK103 1; have hcz6_2 : w3.cell? ⟨gb103, 2, none⟩ = some (.int .i64 0) := bc_ BK103 2; have hfz6_0 := blk_frozen BK103.1 0; have hfz6_1 := blk_frozen BK103.1 1; have hfz6_2 := blk_frozen BK103.1 2))
  refine bodyPost_ret (results_cell_row rfl _ _ gb103 64 #[.int .i64 a0_0, .int .i64 a0_1, .int .i64 a0_2] (0, 0) _ rfl (by refine blk_put (cs := #[.int .i64 a0_0, .int .i64 a0_1, .int .i64 0]) ?_ 2 _ rfl; refine blk_put (cs := #[.int .i64 a0_0, .int .i64 0, .int .i64 0]) ?_ 1 _ rfl; refine blk_put (cs := #[.int .i64 0, .int .i64 0, .int .i64 0]) ?_ 0 _ rfl; exact BK103.1) Try.underlying64 rfl (by kernel_rfl)) rfl ?_
  exact ⟨by rfl, by repeat (with_reducible first | exact HB.1 | refine below_set ?_ GE103.1)⟩

def boxpack_possible.l0 : Nat → Int → Int → Int → Int → Option (Bool)
  | 0, _, _, _, _ => none
  | k + 1, x7, x23, x24, x25 => if x7 < 3 then (if x7 = 0 then (if x23 < 1 then (some false) else (if x23 > 24 then (some false) else (boxpack_possible.l0 k (0 + 1) x23 x24 x25))) else (if x7 = 1 then (if x24 < 1 then (some false) else (if x24 > 24 then (some false) else (boxpack_possible.l0 k (1 + 1) x23 x24 x25))) else (if x7 = 2 then (if x25 < 1 then (some false) else (if x25 > 24 then (some false) else (boxpack_possible.l0 k (2 + 1) x23 x24 x25))) else (none)))) else (some true)
def boxpack_possible.f (k : Nat) (a0_0 : Int) (a0_1 : Int) (a0_2 : Int) : Option (Bool) := (boxpack_sides.f a0_0 a0_1 a0_2).bind fun bt105 => (boxpack_possible.l0 k 0 bt105.1 bt105.2.1 bt105.2.2)
theorem boxpack_possible.mono_l : ∀ k, (∀ y0 y1 y2 y3, LeO (boxpack_possible.l0 k y0 y1 y2 y3) (boxpack_possible.l0 (k + 1) y0 y1 y2 y3))
  | 0 => fun _ _ _ _ r h => by simp [boxpack_possible.l0] at h
  | k + 1 => by
    have ih0 := boxpack_possible.mono_l k
    intro y0 y1 y2 y3
    unfold boxpack_possible.l0
    repeat' first
    | (with_reducible exact ih0 _ _ _ _)
    | (with_reducible exact LeO.refl _)
    | (with_reducible refine LeO.ite ?_ ?_)
theorem boxpack_possible.mono : ∀ a0 a1 a2 k, LeO (boxpack_possible.f k a0 a1 a2) (boxpack_possible.f (k + 1) a0 a1 a2) := by
  intro a0 a1 a2 k
  have ih0 := boxpack_possible.mono_l k
  unfold boxpack_possible.f
  repeat' first
      | (with_reducible exact ih0 _ _ _ _)
      | (with_reducible exact LeO.refl _)
      | (with_reducible refine LeO.bind ?_ (fun _ => ?_))
theorem boxpack_possible.aix64 (a0_0 a1_0 a2_0 : Value) (w : World) : (Instr.index 64 (.agg #[a0_0, a1_0, a2_0]) (.int .i64 0)).run Try.prog w = .ok a0_0 w ∧ (Instr.index 64 (.agg #[a0_0, a1_0, a2_0]) (.int .i64 1)).run Try.prog w = .ok a1_0 w ∧ (Instr.index 64 (.agg #[a0_0, a1_0, a2_0]) (.int .i64 2)).run Try.prog w = .ok a2_0 w := by
  refine ⟨by kernel_rfl, by kernel_rfl, by kernel_rfl⟩

set_option maxHeartbeats 8000000 in
set_option maxRecDepth 100000 in
theorem boxpack_possible.calls (k : Nat) (a0_0 : Int) (a0_1 : Int) (a0_2 : Int) (r : Bool) (w : World) (h : boxpack_possible.f k a0_0 a0_1 a0_2 = some r) :
    Calls Try.prog 36 #[.agg #[.int .i64 a0_0, .int .i64 a0_1, .int .i64 a0_2]] w fun e w' => e = .returned (.bool r) ∧ Below w.heap.size w w' := by
  have hu23 := Try.underlying23
  have hix64 := boxpack_possible.aix64
  have HB := ak (Below.refl w.heap.size w)
  have H : ((boxpack_sides.f a0_0 a0_1 a0_2).bind fun bt105 => (boxpack_possible.l0 k 0 bt105.1 bt105.2.1 bt105.2.2)) = some r := h
  clear h
  replace H := Option.bind_eq_some_iff.mp H
  obtain ⟨⟨t105, t106, t107⟩, A20, H⟩ := H
  (try dsimp only at H)
  have A2 := ak A20
  clear A20
  have H' := ak H
  clear H
  go_enter Try.func36, Try.ntmps36
  go_wp2_with (first | ((with_reducible refine gate_dst (N := 1) rfl ?_); refine bx_ 1 #[.int .i64 a0_0, .int .i64 a0_1, .int .i64 a0_2] 23 ?_; intro gb104 hg w3 hbox hb; have n0_ := ak (below_step HB.1 hb); have n1_ := ak (hbox); have n2_ := ak ((by rw [hg]; exact (below_size HB.1) : w.heap.size ≤ gb104)); have n3_ := ak ((by rw [hg]; exact (below_size HB.1) : w.heap.size ≤ gb104)); clear HB; have HB := n0_; have BK104 := n1_; have GW104 := n2_; have GE104 := n3_; clear n0_ n1_ n2_ n3_; clear hb hbox hg; have hcz4_0 : w3.cell? ⟨gb104, 0, none⟩ = some (.int .i64 a0_0) := bc_ BK104 0; have hcz4_1 : w3.cell? ⟨gb104, 1, none⟩ = some (.int .i64 a0_1) := bc_ BK104 1; have hcz4_2 : w3.cell? ⟨gb104, 2, none⟩ = some (.int .i64 a0_2) := bc_ BK104 2; have hfz4_0 := blk_frozen BK104.1 0; have hfz4_1 := blk_frozen BK104.1 1; have hfz4_2 := blk_frozen BK104.1 2) | ((with_reducible refine gate_callee (f := 29) rfl ?_); refine gl_ 6 Try.func29 #[.agg #[.int .i64 a0_0, .int .i64 a0_1, .int .i64 a0_2]] ?_; (with_reducible refine (boxpack_sides.calls a0_0 a0_1 a0_2 t105 t106 t107 _ A2.1).mono ?_); rintro e w5 ⟨rfl, hb⟩; refine ⟨_, rfl, ?_⟩; have n0_ := ak (blk_below (g := gb104) (o := .cells #[.int .i64 a0_0, .int .i64 a0_1, .int .i64 a0_2] 23 (0, 0)) (by exact BK104.1) hb); have n1_ := ak (below_step HB.1 hb); clear BK104; clear HB; have BK104 := n0_; have HB := n1_; clear n0_ n1_; (try clear hb)))
  go_loopg [7] k (fun kq v7 w' => ∃ (x7_1 : Int), v7 = .int .i64 x7_1 ∧ Aside0 (boxpack_possible.l0 kq x7_1 t105 t106 t107 = some r) ∧ Aside0 (kq ≤ k) ∧ Aside0 (w'.heap[gb104]? = some (.cells #[.int .i64 a0_0, .int .i64 a0_1, .int .i64 a0_2] 23 (0, 0))) ∧ Aside0 (Below w.heap.size w w'))
  case atStart => exact ⟨(0), (by rfl), H', ⟨Nat.le_refl _⟩, ⟨by exact BK104.1⟩, ⟨by repeat (with_reducible exact HB.1)⟩⟩
  clear H'
  try clear hcz4_0
  try clear hcz4_1
  try clear hcz4_2
  try clear hfz4_0
  try clear hfz4_1
  try clear hfz4_2
  obtain ⟨x7_1, rfl, HA, HK1, BK104, HB⟩ := hrel
  cases gk with
  | zero => exact absurd HA.1 (by simp [boxpack_possible.l0])
  | succ k1 =>
    have H := HA.1
    clear HA
    simp only [boxpack_possible.l0] at H
    by_cases c6 : x7_1 < 3
    · rw [if_pos c6] at H
      have c6b0 : decide (x7_1 < 3) = true := decide_eq_true c6
      clear c6
      by_cases c7 : x7_1 = 0
      · subst c7
        have H1 : (if t105 < 1 then (some false) else (if t105 > 24 then (some false) else (boxpack_possible.l0 k1 (0 + 1) t105 t106 t107))) = some r := by rw [if_pos rfl] at H; exact H
        clear H
        have H := H1
        clear H1
        by_cases c8 : t105 < 1
        · rw [if_pos c8] at H
          have c8b0 : decide (t105 < 1) = true := decide_eq_true c8
          clear c8
          obtain rfl := Option.some.inj H
          go_wp2
          go_ret
          exact ⟨by rfl, by repeat (with_reducible exact HB.1)⟩
        rw [if_neg c8] at H
        have c8b0 : decide (t105 < 1) = false := decide_eq_false c8
        clear c8
        by_cases c9 : t105 > 24
        · rw [if_pos c9] at H
          have c9b0 : decide (24 < t105) = true := decide_eq_true c9
          clear c9
          obtain rfl := Option.some.inj H
          go_wp2
          go_ret
          exact ⟨by rfl, by repeat (with_reducible exact HB.1)⟩
        rw [if_neg c9] at H
        have c9b0 : decide (24 < t105) = false := decide_eq_false c9
        clear c9
        have H' := ak H
        clear H
        go_wp2
        go_roundg k1
        case measure => have := HK1.1; omega
        case rel => exact ⟨(0 + 1), (by rfl), H', ⟨by have := HK1.1; omega⟩, ⟨by exact BK104.1⟩, ⟨by repeat (with_reducible exact HB.1)⟩⟩
      rw [if_neg c7] at H
      by_cases c10 : x7_1 = 1
      · subst c10
        have H1 : (if t106 < 1 then (some false) else (if t106 > 24 then (some false) else (boxpack_possible.l0 k1 (1 + 1) t105 t106 t107))) = some r := by rw [if_pos rfl] at H; exact H
        clear H
        have H := H1
        clear H1
        by_cases c11 : t106 < 1
        · rw [if_pos c11] at H
          have c11b0 : decide (t106 < 1) = true := decide_eq_true c11
          clear c11
          obtain rfl := Option.some.inj H
          go_wp2
          go_ret
          exact ⟨by rfl, by repeat (with_reducible exact HB.1)⟩
        rw [if_neg c11] at H
        have c11b0 : decide (t106 < 1) = false := decide_eq_false c11
        clear c11
        by_cases c12 : t106 > 24
        · rw [if_pos c12] at H
          have c12b0 : decide (24 < t106) = true := decide_eq_true c12
          clear c12
          obtain rfl := Option.some.inj H
          go_wp2
          go_ret
          exact ⟨by rfl, by repeat (with_reducible exact HB.1)⟩
        rw [if_neg c12] at H
        have c12b0 : decide (24 < t106) = false := decide_eq_false c12
        clear c12
        have H' := ak H
        clear H
        go_wp2
        go_roundg k1
        case measure => have := HK1.1; omega
        case rel => exact ⟨(1 + 1), (by rfl), H', ⟨by have := HK1.1; omega⟩, ⟨by exact BK104.1⟩, ⟨by repeat (with_reducible exact HB.1)⟩⟩
      rw [if_neg c10] at H
      by_cases c13 : x7_1 = 2
      · subst c13
        have H1 : (if t107 < 1 then (some false) else (if t107 > 24 then (some false) else (boxpack_possible.l0 k1 (2 + 1) t105 t106 t107))) = some r := by rw [if_pos rfl] at H; exact H
        clear H
        have H := H1
        clear H1
        by_cases c14 : t107 < 1
        · rw [if_pos c14] at H
          have c14b0 : decide (t107 < 1) = true := decide_eq_true c14
          clear c14
          obtain rfl := Option.some.inj H
          go_wp2
          go_ret
          exact ⟨by rfl, by repeat (with_reducible exact HB.1)⟩
        rw [if_neg c14] at H
        have c14b0 : decide (t107 < 1) = false := decide_eq_false c14
        clear c14
        by_cases c15 : t107 > 24
        · rw [if_pos c15] at H
          have c15b0 : decide (24 < t107) = true := decide_eq_true c15
          clear c15
          obtain rfl := Option.some.inj H
          go_wp2
          go_ret
          exact ⟨by rfl, by repeat (with_reducible exact HB.1)⟩
        rw [if_neg c15] at H
        have c15b0 : decide (24 < t107) = false := decide_eq_false c15
        clear c15
        have H' := ak H
        clear H
        go_wp2
        go_roundg k1
        case measure => have := HK1.1; omega
        case rel => exact ⟨(2 + 1), (by rfl), H', ⟨by have := HK1.1; omega⟩, ⟨by exact BK104.1⟩, ⟨by repeat (with_reducible exact HB.1)⟩⟩
      rw [if_neg c13] at H
      exact absurd H (by simp)
    rw [if_neg c6] at H
    have c6b0 : decide (x7_1 < 3) = false := decide_eq_false c6
    clear c6
    obtain rfl := Option.some.inj H
    go_wp2
    go_ret
    exact ⟨by rfl, by repeat (with_reducible exact HB.1)⟩

def boxpack_Check_2.f (k : Nat) (a0_0 : ByteArray) (a0_1 : Int) (a0_2 : Int) (a0_3 : Int) (a0_4 : Int) (a0_5 : Int) (a0_6 : Int) : Option (Bool) := (boxpack_possible.f k a0_1 a0_2 a0_3).bind fun t109 => (if t109 = true then (if a0_4 < 0 then (some true) else (some (decide (a0_4 > 1000000000)))) else (some true))
theorem boxpack_Check_2.mono : ∀ a0 a1 a2 a3 a4 a5 a6 k, LeO (boxpack_Check_2.f k a0 a1 a2 a3 a4 a5 a6) (boxpack_Check_2.f (k + 1) a0 a1 a2 a3 a4 a5 a6) := by
  intro a0 a1 a2 a3 a4 a5 a6 k
  unfold boxpack_Check_2.f
  repeat' first
      | (with_reducible exact boxpack_possible.mono _ _ _ _)
      | (with_reducible exact LeO.refl _)
      | (with_reducible refine LeO.bind ?_ (fun _ => ?_))
set_option maxHeartbeats 8000000 in
set_option maxRecDepth 100000 in
theorem boxpack_Check_2.calls (k : Nat) (a0_0 : ByteArray) (a0_1 : Int) (a0_2 : Int) (a0_3 : Int) (a0_4 : Int) (a0_5 : Int) (a0_6 : Int) (r : Bool) (w : World) (h : boxpack_Check_2.f k a0_0 a0_1 a0_2 a0_3 a0_4 a0_5 a0_6 = some r) :
    Calls Try.prog 37 #[.agg #[.string a0_0, .int .i64 a0_1, .int .i64 a0_2, .int .i64 a0_3, .int .i64 a0_4, .int .i64 a0_5, .int .i64 a0_6]] w fun e w' => e = .returned (.bool r) ∧ Below w.heap.size w w' := by
  have hu56 := Try.underlying56
  have hu23 := Try.underlying23
  have HB := ak (Below.refl w.heap.size w)
  have H : ((boxpack_possible.f k a0_1 a0_2 a0_3).bind fun t109 => (if t109 = true then (if a0_4 < 0 then (some true) else (some (decide (a0_4 > 1000000000)))) else (some true))) = some r := h
  clear h
  replace H := Option.bind_eq_some_iff.mp H
  obtain ⟨t109, A20, H⟩ := H
  (try dsimp only at H)
  have A2 := ak A20
  clear A20
  by_cases c3 : t109 = true
  · subst c3
    have H1 : (if a0_4 < 0 then (some true) else (some (decide (a0_4 > 1000000000)))) = some r := by rw [if_pos rfl] at H; exact H
    clear H
    have H := H1
    clear H1
    by_cases c4 : a0_4 < 0
    · rw [if_pos c4] at H
      have c4b0 : decide (a0_4 < 0) = true := decide_eq_true c4
      clear c4
      obtain rfl := Option.some.inj H
      go_enter Try.func37, Try.ntmps37
      go_wp2_with (first | ((with_reducible refine gate_dst (N := 1) rfl ?_); refine bx_ 1 #[.string a0_0, .int .i64 a0_1, .int .i64 a0_2, .int .i64 a0_3, .int .i64 a0_4, .int .i64 a0_5, .int .i64 a0_6] 56 ?_; intro gb108 hg w5 hbox hb; have n0_ := ak (below_step HB.1 hb); have n1_ := ak (hbox); have n2_ := ak ((by rw [hg]; exact (below_size HB.1) : w.heap.size ≤ gb108)); have n3_ := ak ((by rw [hg]; exact (below_size HB.1) : w.heap.size ≤ gb108)); clear HB; have HB := n0_; have BK108 := n1_; have GW108 := n2_; have GE108 := n3_; clear n0_ n1_ n2_ n3_; clear hb hbox hg; have hcz6_0 : w5.cell? ⟨gb108, 0, none⟩ = some (.string a0_0) := bc_ BK108 0; have hcz6_1 : w5.cell? ⟨gb108, 1, none⟩ = some (.int .i64 a0_1) := bc_ BK108 1; have hcz6_2 : w5.cell? ⟨gb108, 2, none⟩ = some (.int .i64 a0_2) := bc_ BK108 2; have hcz6_3 : w5.cell? ⟨gb108, 3, none⟩ = some (.int .i64 a0_3) := bc_ BK108 3; have hcz6_4 : w5.cell? ⟨gb108, 4, none⟩ = some (.int .i64 a0_4) := bc_ BK108 4; have hcz6_5 : w5.cell? ⟨gb108, 5, none⟩ = some (.int .i64 a0_5) := bc_ BK108 5; have hcz6_6 : w5.cell? ⟨gb108, 6, none⟩ = some (.int .i64 a0_6) := bc_ BK108 6; have hfz6_0 := blk_frozen BK108.1 0; have hfz6_1 := blk_frozen BK108.1 1; have hfz6_2 := blk_frozen BK108.1 2; have hfz6_3 := blk_frozen BK108.1 3; have hfz6_4 := blk_frozen BK108.1 4; have hfz6_5 := blk_frozen BK108.1 5; have hfz6_6 := blk_frozen BK108.1 6) | ((with_reducible refine gate_callee (f := 36) rfl ?_); refine gl_ 5 Try.func36 #[.agg #[.int .i64 a0_1, .int .i64 a0_2, .int .i64 a0_3]] ?_; (with_reducible refine (boxpack_possible.calls k a0_1 a0_2 a0_3 true _ A2.1).mono ?_); rintro e w7 ⟨rfl, hb⟩; refine ⟨_, rfl, ?_⟩; have n0_ := ak (blk_below (g := gb108) (o := .cells #[.string a0_0, .int .i64 a0_1, .int .i64 a0_2, .int .i64 a0_3, .int .i64 a0_4, .int .i64 a0_5, .int .i64 a0_6] 56 (0, 0)) (by exact BK108.1) hb); have n1_ := ak (below_step HB.1 hb); clear BK108; clear HB; have BK108 := n0_; have HB := n1_; clear n0_ n1_; (try clear hb); have hcz8_0 : w7.cell? ⟨gb108, 0, none⟩ = some (.string a0_0) := bc_ BK108 0; have hcz8_1 : w7.cell? ⟨gb108, 1, none⟩ = some (.int .i64 a0_1) := bc_ BK108 1; have hcz8_2 : w7.cell? ⟨gb108, 2, none⟩ = some (.int .i64 a0_2) := bc_ BK108 2; have hcz8_3 : w7.cell? ⟨gb108, 3, none⟩ = some (.int .i64 a0_3) := bc_ BK108 3; have hcz8_4 : w7.cell? ⟨gb108, 4, none⟩ = some (.int .i64 a0_4) := bc_ BK108 4; have hcz8_5 : w7.cell? ⟨gb108, 5, none⟩ = some (.int .i64 a0_5) := bc_ BK108 5; have hcz8_6 : w7.cell? ⟨gb108, 6, none⟩ = some (.int .i64 a0_6) := bc_ BK108 6; have hfz8_0 := blk_frozen BK108.1 0; have hfz8_1 := blk_frozen BK108.1 1; have hfz8_2 := blk_frozen BK108.1 2; have hfz8_3 := blk_frozen BK108.1 3; have hfz8_4 := blk_frozen BK108.1 4; have hfz8_5 := blk_frozen BK108.1 5; have hfz8_6 := blk_frozen BK108.1 6))
      go_ret
      exact ⟨by rfl, by repeat (with_reducible exact HB.1)⟩
    rw [if_neg c4] at H
    have c4b0 : decide (a0_4 < 0) = false := decide_eq_false c4
    clear c4
    obtain rfl := Option.some.inj H
    go_enter Try.func37, Try.ntmps37
    go_wp2_with (first | ((with_reducible refine gate_dst (N := 1) rfl ?_); refine bx_ 1 #[.string a0_0, .int .i64 a0_1, .int .i64 a0_2, .int .i64 a0_3, .int .i64 a0_4, .int .i64 a0_5, .int .i64 a0_6] 56 ?_; intro gb108 hg w9 hbox hb; have n0_ := ak (below_step HB.1 hb); have n1_ := ak (hbox); have n2_ := ak ((by rw [hg]; exact (below_size HB.1) : w.heap.size ≤ gb108)); have n3_ := ak ((by rw [hg]; exact (below_size HB.1) : w.heap.size ≤ gb108)); clear HB; have HB := n0_; have BK108 := n1_; have GW108 := n2_; have GE108 := n3_; clear n0_ n1_ n2_ n3_; clear hb hbox hg; have hcz10_0 : w9.cell? ⟨gb108, 0, none⟩ = some (.string a0_0) := bc_ BK108 0; have hcz10_1 : w9.cell? ⟨gb108, 1, none⟩ = some (.int .i64 a0_1) := bc_ BK108 1; have hcz10_2 : w9.cell? ⟨gb108, 2, none⟩ = some (.int .i64 a0_2) := bc_ BK108 2; have hcz10_3 : w9.cell? ⟨gb108, 3, none⟩ = some (.int .i64 a0_3) := bc_ BK108 3; have hcz10_4 : w9.cell? ⟨gb108, 4, none⟩ = some (.int .i64 a0_4) := bc_ BK108 4; have hcz10_5 : w9.cell? ⟨gb108, 5, none⟩ = some (.int .i64 a0_5) := bc_ BK108 5; have hcz10_6 : w9.cell? ⟨gb108, 6, none⟩ = some (.int .i64 a0_6) := bc_ BK108 6; have hfz10_0 := blk_frozen BK108.1 0; have hfz10_1 := blk_frozen BK108.1 1; have hfz10_2 := blk_frozen BK108.1 2; have hfz10_3 := blk_frozen BK108.1 3; have hfz10_4 := blk_frozen BK108.1 4; have hfz10_5 := blk_frozen BK108.1 5; have hfz10_6 := blk_frozen BK108.1 6) | ((with_reducible refine gate_callee (f := 36) rfl ?_); refine gl_ 5 Try.func36 #[.agg #[.int .i64 a0_1, .int .i64 a0_2, .int .i64 a0_3]] ?_; (with_reducible refine (boxpack_possible.calls k a0_1 a0_2 a0_3 true _ A2.1).mono ?_); rintro e w11 ⟨rfl, hb⟩; refine ⟨_, rfl, ?_⟩; have n0_ := ak (blk_below (g := gb108) (o := .cells #[.string a0_0, .int .i64 a0_1, .int .i64 a0_2, .int .i64 a0_3, .int .i64 a0_4, .int .i64 a0_5, .int .i64 a0_6] 56 (0, 0)) (by exact BK108.1) hb); have n1_ := ak (below_step HB.1 hb); clear BK108; clear HB; have BK108 := n0_; have HB := n1_; clear n0_ n1_; (try clear hb); have hcz12_0 : w11.cell? ⟨gb108, 0, none⟩ = some (.string a0_0) := bc_ BK108 0; have hcz12_1 : w11.cell? ⟨gb108, 1, none⟩ = some (.int .i64 a0_1) := bc_ BK108 1; have hcz12_2 : w11.cell? ⟨gb108, 2, none⟩ = some (.int .i64 a0_2) := bc_ BK108 2; have hcz12_3 : w11.cell? ⟨gb108, 3, none⟩ = some (.int .i64 a0_3) := bc_ BK108 3; have hcz12_4 : w11.cell? ⟨gb108, 4, none⟩ = some (.int .i64 a0_4) := bc_ BK108 4; have hcz12_5 : w11.cell? ⟨gb108, 5, none⟩ = some (.int .i64 a0_5) := bc_ BK108 5; have hcz12_6 : w11.cell? ⟨gb108, 6, none⟩ = some (.int .i64 a0_6) := bc_ BK108 6; have hfz12_0 := blk_frozen BK108.1 0; have hfz12_1 := blk_frozen BK108.1 1; have hfz12_2 := blk_frozen BK108.1 2; have hfz12_3 := blk_frozen BK108.1 3; have hfz12_4 := blk_frozen BK108.1 4; have hfz12_5 := blk_frozen BK108.1 5; have hfz12_6 := blk_frozen BK108.1 6))
    go_ret
    exact ⟨by rfl, by repeat (with_reducible exact HB.1)⟩
  replace c3 := Bool.eq_false_iff.mpr c3
  subst c3
  have H1 : (some true) = some r := by rw [if_neg (show ¬ (false = true) by decide)] at H; exact H
  clear H
  have H := H1
  clear H1
  obtain rfl := Option.some.inj H
  go_enter Try.func37, Try.ntmps37
  go_wp2_with (first | ((with_reducible refine gate_dst (N := 1) rfl ?_); refine bx_ 1 #[.string a0_0, .int .i64 a0_1, .int .i64 a0_2, .int .i64 a0_3, .int .i64 a0_4, .int .i64 a0_5, .int .i64 a0_6] 56 ?_; intro gb108 hg w13 hbox hb; have n0_ := ak (below_step HB.1 hb); have n1_ := ak (hbox); have n2_ := ak ((by rw [hg]; exact (below_size HB.1) : w.heap.size ≤ gb108)); have n3_ := ak ((by rw [hg]; exact (below_size HB.1) : w.heap.size ≤ gb108)); clear HB; have HB := n0_; have BK108 := n1_; have GW108 := n2_; have GE108 := n3_; clear n0_ n1_ n2_ n3_; clear hb hbox hg; have hcz14_0 : w13.cell? ⟨gb108, 0, none⟩ = some (.string a0_0) := bc_ BK108 0; have hcz14_1 : w13.cell? ⟨gb108, 1, none⟩ = some (.int .i64 a0_1) := bc_ BK108 1; have hcz14_2 : w13.cell? ⟨gb108, 2, none⟩ = some (.int .i64 a0_2) := bc_ BK108 2; have hcz14_3 : w13.cell? ⟨gb108, 3, none⟩ = some (.int .i64 a0_3) := bc_ BK108 3; have hcz14_4 : w13.cell? ⟨gb108, 4, none⟩ = some (.int .i64 a0_4) := bc_ BK108 4; have hcz14_5 : w13.cell? ⟨gb108, 5, none⟩ = some (.int .i64 a0_5) := bc_ BK108 5; have hcz14_6 : w13.cell? ⟨gb108, 6, none⟩ = some (.int .i64 a0_6) := bc_ BK108 6; have hfz14_0 := blk_frozen BK108.1 0; have hfz14_1 := blk_frozen BK108.1 1; have hfz14_2 := blk_frozen BK108.1 2; have hfz14_3 := blk_frozen BK108.1 3; have hfz14_4 := blk_frozen BK108.1 4; have hfz14_5 := blk_frozen BK108.1 5; have hfz14_6 := blk_frozen BK108.1 6) | ((with_reducible refine gate_callee (f := 36) rfl ?_); refine gl_ 5 Try.func36 #[.agg #[.int .i64 a0_1, .int .i64 a0_2, .int .i64 a0_3]] ?_; (with_reducible refine (boxpack_possible.calls k a0_1 a0_2 a0_3 false _ A2.1).mono ?_); rintro e w15 ⟨rfl, hb⟩; refine ⟨_, rfl, ?_⟩; have n0_ := ak (blk_below (g := gb108) (o := .cells #[.string a0_0, .int .i64 a0_1, .int .i64 a0_2, .int .i64 a0_3, .int .i64 a0_4, .int .i64 a0_5, .int .i64 a0_6] 56 (0, 0)) (by exact BK108.1) hb); have n1_ := ak (below_step HB.1 hb); clear BK108; clear HB; have BK108 := n0_; have HB := n1_; clear n0_ n1_; (try clear hb)))
  go_ret
  exact ⟨by rfl, by repeat (with_reducible exact HB.1)⟩

def boxpack_Check_3.f (a0_0 : ByteArray) (a0_1 : Int) (a0_2 : Int) (a0_3 : Int) (a0_4 : Int) (a0_5 : Int) (a0_6 : Int) (s8_0 : ByteArray) (s8_1 : Int) (s8_2 : Int) (s8_3 : Int) (s8_4 : Int) (s8_5 : Int) (s8_6 : Int) : Option (Bool) := some (a0_0.toList == s8_0.toList)
set_option maxHeartbeats 8000000 in
set_option maxRecDepth 100000 in
theorem boxpack_Check_3.calls (a0_0 : ByteArray) (a0_1 : Int) (a0_2 : Int) (a0_3 : Int) (a0_4 : Int) (a0_5 : Int) (a0_6 : Int) (g8 : Nat) (s8_0 : ByteArray) (s8_1 : Int) (s8_2 : Int) (s8_3 : Int) (s8_4 : Int) (s8_5 : Int) (s8_6 : Int) (r : Bool) (w : World) (hb8 : w.heap[g8]? = some (.cells #[.string s8_0, .int .i64 s8_1, .int .i64 s8_2, .int .i64 s8_3, .int .i64 s8_4, .int .i64 s8_5, .int .i64 s8_6] 56 (0, 0))) (h : boxpack_Check_3.f a0_0 a0_1 a0_2 a0_3 a0_4 a0_5 a0_6 s8_0 s8_1 s8_2 s8_3 s8_4 s8_5 s8_6 = some r) :
    Calls Try.prog 38 #[.agg #[.string a0_0, .int .i64 a0_1, .int .i64 a0_2, .int .i64 a0_3, .int .i64 a0_4, .int .i64 a0_5, .int .i64 a0_6], .pointer (some ⟨g8, 0, none⟩)] w fun e w' => e = .returned (.bool r) ∧ Below w.heap.size w w' := by
  have hu56 := Try.underlying56
  have BK8 := ak hb8
  clear hb8
  have HB := ak (Below.refl w.heap.size w)
  have H : (some (a0_0.toList == s8_0.toList)) = some r := h
  clear h
  obtain rfl := Option.some.inj H
  go_enter Try.func38, Try.ntmps38
  go_wp2_with (first | ((with_reducible refine gate_dst (N := 2) rfl ?_); refine bx_ 2 #[.string a0_0, .int .i64 a0_1, .int .i64 a0_2, .int .i64 a0_3, .int .i64 a0_4, .int .i64 a0_5, .int .i64 a0_6] 56 ?_; intro gb110 hg w3 hbox hb; have n0_ := ak (blk_below (g := g8) (o := .cells #[.string s8_0, .int .i64 s8_1, .int .i64 s8_2, .int .i64 s8_3, .int .i64 s8_4, .int .i64 s8_5, .int .i64 s8_6] 56 (0, 0)) (by exact BK8.1) hb); have n1_ := ak (below_step HB.1 hb); have n2_ := ak (hbox); have n3_ := ak ((by rw [hg]; exact (below_size HB.1) : w.heap.size ≤ gb110)); have n4_ := ak ((by rw [hg]; exact (below_size HB.1) : w.heap.size ≤ gb110)); have n5_ := ak ((by rw [hg]; exact Nat.ne_of_lt (blk_lt (g := g8) (o := .cells #[.string s8_0, .int .i64 s8_1, .int .i64 s8_2, .int .i64 s8_3, .int .i64 s8_4, .int .i64 s8_5, .int .i64 s8_6] 56 (0, 0)) (by exact BK8.1)) : g8 ≠ gb110)); have n6_ := ak ((by rw [hg]; exact Nat.ne_of_gt (blk_lt (g := g8) (o := .cells #[.string s8_0, .int .i64 s8_1, .int .i64 s8_2, .int .i64 s8_3, .int .i64 s8_4, .int .i64 s8_5, .int .i64 s8_6] 56 (0, 0)) (by exact BK8.1)) : gb110 ≠ g8)); clear BK8; clear HB; have BK8 := n0_; have HB := n1_; have BK110 := n2_; have GW110 := n3_; have GE110 := n4_; have NB8_110 := n5_; have NB110_8 := n6_; clear n0_ n1_ n2_ n3_ n4_ n5_ n6_; clear hb hbox hg; have hnb4 := NB110_8.1; have hnc4 := NB8_110.1; have hcz5_0 : w3.cell? ⟨gb110, 0, none⟩ = some (.string a0_0) := bc_ BK110 0; have hcz5_1 : w3.cell? ⟨gb110, 1, none⟩ = some (.int .i64 a0_1) := bc_ BK110 1; have hcz5_2 : w3.cell? ⟨gb110, 2, none⟩ = some (.int .i64 a0_2) := bc_ BK110 2; have hcz5_3 : w3.cell? ⟨gb110, 3, none⟩ = some (.int .i64 a0_3) := bc_ BK110 3; have hcz5_4 : w3.cell? ⟨gb110, 4, none⟩ = some (.int .i64 a0_4) := bc_ BK110 4; have hcz5_5 : w3.cell? ⟨gb110, 5, none⟩ = some (.int .i64 a0_5) := bc_ BK110 5; have hcz5_6 : w3.cell? ⟨gb110, 6, none⟩ = some (.int .i64 a0_6) := bc_ BK110 6; have hfz5_0 := blk_frozen BK110.1 0; have hfz5_1 := blk_frozen BK110.1 1; have hfz5_2 := blk_frozen BK110.1 2; have hfz5_3 := blk_frozen BK110.1 3; have hfz5_4 := blk_frozen BK110.1 4; have hfz5_5 := blk_frozen BK110.1 5; have hfz5_6 := blk_frozen BK110.1 6; have hcz6_0 : w3.cell? ⟨g8, 0, none⟩ = some (.string s8_0) := bc_ BK8 0; have hcz6_1 : w3.cell? ⟨g8, 1, none⟩ = some (.int .i64 s8_1) := bc_ BK8 1; have hcz6_2 : w3.cell? ⟨g8, 2, none⟩ = some (.int .i64 s8_2) := bc_ BK8 2; have hcz6_3 : w3.cell? ⟨g8, 3, none⟩ = some (.int .i64 s8_3) := bc_ BK8 3; have hcz6_4 : w3.cell? ⟨g8, 4, none⟩ = some (.int .i64 s8_4) := bc_ BK8 4; have hcz6_5 : w3.cell? ⟨g8, 5, none⟩ = some (.int .i64 s8_5) := bc_ BK8 5; have hcz6_6 : w3.cell? ⟨g8, 6, none⟩ = some (.int .i64 s8_6) := bc_ BK8 6; have hfz6_0 := blk_frozen BK8.1 0; have hfz6_1 := blk_frozen BK8.1 1; have hfz6_2 := blk_frozen BK8.1 2; have hfz6_3 := blk_frozen BK8.1 3; have hfz6_4 := blk_frozen BK8.1 4; have hfz6_5 := blk_frozen BK8.1 5; have hfz6_6 := blk_frozen BK8.1 6))
  go_ret
  exact ⟨by rfl, by repeat (with_reducible exact HB.1)⟩

end Go.Proofs.Ytgacodhpniehiaa.XA
