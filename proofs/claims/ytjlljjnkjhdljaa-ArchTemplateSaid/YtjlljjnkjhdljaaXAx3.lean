-- written by xprint.py, this project's own program (wip/), over the words of print.sh
import Derived.Test.YtjlljjnkjhdljaaXAx0
import Derived.Test.YtjlljjnkjhdljaaFlat
namespace Go.Proofs.Ytjlljjnkjhdljaa.XA
open Go.Proofs.Ytjlljjnkjhdljaa.Flat Go.RowKit Go.Proofs.Ytjlljjnkjhdljaa.Opens Go.Proofs.YtjlljjnkjhdljaaW.PrintWords Go.Proofs.YtjlljjnkjhdljaaW.PrintLast Go.Proofs.YtjlljjnkjhdljaaW.PrintMore
attribute [local go_sem] max2_int min2_int max_two min_two max_three min_three max_four min_four cell_some cell_same   -- for this text's walks alone
set_option linter.unusedVariables false
set_option linter.unusedSimpArgs false

/-! ### gangsawref40_Few: function 10 -/
def gangsawref40_Few.l0 : Nat → List (List (S46)) → Int → Option (Bool)
  | 0, _, _ => none
  | k + 1, x0, x3 => if x3 < (x0.length : Int) then (if 0 ≤ x3 then (if ((rd_L2 x0 x3).length : Int) > 8 then (some false) else (gangsawref40_Few.l0 k x0 (wrap64 (x3 + 1)))) else (none)) else (some true)
def gangsawref40_Few.f (k : Nat) (l0 : List (List (S46))) : Option (Bool) := if (l0.length : Int) > 70 then (some false) else (gangsawref40_Few.l0 k l0 0)
theorem gangsawref40_Few.mono_l : ∀ k, (∀ y0 y1, LeO (gangsawref40_Few.l0 k y0 y1) (gangsawref40_Few.l0 (k + 1) y0 y1))
  | 0 => fun _ _ r h => by simp [gangsawref40_Few.l0] at h
  | k + 1 => by
    have ih0 := gangsawref40_Few.mono_l k
    · intro y0 y1
      unfold gangsawref40_Few.l0
      repeat' first
      | (with_reducible exact ih0 _ _)
      | (with_reducible exact LeO.refl _)
      | (with_reducible exact LeO.none _)
      | (with_reducible refine LeO.ite ?_ ?_)
      | (with_reducible refine LeO.bind ?_ (fun _ => ?_))
      | exact ih0 _ _
      | exact LeO.none _
      | refine LeO.ite ?_ ?_
      | refine LeO.bind ?_ (fun _ => ?_)
theorem gangsawref40_Few.mono : ∀ a0 k, LeO (gangsawref40_Few.f k a0) (gangsawref40_Few.f (k + 1) a0) := by
  intro a0 k
  have ih0 := gangsawref40_Few.mono_l k
  unfold gangsawref40_Few.f
  repeat' first
      | (with_reducible exact ih0 _ _)
      | (with_reducible exact LeO.refl _)
      | (with_reducible exact LeO.none _)
      | (with_reducible refine LeO.ite ?_ ?_)
      | (with_reducible refine LeO.bind ?_ (fun _ => ?_))
      | exact ih0 _ _
      | exact LeO.none _
      | refine LeO.ite ?_ ?_
      | refine LeO.bind ?_ (fun _ => ?_)
set_option maxHeartbeats 8000000 in
set_option maxRecDepth 100000 in
theorem gangsawref40_Few.calls (k : Nat) (A0 : Option Addr) (c0 : Nat) (l0 : List (List (S46))) (r : Bool) (w : World) (hr0 : Kd.C (Kd.slice 46 k46) w A0 l0.length l0) (hc0 : l0.length ≤ c0) (h : gangsawref40_Few.f k l0 = some r) :
    Calls Try.prog 10 #[.slice A0 l0.length c0] w fun e w' => e = .returned (.bool r) ∧ Drawn0 w w' := by
  have HR0 := Aside0.mk hr0
  have HC0 := Aside0.mk hc0
  clear hr0 hc0
  have H : (if (l0.length : Int) > 70 then (some false) else (gangsawref40_Few.l0 k l0 0)) = some r := h
  clear h
  by_cases c2 : (l0.length : Int) > 70
  · rw [if_pos c2] at H
    have c2b0 : decide (70 < (l0.length : Int)) = true := decide_eq_true c2
    have c2b1 : decide (70 < l0.length) = true := decide_eq_true (by omega)
    clear c2
    obtain rfl := Option.some.inj H
    go_enter Try.func10, Try.ntmps10
    go_wp2
    go_ret
    exact ⟨by first | rfl | (simp; done) | (simp [*]; done), by repeat (first | exact Drawn0.refl _ | apply Drawn0.step)⟩
  · rw [if_neg c2] at H
    have c2b0 : decide (70 < (l0.length : Int)) = false := decide_eq_false c2
    have c2b1 : decide (70 < l0.length) = false := decide_eq_false (by omega)
    clear c2
    have H' := Aside0.mk H
    clear H
    go_enter Try.func10, Try.ntmps10
    go_wp2
    go_loopg [3] k (fun kq v3 w' => ∃ (x3_1 : Int), v3 = .int .i64 x3_1 ∧ Aside0 (gangsawref40_Few.l0 kq l0 x3_1 = some r) ∧ Aside0 (kq ≤ k) ∧ Drawn0 w w')
    case atStart => exact ⟨(0), (by first | rfl | (simp; done) | (simp [*]; done)), H', ⟨Nat.le_refl _⟩, by repeat (first | exact Drawn0.refl _ | apply Drawn0.step)⟩
    case round =>
      clear H'
      try clear c1
      try clear c2
      try clear c2b0
      try clear c2b1
      try clear p2
      obtain ⟨x3_1, rfl, HA, HK1, ⟨m1, rfl⟩⟩ := hrel
      cases gk with
      | zero => exact absurd HA.out (by simp [gangsawref40_Few.l0])
      | succ k1 =>
        have H := HA.out
        clear HA
        simp only [gangsawref40_Few.l0] at H
        by_cases c3 : x3_1 < (l0.length : Int)
        · rw [if_pos c3] at H
          have c3b0 : decide (x3_1 < (l0.length : Int)) = true := decide_eq_true c3
          clear c3
          by_cases c4 : 0 ≤ x3_1
          · rw [if_pos c4] at H
            have c4b0 : decide (0 ≤ x3_1) = true := decide_eq_true c4
            clear c4
            by_cases c5 : ((rd_L2 l0 x3_1).length : Int) > 8
            · rw [if_pos c5] at H
              have c5b0 : decide (8 < ((rd_L2 l0 x3_1).length : Int)) = true := decide_eq_true c5
              have c5b1 : decide (8 < (rd_L2 l0 x3_1).length) = true := decide_eq_true (by omega)
              clear c5
              obtain rfl := Option.some.inj H
              have p101 : 0 ≤ (x3_1 : Int) := of_decide_eq_true (by first | (with_reducible assumption) | assumption)
              have q101 : x3_1 < (l0.length : Int) := of_decide_eq_true (by first | (with_reducible assumption) | assumption)
              obtain ⟨ad101, A101_0, c101_0, e101, hx101_0, hl101_0, hi101_0⟩ := at_L2 HR0.out x3_1 p101 q101
              cases e101
              have HR101_0 := Aside0.mk hi101_0
              have HC101_0 := Aside0.mk hl101_0
              clear hi101_0 hl101_0
              replace p101 := eq_true p101
              replace q101 := eq_true q101
              go_wp2
              go_ret
              exact ⟨by first | rfl | (simp; done) | (simp [*]; done), by repeat (first | exact Drawn0.refl _ | apply Drawn0.step)⟩
            · rw [if_neg c5] at H
              have c5b0 : decide (8 < ((rd_L2 l0 x3_1).length : Int)) = false := decide_eq_false c5
              have c5b1 : decide (8 < (rd_L2 l0 x3_1).length) = false := decide_eq_false (by omega)
              clear c5
              have H' := Aside0.mk H
              clear H
              have p101 : 0 ≤ (x3_1 : Int) := of_decide_eq_true (by first | (with_reducible assumption) | assumption)
              have q101 : x3_1 < (l0.length : Int) := of_decide_eq_true (by first | (with_reducible assumption) | assumption)
              obtain ⟨ad101, A101_0, c101_0, e101, hx101_0, hl101_0, hi101_0⟩ := at_L2 HR0.out x3_1 p101 q101
              cases e101
              have HR101_0 := Aside0.mk hi101_0
              have HC101_0 := Aside0.mk hl101_0
              clear hi101_0 hl101_0
              replace p101 := eq_true p101
              replace q101 := eq_true q101
              go_wp2
              go_roundg k1
              case measure => have := HK1.out; omega
              case rel => exact ⟨(wrap64 (x3_1 + 1)), (by first | rfl | (simp; done) | (simp [*]; done)), H', ⟨by have := HK1.out; omega⟩, by repeat (first | exact Drawn0.refl _ | apply Drawn0.step)⟩
          · rw [if_neg c4] at H
            exact absurd H (by simp)
        · rw [if_neg c3] at H
          have c3b0 : decide (x3_1 < (l0.length : Int)) = false := decide_eq_false c3
          clear c3
          obtain rfl := Option.some.inj H
          go_wp2
          go_ret
          exact ⟨by first | rfl | (simp; done) | (simp [*]; done), by repeat (first | exact Drawn0.refl _ | apply Drawn0.step)⟩

-- NOT PRINTED: function 50 (api_Polygon_50)

-- NOT PRINTED: function 53 (api_Polygon_53)

/-! ### arch_springings: function 58 -/
def arch_springings.f (l0 : List (List (S46))) : Option (Int × Int × Int × Int) := if 0 < (l0.length : Int) then (if 0 < ((rd_L2 l0 0).length : Int) then (if 0 ≤ (wrap64 ((l0.length : Int) - 1)) then (if (wrap64 ((l0.length : Int) - 1)) < (l0.length : Int) then (if 1 < ((rd_L2 l0 (wrap64 ((l0.length : Int) - 1))).length : Int) then (some ((rd_T46 (rd_L2 l0 0) 0).f0, (rd_T46 (rd_L2 l0 0) 0).f1, (rd_T46 (rd_L2 l0 (wrap64 ((l0.length : Int) - 1))) 1).f0, (rd_T46 (rd_L2 l0 (wrap64 ((l0.length : Int) - 1))) 1).f1)) else (none)) else (none)) else (none)) else (none)) else (none)
def arch_springings.T1 : Bool × List (List Nat × List Nat) := (true, [([], []), ([0], [0]), ([1], [1]), ([2], [2]), ([3], [3]), ([], []), ([], []), ([6], [6]), ([7], [7]), ([5, 8], [5, 8]), ([9], [9]), ([10], [10]), ([11], [11]), ([4, 0, 1, 2, 3, 4], [4]), ([12, 13, 0, 1, 2, 3, 4, 5, 6, 7, 8, 9, 10, 11, 12, 13], [12])])
def arch_springings.B1 : List Nat := [0, 1, 3, 7, 15, 0, 0, 64, 192, 480, 992, 2016, 4064, 31, 16383]
theorem arch_springings.tab1 : rtab .any (opsOf Try.f58 1) = arch_springings.T1 := by kernel_rfl
theorem arch_springings.bits1 : waitsOk arch_springings.T1.2 arch_springings.B1 = true := by kernel_rfl
set_option maxHeartbeats 8000000 in
set_option maxRecDepth 100000 in
theorem arch_springings.calls (A0 : Option Addr) (c0 : Nat) (l0 : List (List (S46))) (r1 : Int) (r2 : Int) (r3 : Int) (r4 : Int) (w : World) (hr0 : Kd.C (Kd.slice 46 k46) w A0 l0.length l0) (hc0 : l0.length ≤ c0) (h : arch_springings.f l0 = some (r1, r2, r3, r4)) :
  Calls Try.prog 58 #[.slice A0 l0.length c0] w fun e w' => e = .returned (.tuple #[.agg #[.int .i64 r1, .int .i64 r2], .agg #[.int .i64 r3, .int .i64 r4]]) ∧ Below w.heap.size w w' := by
 have hu46 := Try.underlying46
 have HR0 := Aside0.mk hr0
 have HC0 := Aside0.mk hc0
 clear hr0 hc0
 have HB := Aside0.mk (Below.refl w.heap.size w)
 have H : (if 0 < (l0.length : Int) then (if 0 < ((rd_L2 l0 0).length : Int) then (if 0 ≤ (wrap64 ((l0.length : Int) - 1)) then (if (wrap64 ((l0.length : Int) - 1)) < (l0.length : Int) then (if 1 < ((rd_L2 l0 (wrap64 ((l0.length : Int) - 1))).length : Int) then (some ((rd_T46 (rd_L2 l0 0) 0).f0, (rd_T46 (rd_L2 l0 0) 0).f1, (rd_T46 (rd_L2 l0 (wrap64 ((l0.length : Int) - 1))) 1).f0, (rd_T46 (rd_L2 l0 (wrap64 ((l0.length : Int) - 1))) 1).f1)) else (none)) else (none)) else (none)) else (none)) else (none)) = some (r1, r2, r3, r4) := h
 clear h
 by_cases c2 : 0 < (l0.length : Int)
 ·rw [if_pos c2] at H
  (have c2b0 := decide_eq_true c2); (have c2b1 : decide (0 < l0.length) = true := decide_eq_true (by omega)); (clear c2); (by_cases c3 : 0 < ((rd_L2 l0 0).length : Int))
  ·rw [if_pos c3] at H
   (have c3b0 := decide_eq_true c3); (have c3b1 : decide (0 < (rd_L2 l0 0).length) = true := decide_eq_true (by omega)); (clear c3); (obtain ⟨ji4, hji4⟩ : ∃ j_ : Int, (wrap64 ((l0.length : Int) - 1)) = j_ := ⟨_, rfl⟩); (replace H : (if 0 ≤ (ji4) then (if (ji4) < (l0.length : Int) then (if 1 < ((rd_L2 l0 (ji4)).length : Int) then (some ((rd_T46 (rd_L2 l0 0) 0).f0, (rd_T46 (rd_L2 l0 0) 0).f1, (rd_T46 (rd_L2 l0 (ji4)) 1).f0, (rd_T46 (rd_L2 l0 (ji4)) 1).f1)) else (none)) else (none)) else (none)) = some (r1, r2, r3, r4) := by first | (rw [hji4] at H; exact H) | (simp only [hji4] at H ⊢; exact H)); (have hji4w : (IntKind.i64.wrap ((l0.length : Int) - 1)) = ji4 := (i64_w _).trans hji4); (by_cases c5 : 0 ≤ (ji4))
   ·rw [if_pos c5] at H
    (have c5b0 := decide_eq_true c5); (clear c5); (by_cases c6 : (ji4) < (l0.length : Int))
    ·rw [if_pos c6] at H
     (have c6b0 := decide_eq_true c6); (clear c6); (by_cases c7 : 1 < ((rd_L2 l0 (ji4)).length : Int))
     ·rw [if_pos c7] at H
      (have c7b0 := decide_eq_true c7); (have c7b1 : decide (1 < (rd_L2 l0 (ji4)).length) = true := decide_eq_true (by omega)); (clear c7); (simp only [Option.some.injEq, Prod.mk.injEq] at H); (obtain ⟨rfl, rfl, rfl, rfl⟩ := H); (go_enter Try.func58, Try.ntmps58); (try go_wp2_with (first | ((with_reducible refine gate_dst (N := 2) rfl ?_); refine box_event ?hg (N := 2) ?hd (cs := #[.int .i64 0, .int .i64 0]) (t := 46) ?hr ?_; (case hd => rfl); (case hg => first | rfl | (go_simp; done)); (case hr => first | (go_simp; done) | (go_simp; rfl)); intro gb102 hg w8 hbox hb; have BK102 := Aside0.mk (hbox); have GW102 := gw_ HB hg; have GE102 := gw_ HB hg; replace HB := hs_ HB hb; clear hb hbox hg) | ((with_reducible refine gate_dst (N := 3) rfl ?_); refine box_event ?hg (N := 3) ?hd (cs := #[.int .i64 0, .int .i64 0]) (t := 46) ?hr ?_; (case hd => rfl); (case hg => first | rfl | (go_simp; done)); (case hr => first | (go_simp; done) | (go_simp; rfl)); intro gb103 hg w9 hbox hb; have BK103 := Aside0.mk (hbox); have GW103 := gw_ HB hg; have GE103 := gw_ HB hg; replace HB := hs_ HB hb; have NB102_103 := nl_ BK102 hg; have NB103_102 := nr_ BK102 hg; replace BK102 := bb_ BK102 hb; clear hb hbox hg))); (replace BK102 := Aside0.mk (blk_drew BK102.out)); (replace BK103 := Aside0.mk (blk_drew BK103.out)); (replace HB := Aside0.mk (below_drew1 HB.out)); (have p104 : 0 ≤ (0 : Int) := (by omega)); (have q104 : 0 < (l0.length : Int) := of_decide_eq_true (by first | (with_reducible assumption) | assumption)); (obtain ⟨ad104, A104_0, c104_0, e104, hx104_0, hl104_0, hi104_0⟩ := at_L2 HR0.out 0 p104 q104); (have hw104_0 := hx104_0); ((try rw [show ((0 : Int)).toNat = 0 from rfl] at hw104_0)); ((try rw [show 0 * 1 = 0 from rfl] at hw104_0)); ((try rw [Addr.add_zero'] at hw104_0)); (cases e104); (have qi104 : (0 < l0.length) = True := eq_true (by omega)); ((try rw [show ((0 : Int)).toNat = 0 from rfl] at hx104_0)); ((try rw [Addr.add_zero'] at hx104_0)); (replace hx104_0 := (HB.out.cell (World.block_lt_of_cell? w _ hx104_0)).trans hx104_0); (have HR104_0 := Aside0.mk hi104_0); (have HC104_0 := Aside0.mk hl104_0); (clear hi104_0 hl104_0); (replace p104 := eq_true p104); (replace q104 := eq_true q104); (have p105 : 0 ≤ (0 : Int) := (by omega)); (have q105 : 0 < ((rd_L2 l0 0).length : Int) := of_decide_eq_true (by first | (with_reducible assumption) | assumption)); (obtain ⟨ad105, e105, hx105_0, hx105_1⟩ := at_T46 HR104_0.out 0 p105 q105); (have hw105_1 := hx105_1); ((try rw [show ((0 : Int)).toNat = 0 from rfl] at hw105_1)); ((try rw [show 0 * 2 = 0 from rfl] at hw105_1)); ((try rw [Addr.add_zero'] at hw105_1)); (have hw105_0 := hx105_0); ((try rw [show ((0 : Int)).toNat = 0 from rfl] at hw105_0)); ((try rw [show 0 * 2 = 0 from rfl] at hw105_0)); ((try rw [Addr.add_zero'] at hw105_0)); (cases e105); (have qi105 : (0 < (rd_L2 l0 0).length) = True := eq_true (by omega)); ((try rw [show ((0 : Int)).toNat = 0 from rfl] at hx105_0)); ((try rw [show 0 * 2 = 0 from rfl] at hx105_0)); ((try rw [Addr.add_zero'] at hx105_0)); ((try rw [show ((0 : Int)).toNat = 0 from rfl] at hx105_1)); ((try rw [show 0 * 2 = 0 from rfl] at hx105_1)); ((try rw [Addr.add_zero'] at hx105_1))
      (replace hx105_0 := (HB.out.cell (World.block_lt_of_cell? w _ hx105_0)).trans hx105_0); (replace hx105_1 := (HB.out.cell (World.block_lt_of_cell? w _ hx105_1)).trans hx105_1); (replace p105 := eq_true p105); (replace q105 := eq_true q105); (have p106 : 0 ≤ ((ji4) : Int) := of_decide_eq_true (by first | (with_reducible assumption) | assumption)); (have q106 : (ji4) < (l0.length : Int) := of_decide_eq_true (by first | (with_reducible assumption) | assumption)); (obtain ⟨ad106, A106_0, c106_0, e106, hx106_0, hl106_0, hi106_0⟩ := at_L2 HR0.out (ji4) p106 q106); (have hw106_0 := hx106_0); (obtain rfl : ad104 = ad106 := (by injection e106)); (replace hx106_0 := (HB.out.cell (World.block_lt_of_cell? w _ hx106_0)).trans hx106_0); (have HR106_0 := Aside0.mk hi106_0); (have HC106_0 := Aside0.mk hl106_0); (clear hi106_0 hl106_0); (replace p106 := eq_true p106); (replace q106 := eq_true q106); (have p107 : 0 ≤ (1 : Int) := (by omega)); (have q107 : 1 < ((rd_L2 l0 (ji4)).length : Int) := of_decide_eq_true (by first | (with_reducible assumption) | assumption)); (obtain ⟨ad107, e107, hx107_0, hx107_1⟩ := at_T46 HR106_0.out 1 p107 q107); (have hw107_1 := hx107_1); ((try rw [show ((1 : Int)).toNat = 1 from rfl] at hw107_1)); ((try rw [show 1 * 2 = 2 from rfl] at hw107_1)); ((try simp only [Nat.reduceMul, Nat.reduceEqDiff, Go.Addr.add, ↓reduceIte] at hw107_1)); (have hw107_0 := hx107_0); ((try rw [show ((1 : Int)).toNat = 1 from rfl] at hw107_0)); ((try rw [show 1 * 2 = 2 from rfl] at hw107_0)); ((try simp only [Nat.reduceMul, Nat.reduceEqDiff, Go.Addr.add, ↓reduceIte] at hw107_0)); (cases e107); ((try simp only [show (1 : Int).toNat = 1 from rfl, Nat.reduceMul, Nat.reduceEqDiff, Go.Addr.add, ↓reduceIte] at hx107_0)); ((try simp only [show (1 : Int).toNat = 1 from rfl, Nat.reduceMul, Nat.reduceEqDiff, Go.Addr.add, ↓reduceIte] at hx107_1)); (have qi107 : (1 < (rd_L2 l0 (ji4)).length) = True := eq_true (by omega)); ((try rw [show ((1 : Int)).toNat = 1 from rfl] at hx107_0)); ((try rw [show 1 * 2 = 2 from rfl] at hx107_0)); ((try rw [show ((1 : Int)).toNat = 1 from rfl] at hx107_1)); ((try rw [show 1 * 2 = 2 from rfl] at hx107_1)); (replace hx107_0 := (HB.out.cell (World.block_lt_of_cell? w _ hx107_0)).trans hx107_0); (replace hx107_1 := (HB.out.cell (World.block_lt_of_cell? w _ hx107_1)).trans hx107_1); (replace p107 := eq_true p107); (replace q107 := eq_true q107); (refine start_ (n := 15) (S := fun w' => w'.cell? ad104 = some (.slice (some ad105) (rd_L2 l0 0).length c104_0) ∧ w'.cell? ad105 = some (.int .i64 ((rd_T46 (rd_L2 l0 0) 0).f0)) ∧ w'.cell? ⟨ad105.block, ad105.off + 1, none⟩ = some (.int .i64 ((rd_T46 (rd_L2 l0 0) 0).f1)) ∧ w'.cell? (ad104.add ((ji4)).toNat) = some (.slice (some ad107) (rd_L2 l0 (ji4)).length c106_0) ∧ w'.cell? ⟨ad107.block, ad107.off + 2, none⟩ = some (.int .i64 ((rd_T46 (rd_L2 l0 (ji4)) 1).f0)) ∧ w'.cell? ⟨ad107.block, ad107.off + 2 + 1, none⟩ = some (.int .i64 ((rd_T46 (rd_L2 l0 (ji4)) 1).f1))) (ds := []) (bm 15 0) (by kernel_rfl) rfl rfl ⟨((HB.out.cell (World.block_lt_of_cell? w _ hw104_0)).trans hw104_0), ((HB.out.cell (World.block_lt_of_cell? w _ hw105_0)).trans hw105_0), ((HB.out.cell (World.block_lt_of_cell? w _ hw105_1)).trans hw105_1), ((HB.out.cell (World.block_lt_of_cell? w _ hw106_0)).trans hw106_0), ((HB.out.cell (World.block_lt_of_cell? w _ hw107_0)).trans hw107_0), ((HB.out.cell (World.block_lt_of_cell? w _ hw107_1)).trans hw107_1)⟩ (fun hHeld => ?_); refine with_tabW arch_springings.tab1 arch_springings.bits1 (fun HT_ HW_ => ?_))
      (generalize w9.drew = w10 at BK102 BK103 HB HR104_0 HR106_0 hx104_0 hx105_0 hx105_1 hx106_0 hx107_0 hx107_1 hHeld ⊢); (refine pv_ 0 HT_ ?_); (refine pv_ 1 HT_ ?_); (refine pv_ 5 HT_ ?_); (refine pv_ 6 HT_ ?_); (refine pv_ 7 HT_ ?_); (refine pv_ 8 HT_ ?_); (refine pv_ 9 HT_ ?_); (refine tv_ 2 HT_ HW_ hHeld ?_); (refine pv_ 3 HT_ ?_); (refine tv_ 4 HT_ HW_ hHeld ?_); (refine tv_ 10 HT_ HW_ hHeld ?_); (refine pv_ 11 HT_ ?_); (refine tv_ 12 HT_ HW_ hHeld ?_); (refine one_ (i := 13) (N := none) (bm 15 16383) rfl rfl (one_of HT_.out (by kernel_rfl)) (by decide) (fun K hK => ?_)); (have hs11 : w10.cell? ⟨gb102, 0, none⟩ = some (.int .i64 0) := (blk_cell BK102.out 0).trans rfl); (have hfs11 := blk_frozen BK102.out 0); (have hns11_1 := NB103_102.out); (have hms11_1 := NB102_103.out); (have hs12 : w10.cell? ⟨gb102, 1, none⟩ = some (.int .i64 0) := (blk_cell BK102.out 1).trans rfl); (have hfs12 := blk_frozen BK102.out 1); (have hns12_1 := NB103_102.out); (have hms12_1 := NB102_103.out); (refine skip_ (w1 := ?_) (by rfl) rfl ?_ ?_); (rotate_left)
      ·(go_simp); (rfl)
      refine hK.out _ _ ⟨((cell_far (p := ⟨gb102, _, none⟩) (nf_ hw104_0 GW102.out) _).trans (((cell_far (p := ⟨gb102, _, none⟩) (nf_ hw104_0 GW102.out) _).trans (hHeld.1)))), ((cell_far (p := ⟨gb102, _, none⟩) (nf_ hw105_0 GW102.out) _).trans (((cell_far (p := ⟨gb102, _, none⟩) (nf_ hw105_0 GW102.out) _).trans (hHeld.2.1)))), ((cell_far (p := ⟨gb102, _, none⟩) (nf_ hw105_1 GW102.out) _).trans (((cell_far (p := ⟨gb102, _, none⟩) (nf_ hw105_1 GW102.out) _).trans (hHeld.2.2.1)))), ((cell_far (p := ⟨gb102, _, none⟩) (nf_ hw106_0 GW102.out) _).trans (((cell_far (p := ⟨gb102, _, none⟩) (nf_ hw106_0 GW102.out) _).trans (hHeld.2.2.2.1)))), ((cell_far (p := ⟨gb102, _, none⟩) (nf_ hw107_0 GW102.out) _).trans (((cell_far (p := ⟨gb102, _, none⟩) (nf_ hw107_0 GW102.out) _).trans (hHeld.2.2.2.2.1)))), ((cell_far (p := ⟨gb102, _, none⟩) (nf_ hw107_1 GW102.out) _).trans (((cell_far (p := ⟨gb102, _, none⟩) (nf_ hw107_1 GW102.out) _).trans (hHeld.2.2.2.2.2))))⟩ (fun hHeld => ?_)
      (clear hK K); (refine one_ (i := 14) (N := none) (bm 15 32767) rfl rfl (one_of HT_.out (by kernel_rfl)) (by decide) (fun K hK => ?_)); (have hs13 : w10.cell? ⟨gb103, 0, none⟩ = some (.int .i64 0) := (blk_cell BK103.out 0).trans rfl); (have hfs13 := blk_frozen BK103.out 0); (have hns13_0 := NB102_103.out); (have hms13_0 := NB103_102.out); (have hs14 : w10.cell? ⟨gb103, 1, none⟩ = some (.int .i64 0) := (blk_cell BK103.out 1).trans rfl); (have hfs14 := blk_frozen BK103.out 1); (have hns14_0 := NB102_103.out); (have hms14_0 := NB103_102.out); (refine skip_ (w1 := ?_) (by rfl) rfl ?_ ?_); (rotate_left)
      ·(go_simp); (rfl)
      refine hK.out _ _ ⟨((cell_far (p := ⟨gb103, _, none⟩) (nf_ hw104_0 GW103.out) _).trans (((cell_far (p := ⟨gb103, _, none⟩) (nf_ hw104_0 GW103.out) _).trans (hHeld.1)))), ((cell_far (p := ⟨gb103, _, none⟩) (nf_ hw105_0 GW103.out) _).trans (((cell_far (p := ⟨gb103, _, none⟩) (nf_ hw105_0 GW103.out) _).trans (hHeld.2.1)))), ((cell_far (p := ⟨gb103, _, none⟩) (nf_ hw105_1 GW103.out) _).trans (((cell_far (p := ⟨gb103, _, none⟩) (nf_ hw105_1 GW103.out) _).trans (hHeld.2.2.1)))), ((cell_far (p := ⟨gb103, _, none⟩) (nf_ hw106_0 GW103.out) _).trans (((cell_far (p := ⟨gb103, _, none⟩) (nf_ hw106_0 GW103.out) _).trans (hHeld.2.2.2.1)))), ((cell_far (p := ⟨gb103, _, none⟩) (nf_ hw107_0 GW103.out) _).trans (((cell_far (p := ⟨gb103, _, none⟩) (nf_ hw107_0 GW103.out) _).trans (hHeld.2.2.2.2.1)))), ((cell_far (p := ⟨gb103, _, none⟩) (nf_ hw107_1 GW103.out) _).trans (((cell_far (p := ⟨gb103, _, none⟩) (nf_ hw107_1 GW103.out) _).trans (hHeld.2.2.2.2.2))))⟩ (fun hHeld => ?_)
      (clear hK K); (refine done_ (done_of HT_.out (by kernel_rfl)) ?_); (try go_wp2); (refine bodyPost_ret (results_cc rfl _ _ gb102 gb103 46 46 #[.int .i64 ((rd_T46 (rd_L2 l0 0) 0).f0), .int .i64 ((rd_T46 (rd_L2 l0 0) 0).f1)] #[.int .i64 ((rd_T46 (rd_L2 l0 (ji4)) 1).f0), .int .i64 ((rd_T46 (rd_L2 l0 (ji4)) 1).f1)] (0, 0) (0, 0) _ _ rfl (by (with_reducible repeat (first | refine blk_drewN ?_ _ | refine blk_drew ?_ | refine blk_alloc ?_ _)); refine blk_far ?_ NB102_103.out _; (with_reducible repeat (first | refine blk_drewN ?_ _ | refine blk_drew ?_ | refine blk_alloc ?_ _)); refine blk_far ?_ NB102_103.out _; (with_reducible repeat (first | refine blk_drewN ?_ _ | refine blk_drew ?_ | refine blk_alloc ?_ _)); refine blk_put (cs := #[.int .i64 ((rd_T46 (rd_L2 l0 0) 0).f0), .int .i64 0]) ?_ 1 _ rfl; (with_reducible repeat (first | refine blk_drewN ?_ _ | refine blk_drew ?_ | refine blk_alloc ?_ _)); refine blk_put (cs := #[.int .i64 0, .int .i64 0]) ?_ 0 _ rfl; (with_reducible repeat (first | refine blk_drewN ?_ _ | refine blk_drew ?_ | refine blk_alloc ?_ _)); exact BK102.out) Try.underlying46 rfl (by kernel_rfl) rfl (by (with_reducible repeat (first | refine blk_drewN ?_ _ | refine blk_drew ?_ | refine blk_alloc ?_ _)); refine blk_put (cs := #[.int .i64 ((rd_T46 (rd_L2 l0 (ji4)) 1).f0), .int .i64 0]) ?_ 1 _ rfl; (with_reducible repeat (first | refine blk_drewN ?_ _ | refine blk_drew ?_ | refine blk_alloc ?_ _)); refine blk_put (cs := #[.int .i64 0, .int .i64 0]) ?_ 0 _ rfl; (with_reducible repeat (first | refine blk_drewN ?_ _ | refine blk_drew ?_ | refine blk_alloc ?_ _)); refine blk_far ?_ NB103_102.out _; (with_reducible repeat (first | refine blk_drewN ?_ _ | refine blk_drew ?_ | refine blk_alloc ?_ _)); refine blk_far ?_ NB103_102.out _; (with_reducible repeat (first | refine blk_drewN ?_ _ | refine blk_drew ?_ | refine blk_alloc ?_ _)); exact BK103.out) Try.underlying46 rfl (by kernel_rfl)) rfl ?_); (exact ⟨by first | rfl | (simp [errW_none, errW_some] <;> rfl) | (simp only [← hji4]; first | rfl | (simp [errW_none, errW_some] <;> rfl)) | (simp [*, errW_none, errW_some] <;> rfl), hb_ HB⟩)
     ·(rw [if_neg c7] at H); (exact absurd H (by simp))
    ·(rw [if_neg c6] at H); (exact absurd H (by simp))
   ·(rw [if_neg c5] at H); (exact absurd H (by simp))
  ·(rw [if_neg c3] at H); (exact absurd H (by simp))
 ·rw [if_neg c2] at H
  exact absurd H (by simp)

/-! ### arch_Check_1: function 59 -/
def arch_Check_1.f (l0 : List (S46)) : Option (Bool) := some ((l0.length : Int) != 4)
set_option maxHeartbeats 8000000 in
set_option maxRecDepth 100000 in
theorem arch_Check_1.calls (A0 : Option Addr) (c0 : Nat) (l0 : List (S46)) (r : Bool) (w : World) (hr0 : Kd.C k46 w A0 l0.length l0) (hc0 : l0.length ≤ c0) (h : arch_Check_1.f l0 = some r) :
    Calls Try.prog 59 #[.slice A0 l0.length c0] w fun e w' => e = .returned (.bool r) ∧ Drawn0 w w' := by
  have HR0 := Aside0.mk hr0
  have HC0 := Aside0.mk hc0
  clear hr0 hc0
  have H : (some ((l0.length : Int) != 4)) = some r := h
  clear h
  obtain rfl := Option.some.inj H
  go_enter Try.func59, Try.ntmps59
  go_wp2
  go_ret
  exact ⟨by first | rfl | (simp; done) | (simp [*]; done), by repeat (first | exact Drawn0.refl _ | apply Drawn0.step)⟩

-- NOT PRINTED: function 68 (api_Point_68)

-- NOT PRINTED: function 55 (api_Point_55)

/-! ### arch_far: function 56 -/
def arch_far.f (a0_0 : Int) (a0_1 : Int) : Option (Bool) := if a0_0 < (-1000000) then (some true) else (if a0_0 > 1000000 then (some true) else (if a0_1 < (-1000000) then (some true) else (some (decide (a0_1 > 1000000)))))
set_option maxHeartbeats 8000000 in
set_option maxRecDepth 100000 in
theorem arch_far.calls (a0_0 : Int) (a0_1 : Int) (r : Bool) (w : World) (h : arch_far.f a0_0 a0_1 = some r) :
    Calls Try.prog 56 #[.agg #[.int .i64 a0_0, .int .i64 a0_1]] w fun e w' => e = .returned (.bool r) ∧ Below w.heap.size w w' := by
  have hu46 := Try.underlying46
  have HB := Aside0.mk (Below.refl w.heap.size w)
  have H : (if a0_0 < (-1000000) then (some true) else (if a0_0 > 1000000 then (some true) else (if a0_1 < (-1000000) then (some true) else (some (decide (a0_1 > 1000000)))))) = some r := h
  clear h
  by_cases c2 : a0_0 < (-1000000)
  · rw [if_pos c2] at H
    have c2b0 : decide (a0_0 < (-1000000)) = true := decide_eq_true c2
    clear c2
    obtain rfl := Option.some.inj H
    go_enter Try.func56, Try.ntmps56
    go_wp2_with (first | ((with_reducible refine gate_dst (N := 1) rfl ?_); refine box_event ?hg (N := 1) ?hd (cs := #[.int .i64 a0_0, .int .i64 a0_1]) (t := 46) ?hr ?_; (case hd => rfl); (case hg => first | rfl | (go_simp; done)); (case hr => first | (go_simp; done) | (go_simp; rfl)); intro gb108 hg w3 hbox hb; have n0_ := Aside0.mk (below_step (by repeat (first | (with_reducible first | exact HB.out | apply below_alloc | apply pw_below_drewN | apply below_drew1) | exact HB.out)) hb); have n1_ := Aside0.mk (hbox); have n2_ := Aside0.mk ((by rw [hg]; exact (below_size (by repeat (first | (with_reducible first | exact HB.out | apply below_alloc | apply pw_below_drewN | apply below_drew1) | exact HB.out))) : w.heap.size ≤ gb108)); have n3_ := Aside0.mk ((by rw [hg]; exact (below_size (by repeat (first | (with_reducible first | exact HB.out | apply below_alloc | apply pw_below_drewN | apply below_drew1) | exact HB.out))) : w.heap.size ≤ gb108)); clear HB; have HB := n0_; have BK108 := n1_; have GW108 := n2_; have GE108 := n3_; clear n0_ n1_ n2_ n3_; clear hb hbox hg; have hcz4_0 : w3.cell? ⟨gb108, 0, none⟩ = some (.int .i64 a0_0) := (blk_cell BK108.out 0).trans rfl; have hcz4_1 : w3.cell? ⟨gb108, 1, none⟩ = some (.int .i64 a0_1) := (blk_cell BK108.out 1).trans rfl; have hfz4_0 := blk_frozen BK108.out 0; have hfz4_1 := blk_frozen BK108.out 1))
    go_ret
    exact ⟨by first | rfl | (simp [errW_none, errW_some] <;> rfl) | (simp [*, errW_none, errW_some] <;> rfl), by repeat (first | (with_reducible first | exact HB.out | apply below_alloc | apply pw_below_drewN | apply below_drew1 | refine below_set ?_ GE108.out) | exact HB.out)⟩
  · rw [if_neg c2] at H
    have c2b0 : decide (a0_0 < (-1000000)) = false := decide_eq_false c2
    clear c2
    by_cases c5 : a0_0 > 1000000
    · rw [if_pos c5] at H
      have c5b0 : decide (1000000 < a0_0) = true := decide_eq_true c5
      clear c5
      obtain rfl := Option.some.inj H
      go_enter Try.func56, Try.ntmps56
      go_wp2_with (first | ((with_reducible refine gate_dst (N := 1) rfl ?_); refine box_event ?hg (N := 1) ?hd (cs := #[.int .i64 a0_0, .int .i64 a0_1]) (t := 46) ?hr ?_; (case hd => rfl); (case hg => first | rfl | (go_simp; done)); (case hr => first | (go_simp; done) | (go_simp; rfl)); intro gb108 hg w6 hbox hb; have n0_ := Aside0.mk (below_step (by repeat (first | (with_reducible first | exact HB.out | apply below_alloc | apply pw_below_drewN | apply below_drew1) | exact HB.out)) hb); have n1_ := Aside0.mk (hbox); have n2_ := Aside0.mk ((by rw [hg]; exact (below_size (by repeat (first | (with_reducible first | exact HB.out | apply below_alloc | apply pw_below_drewN | apply below_drew1) | exact HB.out))) : w.heap.size ≤ gb108)); have n3_ := Aside0.mk ((by rw [hg]; exact (below_size (by repeat (first | (with_reducible first | exact HB.out | apply below_alloc | apply pw_below_drewN | apply below_drew1) | exact HB.out))) : w.heap.size ≤ gb108)); clear HB; have HB := n0_; have BK108 := n1_; have GW108 := n2_; have GE108 := n3_; clear n0_ n1_ n2_ n3_; clear hb hbox hg; have hcz7_0 : w6.cell? ⟨gb108, 0, none⟩ = some (.int .i64 a0_0) := (blk_cell BK108.out 0).trans rfl; have hcz7_1 : w6.cell? ⟨gb108, 1, none⟩ = some (.int .i64 a0_1) := (blk_cell BK108.out 1).trans rfl; have hfz7_0 := blk_frozen BK108.out 0; have hfz7_1 := blk_frozen BK108.out 1))
      go_ret
      exact ⟨by first | rfl | (simp [errW_none, errW_some] <;> rfl) | (simp [*, errW_none, errW_some] <;> rfl), by repeat (first | (with_reducible first | exact HB.out | apply below_alloc | apply pw_below_drewN | apply below_drew1 | refine below_set ?_ GE108.out) | exact HB.out)⟩
    · rw [if_neg c5] at H
      have c5b0 : decide (1000000 < a0_0) = false := decide_eq_false c5
      clear c5
      by_cases c8 : a0_1 < (-1000000)
      · rw [if_pos c8] at H
        have c8b0 : decide (a0_1 < (-1000000)) = true := decide_eq_true c8
        clear c8
        obtain rfl := Option.some.inj H
        go_enter Try.func56, Try.ntmps56
        go_wp2_with (first | ((with_reducible refine gate_dst (N := 1) rfl ?_); refine box_event ?hg (N := 1) ?hd (cs := #[.int .i64 a0_0, .int .i64 a0_1]) (t := 46) ?hr ?_; (case hd => rfl); (case hg => first | rfl | (go_simp; done)); (case hr => first | (go_simp; done) | (go_simp; rfl)); intro gb108 hg w9 hbox hb; have n0_ := Aside0.mk (below_step (by repeat (first | (with_reducible first | exact HB.out | apply below_alloc | apply pw_below_drewN | apply below_drew1) | exact HB.out)) hb); have n1_ := Aside0.mk (hbox); have n2_ := Aside0.mk ((by rw [hg]; exact (below_size (by repeat (first | (with_reducible first | exact HB.out | apply below_alloc | apply pw_below_drewN | apply below_drew1) | exact HB.out))) : w.heap.size ≤ gb108)); have n3_ := Aside0.mk ((by rw [hg]; exact (below_size (by repeat (first | (with_reducible first | exact HB.out | apply below_alloc | apply pw_below_drewN | apply below_drew1) | exact HB.out))) : w.heap.size ≤ gb108)); clear HB; have HB := n0_; have BK108 := n1_; have GW108 := n2_; have GE108 := n3_; clear n0_ n1_ n2_ n3_; clear hb hbox hg; have hcz10_0 : w9.cell? ⟨gb108, 0, none⟩ = some (.int .i64 a0_0) := (blk_cell BK108.out 0).trans rfl; have hcz10_1 : w9.cell? ⟨gb108, 1, none⟩ = some (.int .i64 a0_1) := (blk_cell BK108.out 1).trans rfl; have hfz10_0 := blk_frozen BK108.out 0; have hfz10_1 := blk_frozen BK108.out 1))
        go_ret
        exact ⟨by first | rfl | (simp [errW_none, errW_some] <;> rfl) | (simp [*, errW_none, errW_some] <;> rfl), by repeat (first | (with_reducible first | exact HB.out | apply below_alloc | apply pw_below_drewN | apply below_drew1 | refine below_set ?_ GE108.out) | exact HB.out)⟩
      · rw [if_neg c8] at H
        have c8b0 : decide (a0_1 < (-1000000)) = false := decide_eq_false c8
        clear c8
        obtain rfl := Option.some.inj H
        go_enter Try.func56, Try.ntmps56
        go_wp2_with (first | ((with_reducible refine gate_dst (N := 1) rfl ?_); refine box_event ?hg (N := 1) ?hd (cs := #[.int .i64 a0_0, .int .i64 a0_1]) (t := 46) ?hr ?_; (case hd => rfl); (case hg => first | rfl | (go_simp; done)); (case hr => first | (go_simp; done) | (go_simp; rfl)); intro gb108 hg w11 hbox hb; have n0_ := Aside0.mk (below_step (by repeat (first | (with_reducible first | exact HB.out | apply below_alloc | apply pw_below_drewN | apply below_drew1) | exact HB.out)) hb); have n1_ := Aside0.mk (hbox); have n2_ := Aside0.mk ((by rw [hg]; exact (below_size (by repeat (first | (with_reducible first | exact HB.out | apply below_alloc | apply pw_below_drewN | apply below_drew1) | exact HB.out))) : w.heap.size ≤ gb108)); have n3_ := Aside0.mk ((by rw [hg]; exact (below_size (by repeat (first | (with_reducible first | exact HB.out | apply below_alloc | apply pw_below_drewN | apply below_drew1) | exact HB.out))) : w.heap.size ≤ gb108)); clear HB; have HB := n0_; have BK108 := n1_; have GW108 := n2_; have GE108 := n3_; clear n0_ n1_ n2_ n3_; clear hb hbox hg; have hcz12_0 : w11.cell? ⟨gb108, 0, none⟩ = some (.int .i64 a0_0) := (blk_cell BK108.out 0).trans rfl; have hcz12_1 : w11.cell? ⟨gb108, 1, none⟩ = some (.int .i64 a0_1) := (blk_cell BK108.out 1).trans rfl; have hfz12_0 := blk_frozen BK108.out 0; have hfz12_1 := blk_frozen BK108.out 1))
        go_ret
        exact ⟨by first | rfl | (simp [errW_none, errW_some] <;> rfl) | (simp [*, errW_none, errW_some] <;> rfl), by repeat (first | (with_reducible first | exact HB.out | apply below_alloc | apply pw_below_drewN | apply below_drew1 | refine below_set ?_ GE108.out) | exact HB.out)⟩

/-! ### api_Point_68_by_arch_far: function 68 -/
def api_Point_68_by_arch_far.l0 : Nat → List (S46) → Int → Int → Option (Int)
  | 0, _, _, _ => none
  | k + 1, x0, x7, x8 => if x8 < x7 then (if 0 ≤ x8 then (if x8 < (x0.length : Int) then ((arch_far.f ((rd_T46 x0 x8).f0) ((rd_T46 x0 x8).f1)).bind fun t110 => (if t110 = true then (some x8) else (api_Point_68_by_arch_far.l0 k x0 x7 (wrap64 (x8 + 1))))) else (none)) else (none)) else (some (-1))
def api_Point_68_by_arch_far.f (k : Nat) (l0 : List (S46))  : Option (Int) := api_Point_68_by_arch_far.l0 k l0 (l0.length : Int) 0
theorem api_Point_68_by_arch_far.mono_l : ∀ k, (∀ y0 y1 y2, LeO (api_Point_68_by_arch_far.l0 k y0 y1 y2) (api_Point_68_by_arch_far.l0 (k + 1) y0 y1 y2))
  | 0 => fun _ _ _ r h => by simp [api_Point_68_by_arch_far.l0] at h
  | k + 1 => by
    have ih0 := api_Point_68_by_arch_far.mono_l k
    · intro y0 y1 y2
      unfold api_Point_68_by_arch_far.l0
      repeat' first
      | (with_reducible exact ih0 _ _ _)
      | (with_reducible exact LeO.refl _)
      | (with_reducible exact LeO.none _)
      | (with_reducible refine LeO.ite ?_ ?_)
      | (with_reducible refine LeO.bind ?_ (fun _ => ?_))
      | exact ih0 _ _ _
      | exact LeO.none _
      | refine LeO.ite ?_ ?_
      | refine LeO.bind ?_ (fun _ => ?_)
theorem api_Point_68_by_arch_far.mono : ∀ a0 k, LeO (api_Point_68_by_arch_far.f k a0) (api_Point_68_by_arch_far.f (k + 1) a0) := by
  intro a0 k
  have ih0 := api_Point_68_by_arch_far.mono_l k
  unfold api_Point_68_by_arch_far.f
  repeat' first
      | (with_reducible exact ih0 _ _ _)
      | (with_reducible exact LeO.refl _)
      | (with_reducible exact LeO.none _)
      | (with_reducible refine LeO.ite ?_ ?_)
      | (with_reducible refine LeO.bind ?_ (fun _ => ?_))
      | exact ih0 _ _ _
      | exact LeO.none _
      | refine LeO.ite ?_ ?_
      | refine LeO.bind ?_ (fun _ => ?_)
set_option maxHeartbeats 8000000 in
set_option maxRecDepth 100000 in
theorem api_Point_68_by_arch_far.calls (k : Nat) (A0 : Option Addr) (c0 : Nat) (l0 : List (S46))  (r : Int) (w : World) (hr0 : Kd.C k46 w A0 l0.length l0) (hc0 : l0.length ≤ c0) (h : api_Point_68_by_arch_far.f k l0 = some r) :
    Calls Try.prog 68 #[.slice A0 l0.length c0, .func (.func 56) #[] #[]] w fun e w' => e = .returned (.int .i64 r) ∧ Below w.heap.size w w' := by
  have hu46 := Try.underlying46
  have HR0 := Aside0.mk hr0
  have HC0 := Aside0.mk hc0
  clear hr0 hc0
  have HB := Aside0.mk (Below.refl w.heap.size w)
  have H : (api_Point_68_by_arch_far.l0 k l0 (l0.length : Int) 0) = some r := h
  clear h
  have H' := Aside0.mk H
  clear H
  go_enter Try.func68, Try.ntmps68
  go_wp2
  go_loopg [8] k (fun kq v8 w' => ∃ (x8_1 : Int), v8 = .int .i64 x8_1 ∧ Aside0 (api_Point_68_by_arch_far.l0 kq l0 (l0.length : Int) x8_1 = some r) ∧ Aside0 (kq ≤ k) ∧ Aside0 (Below w.heap.size w w'))
  case atStart => exact ⟨(0), (by first | rfl | (simp; done) | (simp [*]; done)), H', ⟨Nat.le_refl _⟩, ⟨by repeat (first | (with_reducible first | exact HB.out | apply below_alloc | apply pw_below_drewN | apply below_drew1) | exact HB.out)⟩⟩
  case round =>
    clear H'
    try clear p2
    obtain ⟨x8_1, rfl, HA, HK1, HB⟩ := hrel
    cases gk with
    | zero => exact absurd HA.out (by simp [api_Point_68_by_arch_far.l0])
    | succ k1 =>
      have H := HA.out
      clear HA
      simp only [api_Point_68_by_arch_far.l0] at H
      by_cases c3 : x8_1 < (l0.length : Int)
      · rw [if_pos c3] at H
        have c3b0 : decide (x8_1 < (l0.length : Int)) = true := decide_eq_true c3
        clear c3
        by_cases c4 : 0 ≤ x8_1
        · rw [if_pos c4] at H
          have c4b0 : decide (0 ≤ x8_1) = true := decide_eq_true c4
          clear c4
          by_cases c5 : x8_1 < (l0.length : Int)
          · rw [if_pos c5] at H
            have c5b0 : decide (x8_1 < (l0.length : Int)) = true := decide_eq_true c5
            clear c5
            replace H := Option.bind_eq_some_iff.mp H
            obtain ⟨t110, A60, H⟩ := H
            replace H : (if t110 = true then (some x8_1) else (api_Point_68_by_arch_far.l0 k1 l0 (l0.length : Int) (wrap64 (x8_1 + 1)))) = some r := H
            have A6 := Aside0.mk A60
            clear A60
            by_cases c7 : t110 = true
            · subst c7
              have H1 : (some x8_1) = some r := by rw [if_pos rfl] at H; exact H
              clear H
              have H := H1
              clear H1
              obtain rfl := Option.some.inj H
              have p109 : 0 ≤ (x8_1 : Int) := of_decide_eq_true (by first | (with_reducible assumption) | assumption)
              have q109 : x8_1 < (l0.length : Int) := of_decide_eq_true (by first | (with_reducible assumption) | assumption)
              obtain ⟨ad109, e109, hx109_0, hx109_1⟩ := at_T46 HR0.out x8_1 p109 q109
              cases e109
              replace hx109_0 := (HB.out.cell (World.block_lt_of_cell? w _ hx109_0)).trans hx109_0
              replace hx109_1 := (HB.out.cell (World.block_lt_of_cell? w _ hx109_1)).trans hx109_1
              replace p109 := eq_true p109
              replace q109 := eq_true q109
              go_wp2_with (first | (go_at_call 56; (with_reducible refine (arch_far.calls ((rd_T46 l0 x8_1).f0) ((rd_T46 l0 x8_1).f1) true _ A6.out).mono ?_); rintro e w8 ⟨rfl, hb⟩; have n0_ := Aside0.mk (below_step (by repeat (first | (with_reducible first | exact HB.out | apply below_alloc | apply pw_below_drewN | apply below_drew1) | exact HB.out)) hb); clear HB; have HB := n0_; clear n0_; (try clear hb); (try clear hb2); (try clear hk); (try clear hi)))
              go_ret
              exact ⟨by first | rfl | (simp [errW_none, errW_some] <;> rfl) | (simp [*, errW_none, errW_some] <;> rfl), by repeat (first | (with_reducible first | exact HB.out | apply below_alloc | apply pw_below_drewN | apply below_drew1) | exact HB.out)⟩
            · replace c7 := Bool.eq_false_iff.mpr c7
              subst c7
              have H1 : (api_Point_68_by_arch_far.l0 k1 l0 (l0.length : Int) (wrap64 (x8_1 + 1))) = some r := by rw [if_neg (show ¬ (false = true) by decide)] at H; exact H
              clear H
              have H := H1
              clear H1
              have H' := Aside0.mk H
              clear H
              have p109 : 0 ≤ (x8_1 : Int) := of_decide_eq_true (by first | (with_reducible assumption) | assumption)
              have q109 : x8_1 < (l0.length : Int) := of_decide_eq_true (by first | (with_reducible assumption) | assumption)
              obtain ⟨ad109, e109, hx109_0, hx109_1⟩ := at_T46 HR0.out x8_1 p109 q109
              cases e109
              replace hx109_0 := (HB.out.cell (World.block_lt_of_cell? w _ hx109_0)).trans hx109_0
              replace hx109_1 := (HB.out.cell (World.block_lt_of_cell? w _ hx109_1)).trans hx109_1
              replace p109 := eq_true p109
              replace q109 := eq_true q109
              go_wp2_with (first | (go_at_call 56; (with_reducible refine (arch_far.calls ((rd_T46 l0 x8_1).f0) ((rd_T46 l0 x8_1).f1) false _ A6.out).mono ?_); rintro e w9 ⟨rfl, hb⟩; have n0_ := Aside0.mk (below_step (by repeat (first | (with_reducible first | exact HB.out | apply below_alloc | apply pw_below_drewN | apply below_drew1) | exact HB.out)) hb); clear HB; have HB := n0_; clear n0_; (try clear hb); (try clear hb2); (try clear hk); (try clear hi)))
              go_roundg k1
              case measure => have := HK1.out; omega
              case rel => exact ⟨(wrap64 (x8_1 + 1)), (by first | rfl | (simp; done) | (simp [*]; done)), H', ⟨by have := HK1.out; omega⟩, ⟨by repeat (first | (with_reducible first | exact HB.out | apply below_alloc | apply pw_below_drewN | apply below_drew1) | exact HB.out)⟩⟩
          · rw [if_neg c5] at H
            exact absurd H (by simp)
        · rw [if_neg c4] at H
          exact absurd H (by simp)
      · rw [if_neg c3] at H
        have c3b0 : decide (x8_1 < (l0.length : Int)) = false := decide_eq_false c3
        clear c3
        obtain rfl := Option.some.inj H
        go_wp2
        go_ret
        exact ⟨by first | rfl | (simp [errW_none, errW_some] <;> rfl) | (simp [*, errW_none, errW_some] <;> rfl), by repeat (first | (with_reducible first | exact HB.out | apply below_alloc | apply pw_below_drewN | apply below_drew1) | exact HB.out)⟩

end Go.Proofs.Ytjlljjnkjhdljaa.XA
