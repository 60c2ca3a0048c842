-- written by xprint.py, this project's own program (wip/), over the words of print.sh
import Derived.Test.YtjlljjnkjhdljaaXAx0
import Derived.Test.YtjlljjnkjhdljaaXAx3
import Derived.Test.YtjlljjnkjhdljaaFlat
namespace Go.Proofs.Ytjlljjnkjhdljaa.XA
open Go.Proofs.Ytjlljjnkjhdljaa.Flat Go.RowKit Go.Proofs.Ytjlljjnkjhdljaa.Opens Go.Proofs.YtjlljjnkjhdljaaW.PrintWords Go.Proofs.YtjlljjnkjhdljaaW.PrintLast Go.Proofs.YtjlljjnkjhdljaaW.PrintMore
attribute [local go_sem] max2_int min2_int max_two min_two max_three min_three max_four min_four cell_some cell_same   -- for this text's walks alone
set_option linter.unusedVariables false
set_option linter.unusedSimpArgs false

/-! ### api_Point_55_by_arch_far: function 55 -/
def api_Point_55_by_arch_far.f (k : Nat) (l0 : List (S46))  : Option (Bool) := (api_Point_68_by_arch_far.f k l0).bind fun t111 => (some (decide (t111 ≥ 0)))
theorem api_Point_55_by_arch_far.mono : ∀ a0 k, LeO (api_Point_55_by_arch_far.f k a0) (api_Point_55_by_arch_far.f (k + 1) a0) := by
  intro a0 k
  unfold api_Point_55_by_arch_far.f
  repeat' first
      | (with_reducible exact api_Point_68_by_arch_far.mono _ _)
      | (with_reducible exact LeO.refl _)
      | (with_reducible exact LeO.none _)
      | (with_reducible refine LeO.ite ?_ ?_)
      | (with_reducible refine LeO.bind ?_ (fun _ => ?_))
      | exact api_Point_68_by_arch_far.mono _ _
      | exact LeO.none _
      | refine LeO.ite ?_ ?_
      | refine LeO.bind ?_ (fun _ => ?_)
set_option maxHeartbeats 8000000 in
set_option maxRecDepth 100000 in
theorem api_Point_55_by_arch_far.calls (k : Nat) (A0 : Option Addr) (c0 : Nat) (l0 : List (S46))  (r : Bool) (w : World) (hr0 : Kd.C k46 w A0 l0.length l0) (hc0 : l0.length ≤ c0) (h : api_Point_55_by_arch_far.f k l0 = some r) :
    Calls Try.prog 55 #[.slice A0 l0.length c0, .func (.func 56) #[] #[]] w fun e w' => e = .returned (.bool r) ∧ Below w.heap.size w w' := by
  have HR0 := Aside0.mk hr0
  have HC0 := Aside0.mk hc0
  clear hr0 hc0
  have HB := Aside0.mk (Below.refl w.heap.size w)
  have H : ((api_Point_68_by_arch_far.f k l0).bind fun t111 => (some (decide (t111 ≥ 0)))) = some r := h
  clear h
  replace H := Option.bind_eq_some_iff.mp H
  obtain ⟨t111, A30, H⟩ := H
  replace H : (some (decide (t111 ≥ 0))) = some r := H
  have A3 := Aside0.mk A30
  clear A30
  obtain rfl := Option.some.inj H
  go_enter Try.func55, Try.ntmps55
  go_wp2_with (first | (go_at_call 68; (with_reducible refine (api_Point_68_by_arch_far.calls k _ _ l0  t111 _ ?side1 ?side2 A3.out).mono ?_); (case side1 => repeat (first | exact HR0.out | (with_reducible refine Kd.C_alloc ?_ _) | (with_reducible refine Kd.C_drewN ?_ _) | (with_reducible refine Kd.C_drew ?_))); (case side2 => exact HC0.out); rintro e w4 ⟨rfl, hb⟩; have n0_ := Aside0.mk (below_step (by repeat (first | (with_reducible first | exact HB.out | apply below_alloc | apply pw_below_drewN | apply below_drew1) | exact HB.out)) hb); clear HB; have HB := n0_; clear n0_; (try clear hb); (try clear hb2); (try clear hk); (try clear hi)))
  go_ret
  exact ⟨by first | rfl | (simp [errW_none, errW_some] <;> rfl) | (simp [*, errW_none, errW_some] <;> rfl), by repeat (first | (with_reducible first | exact HB.out | apply below_alloc | apply pw_below_drewN | apply below_drew1) | exact HB.out)⟩

/-! ### arch_Check_2: function 60 -/
def arch_Check_2.f (k : Nat) (l0 : List (S46)) : Option (Bool) := (api_Point_55_by_arch_far.f k l0).bind fun t112 => (some t112)
theorem arch_Check_2.mono : ∀ a0 k, LeO (arch_Check_2.f k a0) (arch_Check_2.f (k + 1) a0) := by
  intro a0 k
  unfold arch_Check_2.f
  repeat' first
      | (with_reducible exact api_Point_55_by_arch_far.mono _ _)
      | (with_reducible exact LeO.refl _)
      | (with_reducible exact LeO.none _)
      | (with_reducible refine LeO.ite ?_ ?_)
      | (with_reducible refine LeO.bind ?_ (fun _ => ?_))
      | exact api_Point_55_by_arch_far.mono _ _
      | exact LeO.none _
      | refine LeO.ite ?_ ?_
      | refine LeO.bind ?_ (fun _ => ?_)
set_option maxHeartbeats 8000000 in
set_option maxRecDepth 100000 in
theorem arch_Check_2.calls (k : Nat) (A0 : Option Addr) (c0 : Nat) (l0 : List (S46)) (r : Bool) (w : World) (hr0 : Kd.C k46 w A0 l0.length l0) (hc0 : l0.length ≤ c0) (h : arch_Check_2.f k l0 = some r) :
    Calls Try.prog 60 #[.slice A0 l0.length c0] w fun e w' => e = .returned (.bool r) ∧ Below w.heap.size w w' := by
  have HR0 := Aside0.mk hr0
  have HC0 := Aside0.mk hc0
  clear hr0 hc0
  have HB := Aside0.mk (Below.refl w.heap.size w)
  have H : ((api_Point_55_by_arch_far.f k l0).bind fun t112 => (some t112)) = some r := h
  clear h
  replace H := Option.bind_eq_some_iff.mp H
  obtain ⟨t112, A20, H⟩ := H
  replace H : (some t112) = some r := H
  have A2 := Aside0.mk A20
  clear A20
  obtain rfl := Option.some.inj H
  go_enter Try.func60, Try.ntmps60
  go_wp2_with (first | (go_at_call 55; (with_reducible refine (api_Point_55_by_arch_far.calls k _ _ l0  t112 _ ?side1 ?side2 A2.out).mono ?_); (case side1 => repeat (first | exact HR0.out | (with_reducible refine Kd.C_alloc ?_ _) | (with_reducible refine Kd.C_drewN ?_ _) | (with_reducible refine Kd.C_drew ?_))); (case side2 => exact HC0.out); rintro e w3 ⟨rfl, hb⟩; have n0_ := Aside0.mk (below_step (by repeat (first | (with_reducible first | exact HB.out | apply below_alloc | apply pw_below_drewN | apply below_drew1) | exact HB.out)) hb); clear HB; have HB := n0_; clear n0_; (try clear hb); (try clear hb2); (try clear hk); (try clear hi)))
  go_ret
  exact ⟨by first | rfl | (simp [errW_none, errW_some] <;> rfl) | (simp [*, errW_none, errW_some] <;> rfl), by repeat (first | (with_reducible first | exact HB.out | apply below_alloc | apply pw_below_drewN | apply below_drew1) | exact HB.out)⟩

/-! ### arch_cross: function 69 -/
def arch_cross.f (a0_0 : Int) (a0_1 : Int) (a1_0 : Int) (a1_1 : Int) (a2_0 : Int) (a2_1 : Int) : Option (Int) := some (wrap64 ((wrap64 ((wrap64 (a1_0 - a0_0)) * (wrap64 (a2_1 - a0_1)))) - (wrap64 ((wrap64 (a1_1 - a0_1)) * (wrap64 (a2_0 - a0_0))))))
set_option maxHeartbeats 8000000 in
set_option maxRecDepth 100000 in
theorem arch_cross.calls (a0_0 : Int) (a0_1 : Int) (a1_0 : Int) (a1_1 : Int) (a2_0 : Int) (a2_1 : Int) (r : Int) (w : World) (h : arch_cross.f a0_0 a0_1 a1_0 a1_1 a2_0 a2_1 = some r) :
    Calls Try.prog 69 #[.agg #[.int .i64 a0_0, .int .i64 a0_1], .agg #[.int .i64 a1_0, .int .i64 a1_1], .agg #[.int .i64 a2_0, .int .i64 a2_1]] w fun e w' => e = .returned (.int .i64 r) ∧ Below w.heap.size w w' := by
  have hu46 := Try.underlying46
  have HB := Aside0.mk (Below.refl w.heap.size w)
  have H : (some (wrap64 ((wrap64 ((wrap64 (a1_0 - a0_0)) * (wrap64 (a2_1 - a0_1)))) - (wrap64 ((wrap64 (a1_1 - a0_1)) * (wrap64 (a2_0 - a0_0))))))) = some r := h
  clear h
  obtain rfl := Option.some.inj H
  go_enter Try.func69, Try.ntmps69
  go_wp2_with (first | ((with_reducible refine gate_dst (N := 3) rfl ?_); refine box_event ?hg (N := 3) ?hd (cs := #[.int .i64 a0_0, .int .i64 a0_1]) (t := 46) ?hr ?_; (case hd => rfl); (case hg => first | rfl | (go_simp; done)); (case hr => first | (go_simp; done) | (go_simp; rfl)); intro gb113 hg w4 hbox hb; have n0_ := Aside0.mk (below_step (by repeat (first | (with_reducible first | exact HB.out | apply below_alloc | apply pw_below_drewN | apply below_drew1) | exact HB.out)) hb); have n1_ := Aside0.mk (hbox); have n2_ := Aside0.mk ((by rw [hg]; exact (below_size (by repeat (first | (with_reducible first | exact HB.out | apply below_alloc | apply pw_below_drewN | apply below_drew1) | exact HB.out))) : w.heap.size ≤ gb113)); have n3_ := Aside0.mk ((by rw [hg]; exact (below_size (by repeat (first | (with_reducible first | exact HB.out | apply below_alloc | apply pw_below_drewN | apply below_drew1) | exact HB.out))) : w.heap.size ≤ gb113)); clear HB; have HB := n0_; have BK113 := n1_; have GW113 := n2_; have GE113 := n3_; clear n0_ n1_ n2_ n3_; clear hb hbox hg) | ((with_reducible refine gate_dst (N := 4) rfl ?_); refine box_event ?hg (N := 4) ?hd (cs := #[.int .i64 a1_0, .int .i64 a1_1]) (t := 46) ?hr ?_; (case hd => rfl); (case hg => first | rfl | (go_simp; done)); (case hr => first | (go_simp; done) | (go_simp; rfl)); intro gb114 hg w5 hbox hb; have n0_ := Aside0.mk (blk_below (g := gb113) (o := .cells #[.int .i64 a0_0, .int .i64 a0_1] 46 (0, 0)) (by (with_reducible repeat (first | refine blk_drewN ?_ _ | refine blk_drew ?_ | refine blk_alloc ?_ _)); exact BK113.out) hb); have n1_ := Aside0.mk (below_step (by repeat (first | (with_reducible first | exact HB.out | apply below_alloc | apply pw_below_drewN | apply below_drew1 | refine below_set ?_ GE113.out) | exact HB.out)) hb); have n2_ := Aside0.mk (hbox); have n3_ := Aside0.mk ((by rw [hg]; exact (below_size (by repeat (first | (with_reducible first | exact HB.out | apply below_alloc | apply pw_below_drewN | apply below_drew1 | refine below_set ?_ GE113.out) | exact HB.out))) : w.heap.size ≤ gb114)); have n4_ := Aside0.mk ((by rw [hg]; exact (below_size (by repeat (first | (with_reducible first | exact HB.out | apply below_alloc | apply pw_below_drewN | apply below_drew1 | refine below_set ?_ GE113.out) | exact HB.out))) : w.heap.size ≤ gb114)); have n5_ := Aside0.mk ((by rw [hg]; exact Nat.ne_of_lt (blk_lt (g := gb113) (o := .cells #[.int .i64 a0_0, .int .i64 a0_1] 46 (0, 0)) (by (with_reducible repeat (first | refine blk_drewN ?_ _ | refine blk_drew ?_ | refine blk_alloc ?_ _)); exact BK113.out)) : gb113 ≠ gb114)); have n6_ := Aside0.mk ((by rw [hg]; exact Nat.ne_of_gt (blk_lt (g := gb113) (o := .cells #[.int .i64 a0_0, .int .i64 a0_1] 46 (0, 0)) (by (with_reducible repeat (first | refine blk_drewN ?_ _ | refine blk_drew ?_ | refine blk_alloc ?_ _)); exact BK113.out)) : gb114 ≠ gb113)); clear BK113; clear HB; have BK113 := n0_; have HB := n1_; have BK114 := n2_; have GW114 := n3_; have GE114 := n4_; have NB113_114 := n5_; have NB114_113 := n6_; clear n0_ n1_ n2_ n3_ n4_ n5_ n6_; clear hb hbox hg) | ((with_reducible refine gate_dst (N := 5) rfl ?_); refine box_event ?hg (N := 5) ?hd (cs := #[.int .i64 a2_0, .int .i64 a2_1]) (t := 46) ?hr ?_; (case hd => rfl); (case hg => first | rfl | (go_simp; done)); (case hr => first | (go_simp; done) | (go_simp; rfl)); intro gb115 hg w6 hbox hb; have n0_ := Aside0.mk (blk_below (g := gb113) (o := .cells #[.int .i64 a0_0, .int .i64 a0_1] 46 (0, 0)) (by (with_reducible repeat (first | refine blk_drewN ?_ _ | refine blk_drew ?_ | refine blk_alloc ?_ _)); exact BK113.out) hb); have n1_ := Aside0.mk (blk_below (g := gb114) (o := .cells #[.int .i64 a1_0, .int .i64 a1_1] 46 (0, 0)) (by (with_reducible repeat (first | refine blk_drewN ?_ _ | refine blk_drew ?_ | refine blk_alloc ?_ _)); exact BK114.out) hb); have n2_ := Aside0.mk (below_step (by repeat (first | (with_reducible first | exact HB.out | apply below_alloc | apply pw_below_drewN | apply below_drew1 | refine below_set ?_ GE113.out | refine below_set ?_ GE114.out) | exact HB.out)) hb); have n3_ := Aside0.mk (hbox); have n4_ := Aside0.mk ((by rw [hg]; exact (below_size (by repeat (first | (with_reducible first | exact HB.out | apply below_alloc | apply pw_below_drewN | apply below_drew1 | refine below_set ?_ GE113.out | refine below_set ?_ GE114.out) | exact HB.out))) : w.heap.size ≤ gb115)); have n5_ := Aside0.mk ((by rw [hg]; exact (below_size (by repeat (first | (with_reducible first | exact HB.out | apply below_alloc | apply pw_below_drewN | apply below_drew1 | refine below_set ?_ GE113.out | refine below_set ?_ GE114.out) | exact HB.out))) : w.heap.size ≤ gb115)); have n6_ := Aside0.mk ((by rw [hg]; exact Nat.ne_of_lt (blk_lt (g := gb113) (o := .cells #[.int .i64 a0_0, .int .i64 a0_1] 46 (0, 0)) (by (with_reducible repeat (first | refine blk_drewN ?_ _ | refine blk_drew ?_ | refine blk_alloc ?_ _)); exact BK113.out)) : gb113 ≠ gb115)); have n7_ := Aside0.mk ((by rw [hg]; exact Nat.ne_of_gt (blk_lt (g := gb113) (o := .cells #[.int .i64 a0_0, .int .i64 a0_1] 46 (0, 0)) (by (with_reducible repeat (first | refine blk_drewN ?_ _ | refine blk_drew ?_ | refine blk_alloc ?_ _)); exact BK113.out)) : gb115 ≠ gb113)); have n8_ := Aside0.mk ((by rw [hg]; exact Nat.ne_of_lt (blk_lt (g := gb114) (o := .cells #[.int .i64 a1_0, .int .i64 a1_1] 46 (0, 0)) (by (with_reducible repeat (first | refine blk_drewN ?_ _ | refine blk_drew ?_ | refine blk_alloc ?_ _)); exact BK114.out)) : gb114 ≠ gb115)); have n9_ := Aside0.mk ((by rw [hg]; exact Nat.ne_of_gt (blk_lt (g := gb114) (o := .cells #[.int .i64 a1_0, .int .i64 a1_1] 46 (0, 0)) (by (with_reducible repeat (first | refine blk_drewN ?_ _ | refine blk_drew ?_ | refine blk_alloc ?_ _)); exact BK114.out)) : gb115 ≠ gb114)); clear BK113; clear BK114; clear HB; have BK113 := n0_; have BK114 := n1_; have HB := n2_; have BK115 := n3_; have GW115 := n4_; have GE115 := n5_; have NB113_115 := n6_; have NB115_113 := n7_; have NB114_115 := n8_; have NB115_114 := n9_; clear n0_ n1_ n2_ n3_ n4_ n5_ n6_ n7_ n8_ n9_; clear hb hbox hg; have hnb7 := NB114_113.out; have hnc7 := NB113_114.out; have hnb8 := NB114_115.out; have hnc8 := NB115_114.out; have hcz9_0 : w6.cell? ⟨gb114, 0, none⟩ = some (.int .i64 a1_0) := (blk_cell BK114.out 0).trans rfl; have hcz9_1 : w6.cell? ⟨gb114, 1, none⟩ = some (.int .i64 a1_1) := (blk_cell BK114.out 1).trans rfl; have hfz9_0 := blk_frozen BK114.out 0; have hfz9_1 := blk_frozen BK114.out 1; have hnb10 := NB113_115.out; have hnc10 := NB115_113.out; have hcz11_0 : w6.cell? ⟨gb113, 0, none⟩ = some (.int .i64 a0_0) := (blk_cell BK113.out 0).trans rfl; have hcz11_1 : w6.cell? ⟨gb113, 1, none⟩ = some (.int .i64 a0_1) := (blk_cell BK113.out 1).trans rfl; have hfz11_0 := blk_frozen BK113.out 0; have hfz11_1 := blk_frozen BK113.out 1; have hcz12_0 : w6.cell? ⟨gb115, 0, none⟩ = some (.int .i64 a2_0) := (blk_cell BK115.out 0).trans rfl; have hcz12_1 : w6.cell? ⟨gb115, 1, none⟩ = some (.int .i64 a2_1) := (blk_cell BK115.out 1).trans rfl; have hfz12_0 := blk_frozen BK115.out 0; have hfz12_1 := blk_frozen BK115.out 1))
  go_ret
  exact ⟨by first | rfl | (simp [errW_none, errW_some] <;> rfl) | (simp [*, errW_none, errW_some] <;> rfl), by repeat (first | (with_reducible first | exact HB.out | apply below_alloc | apply pw_below_drewN | apply below_drew1 | refine below_set ?_ GE113.out | refine below_set ?_ GE114.out | refine below_set ?_ GE115.out) | exact HB.out)⟩

/-! ### arch_convex: function 62 -/
def arch_convex.l0 : Nat → List (S46) → Int → Int → Option (Bool)
 | 0, _, _, _ => none
 | k + 1, x0, x5, x6 => if x6 < x5 then (if 0 ≤ x6 then (if x6 < (x0.length : Int) then (if 0 ≤ (Int.tmod (wrap64 (x6 + 1)) 4) then (if (Int.tmod (wrap64 (x6 + 1)) 4) < (x0.length : Int) then (if 0 ≤ (Int.tmod (wrap64 (x6 + 2)) 4) then (if (Int.tmod (wrap64 (x6 + 2)) 4) < (x0.length : Int) then ((arch_cross.f ((rd_T46 x0 x6).f0) ((rd_T46 x0 x6).f1) ((rd_T46 x0 (Int.tmod (wrap64 (x6 + 1)) 4)).f0) ((rd_T46 x0 (Int.tmod (wrap64 (x6 + 1)) 4)).f1) ((rd_T46 x0 (Int.tmod (wrap64 (x6 + 2)) 4)).f0) ((rd_T46 x0 (Int.tmod (wrap64 (x6 + 2)) 4)).f1)).bind fun t119 => (if t119 ≤ 0 then (some false) else (arch_convex.l0 k x0 x5 (wrap64 (x6 + 1))))) else (none)) else (none)) else (none)) else (none)) else (none)) else (none)) else (some true)
def arch_convex.f (k : Nat) (l0 : List (S46)) : Option (Bool) := arch_convex.l0 k l0 (l0.length : Int) 0
theorem arch_convex.mono_l : ∀ k, (∀ y0 y1 y2, LeO (arch_convex.l0 k y0 y1 y2) (arch_convex.l0 (k + 1) y0 y1 y2))
 | 0 => fun _ _ _ r h => by simp [arch_convex.l0] at h
 | k + 1 => by
  have ih0 := arch_convex.mono_l k
  ·intro y0 y1 y2
   unfold arch_convex.l0
   repeat' first
   | (with_reducible exact ih0 _ _ _)
   | (with_reducible exact LeO.refl _)
   | (with_reducible exact LeO.none _)
   | (with_reducible refine LeO.ite ?_ ?_)
   | (with_reducible refine LeO.bind ?_ (fun _ => ?_))
   | exact ih0 _ _ _
   | exact LeO.none _
   | refine LeO.ite ?_ ?_
   | refine LeO.bind ?_ (fun _ => ?_)
theorem arch_convex.mono : ∀ a0 k, LeO (arch_convex.f k a0) (arch_convex.f (k + 1) a0) := by
 intro a0 k
 have ih0 := arch_convex.mono_l k
 unfold arch_convex.f
 repeat' first
   | (with_reducible exact ih0 _ _ _)
   | (with_reducible exact LeO.refl _)
   | (with_reducible exact LeO.none _)
   | (with_reducible refine LeO.ite ?_ ?_)
   | (with_reducible refine LeO.bind ?_ (fun _ => ?_))
   | exact ih0 _ _ _
   | exact LeO.none _
   | refine LeO.ite ?_ ?_
   | refine LeO.bind ?_ (fun _ => ?_)
def arch_convex.T4 : Bool × List (List Nat × List Nat) := (true, [([], []), ([], []), ([0, 1], [0, 1]), ([2], [2]), ([], []), ([], []), ([5], [5]), ([6], [6]), ([4, 7], [4, 7]), ([8], [8]), ([], []), ([], []), ([11], [11]), ([12], [12]), ([10, 13], [10, 13]), ([14], [14]), ([3, 9, 15], [3, 9, 15]), ([16], [16])])
def arch_convex.B4 : List Nat := [0, 0, 3, 7, 0, 0, 32, 96, 240, 496, 0, 0, 2048, 6144, 15360, 31744, 65535, 131071]
theorem arch_convex.tab4 : rtab .any (opsOf Try.f62 4) = arch_convex.T4 := by kernel_rfl
theorem arch_convex.bits4 : waitsOk arch_convex.T4.2 arch_convex.B4 = true := by kernel_rfl
set_option maxHeartbeats 8000000 in
set_option maxRecDepth 100000 in
theorem arch_convex.calls (k : Nat) (A0 : Option Addr) (c0 : Nat) (l0 : List (S46)) (r : Bool) (w : World) (hr0 : Kd.C k46 w A0 l0.length l0) (hc0 : l0.length ≤ c0) (h : arch_convex.f k l0 = some r) :
  Calls Try.prog 62 #[.slice A0 l0.length c0] w fun e w' => e = .returned (.bool r) ∧ Below w.heap.size w w' := by
 have hu46 := Try.underlying46
 have HR0 := Aside0.mk hr0
 have HC0 := Aside0.mk hc0
 clear hr0 hc0
 have HB := Aside0.mk (Below.refl w.heap.size w)
 have H : (arch_convex.l0 k l0 (l0.length : Int) 0) = some r := h
 clear h
 have H' := Aside0.mk H
 clear H
 go_enter Try.func62, Try.ntmps62
 go_wp2
 go_loopg [6] k (fun kq v6 w' => ∃ (x6_1 : Int), v6 = .int .i64 x6_1 ∧ Aside0 (arch_convex.l0 kq l0 (l0.length : Int) x6_1 = some r) ∧ Aside0 (kq ≤ k) ∧ Aside0 (Below w.heap.size w w'))
 case atStart => exact ⟨(0), (by first | rfl | (simp; done) | (simp [*]; done)), H', ⟨Nat.le_refl _⟩, ⟨hb_ HB⟩⟩
 case round =>
  (clear H'); (obtain ⟨x6_1, rfl, HA, HK1, HB⟩ := hrel)
  cases gk with
  | zero => exact absurd HA.out (by simp [arch_convex.l0])
  | succ k1 =>
   (have H := HA.out); (clear HA); (simp only [arch_convex.l0] at H); (by_cases c2 : x6_1 < (l0.length : Int))
   ·rw [if_pos c2] at H
    (have c2b0 := decide_eq_true c2); (clear c2); (by_cases c3 : 0 ≤ x6_1)
    ·rw [if_pos c3] at H
     (have c3b0 := decide_eq_true c3); (clear c3); (by_cases c4 : x6_1 < (l0.length : Int))
     ·rw [if_pos c4] at H
      (have c4b0 := decide_eq_true c4); (clear c4); (obtain ⟨ji5, hji5⟩ : ∃ j_ : Int, (Int.tmod (wrap64 (x6_1 + 1)) 4) = j_ := ⟨_, rfl⟩); (replace H : (if 0 ≤ (ji5) then (if (ji5) < (l0.length : Int) then (if 0 ≤ (Int.tmod (wrap64 (x6_1 + 2)) 4) then (if (Int.tmod (wrap64 (x6_1 + 2)) 4) < (l0.length : Int) then ((arch_cross.f ((rd_T46 l0 x6_1).f0) ((rd_T46 l0 x6_1).f1) ((rd_T46 l0 (ji5)).f0) ((rd_T46 l0 (ji5)).f1) ((rd_T46 l0 (Int.tmod (wrap64 (x6_1 + 2)) 4)).f0) ((rd_T46 l0 (Int.tmod (wrap64 (x6_1 + 2)) 4)).f1)).bind fun t119 => (if t119 ≤ 0 then (some false) else (arch_convex.l0 k1 l0 (l0.length : Int) (wrap64 (x6_1 + 1))))) else (none)) else (none)) else (none)) else (none)) = some r := by first | (rw [hji5] at H; exact H) | (simp only [hji5] at H ⊢; exact H)); (by_cases c6 : 0 ≤ (ji5))
      ·rw [if_pos c6] at H
       (have c6b0 := decide_eq_true c6); (clear c6); (by_cases c7 : (ji5) < (l0.length : Int))
       ·rw [if_pos c7] at H
        (have c7b0 := decide_eq_true c7); (clear c7); (obtain ⟨ji8, hji8⟩ : ∃ j_ : Int, (Int.tmod (wrap64 (x6_1 + 2)) 4) = j_ := ⟨_, rfl⟩); (replace H : (if 0 ≤ (ji8) then (if (ji8) < (l0.length : Int) then ((arch_cross.f ((rd_T46 l0 x6_1).f0) ((rd_T46 l0 x6_1).f1) ((rd_T46 l0 (ji5)).f0) ((rd_T46 l0 (ji5)).f1) ((rd_T46 l0 (ji8)).f0) ((rd_T46 l0 (ji8)).f1)).bind fun t119 => (if t119 ≤ 0 then (some false) else (arch_convex.l0 k1 l0 (l0.length : Int) (wrap64 (x6_1 + 1))))) else (none)) else (none)) = some r := by first | (rw [hji8] at H; exact H) | (simp only [hji8] at H ⊢; exact H)); (by_cases c9 : 0 ≤ (ji8))
        ·rw [if_pos c9] at H
         (have c9b0 := decide_eq_true c9); (clear c9); (by_cases c10 : (ji8) < (l0.length : Int))
         ·rw [if_pos c10] at H
          (have c10b0 := decide_eq_true c10); (clear c10); (replace H := Option.bind_eq_some_iff.mp H); (obtain ⟨t119, A110, H⟩ := H); (replace H : (if t119 ≤ 0 then (some false) else (arch_convex.l0 k1 l0 (l0.length : Int) (wrap64 (x6_1 + 1)))) = some r := H); (have A11 := Aside0.mk A110); (clear A110); (by_cases c12 : t119 ≤ 0)
          ·rw [if_pos c12] at H
           (have c12b0 := decide_eq_true c12); (clear c12); (obtain rfl := Option.some.inj H); (try go_wp2); (replace HB := Aside0.mk (below_drew1 HB.out)); (have p116 : 0 ≤ (x6_1 : Int) := of_decide_eq_true (by first | (with_reducible assumption) | assumption)); (have q116 : x6_1 < (l0.length : Int) := of_decide_eq_true (by first | (with_reducible assumption) | assumption)); (obtain ⟨ad116, e116, hx116_0, hx116_1⟩ := at_T46 HR0.out x6_1 p116 q116); (have hw116_1 := hx116_1); (have hw116_0 := hx116_0); (cases e116); (replace hx116_0 := (HB.out.cell (World.block_lt_of_cell? w _ hx116_0)).trans hx116_0); (replace hx116_1 := (HB.out.cell (World.block_lt_of_cell? w _ hx116_1)).trans hx116_1); (replace p116 := eq_true p116); (replace q116 := eq_true q116); (have p117 : 0 ≤ ((ji5) : Int) := of_decide_eq_true (by first | (with_reducible assumption) | assumption)); (have q117 : (ji5) < (l0.length : Int) := of_decide_eq_true (by first | (with_reducible assumption) | assumption)); (obtain ⟨ad117, e117, hx117_0, hx117_1⟩ := at_T46 HR0.out (ji5) p117 q117); (have hw117_1 := hx117_1); (have hw117_0 := hx117_0); (obtain rfl : ad116 = ad117 := (by injection e117)); (replace hx117_0 := (HB.out.cell (World.block_lt_of_cell? w _ hx117_0)).trans hx117_0); (replace hx117_1 := (HB.out.cell (World.block_lt_of_cell? w _ hx117_1)).trans hx117_1); (replace p117 := eq_true p117); (replace q117 := eq_true q117); (have p118 : 0 ≤ ((ji8) : Int) := of_decide_eq_true (by first | (with_reducible assumption) | assumption)); (have q118 : (ji8) < (l0.length : Int) := of_decide_eq_true (by first | (with_reducible assumption) | assumption)); (obtain ⟨ad118, e118, hx118_0, hx118_1⟩ := at_T46 HR0.out (ji8) p118 q118); (have hw118_1 := hx118_1); (have hw118_0 := hx118_0); (obtain rfl : ad116 = ad118 := (by injection e118)); (replace hx118_0 := (HB.out.cell (World.block_lt_of_cell? w _ hx118_0)).trans hx118_0); (replace hx118_1 := (HB.out.cell (World.block_lt_of_cell? w _ hx118_1)).trans hx118_1); (replace p118 := eq_true p118); (replace q118 := eq_true q118); (refine start_ (n := 18) (S := fun w' => w'.cell? (ad116.add ((x6_1).toNat * 2)) = some (.int .i64 ((rd_T46 l0 x6_1).f0)) ∧ w'.cell? ⟨(ad116.add ((x6_1).toNat * 2)).block, (ad116.add ((x6_1).toNat * 2)).off + 1, none⟩ = some (.int .i64 ((rd_T46 l0 x6_1).f1)) ∧ w'.cell? (ad116.add (((ji5)).toNat * 2)) = some (.int .i64 ((rd_T46 l0 (ji5)).f0)) ∧ w'.cell? ⟨(ad116.add (((ji5)).toNat * 2)).block, (ad116.add (((ji5)).toNat * 2)).off + 1, none⟩ = some (.int .i64 ((rd_T46 l0 (ji5)).f1)) ∧ w'.cell? (ad116.add (((ji8)).toNat * 2)) = some (.int .i64 ((rd_T46 l0 (ji8)).f0)) ∧ w'.cell? ⟨(ad116.add (((ji8)).toNat * 2)).block, (ad116.add (((ji8)).toNat * 2)).off + 1, none⟩ = some (.int .i64 ((rd_T46 l0 (ji8)).f1))) (ds := []) (bm 18 0) (by kernel_rfl) rfl rfl ⟨((HB.out.cell (World.block_lt_of_cell? w _ hw116_0)).trans hw116_0), ((HB.out.cell (World.block_lt_of_cell? w _ hw116_1)).trans hw116_1), ((HB.out.cell (World.block_lt_of_cell? w _ hw117_0)).trans hw117_0), ((HB.out.cell (World.block_lt_of_cell? w _ hw117_1)).trans hw117_1), ((HB.out.cell (World.block_lt_of_cell? w _ hw118_0)).trans hw118_0), ((HB.out.cell (World.block_lt_of_cell? w _ hw118_1)).trans hw118_1)⟩ (fun hHeld => ?_); refine with_tabW arch_convex.tab4 arch_convex.bits4 (fun HT_ HW_ => ?_))
           (generalize wr.drew = w13 at HB hx116_0 hx116_1 hx117_0 hx117_1 hx118_0 hx118_1 hHeld ⊢); (refine pv_ 0 HT_ ?_); (refine pv_ 1 HT_ ?_); (refine pv_ 2 HT_ ?_); (refine pv_ 4 HT_ ?_); (refine pv_ 5 HT_ ?_); (refine pv_ 6 HT_ ?_); (refine pv_ 7 HT_ ?_); (refine pv_ 8 HT_ ?_); (refine pv_ 10 HT_ ?_); (refine pv_ 11 HT_ ?_); (refine pv_ 12 HT_ ?_); (refine pv_ 13 HT_ ?_); (refine pv_ 14 HT_ ?_); (refine tv_ 3 HT_ HW_ hHeld ?_); (refine tv_ 9 HT_ HW_ hHeld ?_); (refine tv_ 15 HT_ HW_ hHeld ?_); (refine one_ (i := 16) (N := some 25) (bm 18 131071) rfl rfl (one_of HT_.out (by kernel_rfl)) (by decide) (fun K hK => ?_)); (refine goes_ Try.func69 (by kernel_rfl) rfl #[.agg #[.int .i64 ((rd_T46 l0 x6_1).f0), .int .i64 ((rd_T46 l0 x6_1).f1)], .agg #[.int .i64 ((rd_T46 l0 (ji5)).f0), .int .i64 ((rd_T46 l0 (ji5)).f1)], .agg #[.int .i64 ((rd_T46 l0 (ji8)).f0), .int .i64 ((rd_T46 l0 (ji8)).f1)]] (by rfl) rfl rfl (by (try simp only [List.map_toArray, List.map_cons, List.map_nil]); first | done | (simp only [hji5, hji8]; rfl) | rfl | (simp only [List.length_drop, List.length_take]; rfl)) ?_); (with_reducible refine (arch_cross.calls ((rd_T46 l0 x6_1).f0) ((rd_T46 l0 x6_1).f1) ((rd_T46 l0 (ji5)).f0) ((rd_T46 l0 (ji5)).f1) ((rd_T46 l0 (ji8)).f0) ((rd_T46 l0 (ji8)).f1) t119 _ A11.out).mono ?_); (rintro e w14 ⟨rfl, hb⟩); (refine ⟨_, rfl, ?_⟩); (replace HB := hs_ HB hb); ((try clear hb)); ((try clear hb2)); ((try clear hk)); ((try clear hi)); (refine hK.out _ _ ⟨((HB.out.cell (World.block_lt_of_cell? w _ hw116_0)).trans hw116_0), ((HB.out.cell (World.block_lt_of_cell? w _ hw116_1)).trans hw116_1), ((HB.out.cell (World.block_lt_of_cell? w _ hw117_0)).trans hw117_0), ((HB.out.cell (World.block_lt_of_cell? w _ hw117_1)).trans hw117_1), ((HB.out.cell (World.block_lt_of_cell? w _ hw118_0)).trans hw118_0), ((HB.out.cell (World.block_lt_of_cell? w _ hw118_1)).trans hw118_1)⟩ (fun hHeld => ?_)); (clear hK K); (refine nv_ ?_); (refine pv_ 17 HT_ ?_); (refine done_ (done_of HT_.out (by kernel_rfl)) ?_); (try go_wp2); (go_ret); (exact ⟨by first | rfl | (simp [errW_none, errW_some] <;> rfl) | (simp only [← hji5, ← hji8]; first | rfl | (simp [errW_none, errW_some] <;> rfl)) | (simp [*, errW_none, errW_some] <;> rfl), hb_ HB⟩)
          ·rw [if_neg c12] at H
           (have c12b0 := decide_eq_false c12); (clear c12); (have H' := Aside0.mk H); (clear H); (try go_wp2); (replace HB := Aside0.mk (below_drew1 HB.out)); (have p116 : 0 ≤ (x6_1 : Int) := of_decide_eq_true (by first | (with_reducible assumption) | assumption)); (have q116 : x6_1 < (l0.length : Int) := of_decide_eq_true (by first | (with_reducible assumption) | assumption)); (obtain ⟨ad116, e116, hx116_0, hx116_1⟩ := at_T46 HR0.out x6_1 p116 q116); (have hw116_1 := hx116_1); (have hw116_0 := hx116_0); (cases e116); (replace hx116_0 := (HB.out.cell (World.block_lt_of_cell? w _ hx116_0)).trans hx116_0); (replace hx116_1 := (HB.out.cell (World.block_lt_of_cell? w _ hx116_1)).trans hx116_1); (replace p116 := eq_true p116); (replace q116 := eq_true q116); (have p117 : 0 ≤ ((ji5) : Int) := of_decide_eq_true (by first | (with_reducible assumption) | assumption)); (have q117 : (ji5) < (l0.length : Int) := of_decide_eq_true (by first | (with_reducible assumption) | assumption)); (obtain ⟨ad117, e117, hx117_0, hx117_1⟩ := at_T46 HR0.out (ji5) p117 q117); (have hw117_1 := hx117_1); (have hw117_0 := hx117_0); (obtain rfl : ad116 = ad117 := (by injection e117)); (replace hx117_0 := (HB.out.cell (World.block_lt_of_cell? w _ hx117_0)).trans hx117_0); (replace hx117_1 := (HB.out.cell (World.block_lt_of_cell? w _ hx117_1)).trans hx117_1); (replace p117 := eq_true p117); (replace q117 := eq_true q117); (have p118 : 0 ≤ ((ji8) : Int) := of_decide_eq_true (by first | (with_reducible assumption) | assumption)); (have q118 : (ji8) < (l0.length : Int) := of_decide_eq_true (by first | (with_reducible assumption) | assumption)); (obtain ⟨ad118, e118, hx118_0, hx118_1⟩ := at_T46 HR0.out (ji8) p118 q118); (have hw118_1 := hx118_1); (have hw118_0 := hx118_0); (obtain rfl : ad116 = ad118 := (by injection e118)); (replace hx118_0 := (HB.out.cell (World.block_lt_of_cell? w _ hx118_0)).trans hx118_0); (replace hx118_1 := (HB.out.cell (World.block_lt_of_cell? w _ hx118_1)).trans hx118_1); (replace p118 := eq_true p118); (replace q118 := eq_true q118); (refine start_ (n := 18) (S := fun w' => w'.cell? (ad116.add ((x6_1).toNat * 2)) = some (.int .i64 ((rd_T46 l0 x6_1).f0)) ∧ w'.cell? ⟨(ad116.add ((x6_1).toNat * 2)).block, (ad116.add ((x6_1).toNat * 2)).off + 1, none⟩ = some (.int .i64 ((rd_T46 l0 x6_1).f1)) ∧ w'.cell? (ad116.add (((ji5)).toNat * 2)) = some (.int .i64 ((rd_T46 l0 (ji5)).f0)) ∧ w'.cell? ⟨(ad116.add (((ji5)).toNat * 2)).block, (ad116.add (((ji5)).toNat * 2)).off + 1, none⟩ = some (.int .i64 ((rd_T46 l0 (ji5)).f1)) ∧ w'.cell? (ad116.add (((ji8)).toNat * 2)) = some (.int .i64 ((rd_T46 l0 (ji8)).f0)) ∧ w'.cell? ⟨(ad116.add (((ji8)).toNat * 2)).block, (ad116.add (((ji8)).toNat * 2)).off + 1, none⟩ = some (.int .i64 ((rd_T46 l0 (ji8)).f1))) (ds := []) (bm 18 0) (by kernel_rfl) rfl rfl ⟨((HB.out.cell (World.block_lt_of_cell? w _ hw116_0)).trans hw116_0), ((HB.out.cell (World.block_lt_of_cell? w _ hw116_1)).trans hw116_1), ((HB.out.cell (World.block_lt_of_cell? w _ hw117_0)).trans hw117_0), ((HB.out.cell (World.block_lt_of_cell? w _ hw117_1)).trans hw117_1), ((HB.out.cell (World.block_lt_of_cell? w _ hw118_0)).trans hw118_0), ((HB.out.cell (World.block_lt_of_cell? w _ hw118_1)).trans hw118_1)⟩ (fun hHeld => ?_); refine with_tabW arch_convex.tab4 arch_convex.bits4 (fun HT_ HW_ => ?_))
           (generalize wr.drew = w15 at HB hx116_0 hx116_1 hx117_0 hx117_1 hx118_0 hx118_1 hHeld ⊢); (refine pv_ 0 HT_ ?_); (refine pv_ 1 HT_ ?_); (refine pv_ 2 HT_ ?_); (refine pv_ 4 HT_ ?_); (refine pv_ 5 HT_ ?_); (refine pv_ 6 HT_ ?_); (refine pv_ 7 HT_ ?_); (refine pv_ 8 HT_ ?_); (refine pv_ 10 HT_ ?_); (refine pv_ 11 HT_ ?_); (refine pv_ 12 HT_ ?_); (refine pv_ 13 HT_ ?_); (refine pv_ 14 HT_ ?_); (refine tv_ 3 HT_ HW_ hHeld ?_); (refine tv_ 9 HT_ HW_ hHeld ?_); (refine tv_ 15 HT_ HW_ hHeld ?_); (refine one_ (i := 16) (N := some 25) (bm 18 131071) rfl rfl (one_of HT_.out (by kernel_rfl)) (by decide) (fun K hK => ?_)); (refine goes_ Try.func69 (by kernel_rfl) rfl #[.agg #[.int .i64 ((rd_T46 l0 x6_1).f0), .int .i64 ((rd_T46 l0 x6_1).f1)], .agg #[.int .i64 ((rd_T46 l0 (ji5)).f0), .int .i64 ((rd_T46 l0 (ji5)).f1)], .agg #[.int .i64 ((rd_T46 l0 (ji8)).f0), .int .i64 ((rd_T46 l0 (ji8)).f1)]] (by rfl) rfl rfl (by (try simp only [List.map_toArray, List.map_cons, List.map_nil]); first | done | (simp only [hji5, hji8]; rfl) | rfl | (simp only [List.length_drop, List.length_take]; rfl)) ?_); (with_reducible refine (arch_cross.calls ((rd_T46 l0 x6_1).f0) ((rd_T46 l0 x6_1).f1) ((rd_T46 l0 (ji5)).f0) ((rd_T46 l0 (ji5)).f1) ((rd_T46 l0 (ji8)).f0) ((rd_T46 l0 (ji8)).f1) t119 _ A11.out).mono ?_); (rintro e w16 ⟨rfl, hb⟩); (refine ⟨_, rfl, ?_⟩); (replace HB := hs_ HB hb); ((try clear hb)); ((try clear hb2)); ((try clear hk)); ((try clear hi)); (refine hK.out _ _ ⟨((HB.out.cell (World.block_lt_of_cell? w _ hw116_0)).trans hw116_0), ((HB.out.cell (World.block_lt_of_cell? w _ hw116_1)).trans hw116_1), ((HB.out.cell (World.block_lt_of_cell? w _ hw117_0)).trans hw117_0), ((HB.out.cell (World.block_lt_of_cell? w _ hw117_1)).trans hw117_1), ((HB.out.cell (World.block_lt_of_cell? w _ hw118_0)).trans hw118_0), ((HB.out.cell (World.block_lt_of_cell? w _ hw118_1)).trans hw118_1)⟩ (fun hHeld => ?_)); (clear hK K); (refine nv_ ?_); (refine pv_ 17 HT_ ?_); (refine done_ (done_of HT_.out (by kernel_rfl)) ?_); (try go_wp2); (go_roundg k1)
           case measure => have := HK1.out; omega
           case rel => exact ⟨(wrap64 (x6_1 + 1)), (by first | rfl | (simp; done) | (simp [*]; done)), H', ⟨by have := HK1.out; omega⟩, ⟨hb_ HB⟩⟩
         ·(rw [if_neg c10] at H); (exact absurd H (by simp))
        ·(rw [if_neg c9] at H); (exact absurd H (by simp))
       ·(rw [if_neg c7] at H); (exact absurd H (by simp))
      ·(rw [if_neg c6] at H); (exact absurd H (by simp))
     ·(rw [if_neg c4] at H); (exact absurd H (by simp))
    ·(rw [if_neg c3] at H); (exact absurd H (by simp))
   ·(rw [if_neg c2] at H); (have c2b0 := decide_eq_false c2); (clear c2); (obtain rfl := Option.some.inj H); (go_wp2); (go_ret); (exact ⟨by first | rfl | (simp [errW_none, errW_some] <;> rfl) | (simp [*, errW_none, errW_some] <;> rfl), hb_ HB⟩)

/-! ### arch_Check_3: function 61 -/
def arch_Check_3.f (k : Nat) (l0 : List (S46)) : Option (Bool) := (arch_convex.f k l0).bind fun t120 => (some (!t120))
theorem arch_Check_3.mono : ∀ a0 k, LeO (arch_Check_3.f k a0) (arch_Check_3.f (k + 1) a0) := by
  intro a0 k
  unfold arch_Check_3.f
  repeat' first
      | (with_reducible exact arch_convex.mono _ _)
      | (with_reducible exact LeO.refl _)
      | (with_reducible exact LeO.none _)
      | (with_reducible refine LeO.ite ?_ ?_)
      | (with_reducible refine LeO.bind ?_ (fun _ => ?_))
      | exact arch_convex.mono _ _
      | exact LeO.none _
      | refine LeO.ite ?_ ?_
      | refine LeO.bind ?_ (fun _ => ?_)
set_option maxHeartbeats 8000000 in
set_option maxRecDepth 100000 in
theorem arch_Check_3.calls (k : Nat) (A0 : Option Addr) (c0 : Nat) (l0 : List (S46)) (r : Bool) (w : World) (hr0 : Kd.C k46 w A0 l0.length l0) (hc0 : l0.length ≤ c0) (h : arch_Check_3.f k l0 = some r) :
    Calls Try.prog 61 #[.slice A0 l0.length c0] w fun e w' => e = .returned (.bool r) ∧ Below w.heap.size w w' := by
  have HR0 := Aside0.mk hr0
  have HC0 := Aside0.mk hc0
  clear hr0 hc0
  have HB := Aside0.mk (Below.refl w.heap.size w)
  have H : ((arch_convex.f k l0).bind fun t120 => (some (!t120))) = some r := h
  clear h
  replace H := Option.bind_eq_some_iff.mp H
  obtain ⟨t120, A20, H⟩ := H
  replace H : (some (!t120)) = some r := H
  have A2 := Aside0.mk A20
  clear A20
  obtain rfl := Option.some.inj H
  go_enter Try.func61, Try.ntmps61
  go_wp2_with (first | ((with_reducible refine gate_callee (f := 62) rfl ?_); refine goesL_ (some 4) rfl rfl Try.func62 (by kernel_rfl) rfl #[.slice A0 l0.length c0] rfl (by (try simp only [List.map_toArray, List.map_cons, List.map_nil]); first | done | rfl | (simp only [List.length_drop, List.length_take]; rfl)) ?_; (with_reducible refine (arch_convex.calls k _ _ l0 t120 _ ?side1 ?side2 A2.out).mono ?_); (case side1 => repeat (first | exact HR0.out | (with_reducible refine Kd.C_alloc ?_ _) | (with_reducible refine Kd.C_drewN ?_ _) | (with_reducible refine Kd.C_drew ?_))); (case side2 => exact HC0.out); rintro e w3 ⟨rfl, hb⟩; refine ⟨_, rfl, ?_⟩; have n0_ := Aside0.mk (below_step (by repeat (first | (with_reducible first | exact HB.out | apply below_alloc | apply pw_below_drewN | apply below_drew1) | exact HB.out)) hb); clear HB; have HB := n0_; clear n0_; (try clear hb); (try clear hb2); (try clear hk); (try clear hi)))
  go_ret
  exact ⟨by first | rfl | (simp [errW_none, errW_some] <;> rfl) | (simp [*, errW_none, errW_some] <;> rfl), by repeat (first | (with_reducible first | exact HB.out | apply below_alloc | apply pw_below_drewN | apply below_drew1) | exact HB.out)⟩

-- NOT PRINTED: function 66 (arch_edges_1)

-- NOT PRINTED: function 43 (arch_edges)

/-! ### arch_apart_1: function 70 -/
def arch_apart_1.f (a0_0 : Int) (a0_1 : Int) (s8_0 : Int) (s8_1 : Int) (s16_0 : Int) (s16_1 : Int) : Option (Bool) := (arch_cross.f s8_0 s8_1 s16_0 s16_1 a0_0 a0_1).bind fun t122 => (some (decide (t122 > 0)))
set_option maxHeartbeats 8000000 in
set_option maxRecDepth 100000 in
theorem arch_apart_1.calls (a0_0 : Int) (a0_1 : Int) (g8 : Nat) (s8_0 : Int) (s8_1 : Int) (g16 : Nat) (s16_0 : Int) (s16_1 : Int) (r : Bool) (w : World) (hb8 : w.heap[g8]? = some (.cells #[.int .i64 s8_0, .int .i64 s8_1] 46 (0, 0))) (hb16 : w.heap[g16]? = some (.cells #[.int .i64 s16_0, .int .i64 s16_1] 46 (0, 0))) (h : arch_apart_1.f a0_0 a0_1 s8_0 s8_1 s16_0 s16_1 = some r) :
    Calls Try.prog 70 #[.agg #[.int .i64 a0_0, .int .i64 a0_1], .pointer (some ⟨g8, 0, none⟩), .pointer (some ⟨g16, 0, none⟩)] w fun e w' => e = .returned (.bool r) ∧ Below w.heap.size w w' := by
  have hu46 := Try.underlying46
  have BK8 := Aside0.mk hb8
  clear hb8
  have BK16 := Aside0.mk hb16
  clear hb16
  have HB := Aside0.mk (Below.refl w.heap.size w)
  have H : ((arch_cross.f s8_0 s8_1 s16_0 s16_1 a0_0 a0_1).bind fun t122 => (some (decide (t122 > 0)))) = some r := h
  clear h
  replace H := Option.bind_eq_some_iff.mp H
  obtain ⟨t122, A40, H⟩ := H
  replace H : (some (decide (t122 > 0))) = some r := H
  have A4 := Aside0.mk A40
  clear A40
  obtain rfl := Option.some.inj H
  go_enter Try.func70, Try.ntmps70
  go_wp2_with (first | ((with_reducible refine gate_dst (N := 3) rfl ?_); refine box_event ?hg (N := 3) ?hd (cs := #[.int .i64 a0_0, .int .i64 a0_1]) (t := 46) ?hr ?_; (case hd => rfl); (case hg => first | rfl | (go_simp; done)); (case hr => first | (go_simp; done) | (go_simp; rfl)); intro gb121 hg w5 hbox hb; have n0_ := Aside0.mk (blk_below (g := g8) (o := .cells #[.int .i64 s8_0, .int .i64 s8_1] 46 (0, 0)) (by (with_reducible repeat (first | refine blk_drewN ?_ _ | refine blk_drew ?_ | refine blk_alloc ?_ _)); exact BK8.out) hb); have n1_ := Aside0.mk (blk_below (g := g16) (o := .cells #[.int .i64 s16_0, .int .i64 s16_1] 46 (0, 0)) (by (with_reducible repeat (first | refine blk_drewN ?_ _ | refine blk_drew ?_ | refine blk_alloc ?_ _)); exact BK16.out) hb); have n2_ := Aside0.mk (below_step (by repeat (first | (with_reducible first | exact HB.out | apply below_alloc | apply pw_below_drewN | apply below_drew1 | refine below_set ?_ GE8.out | refine below_set ?_ GE16.out) | exact HB.out)) hb); have n3_ := Aside0.mk (hbox); have n4_ := Aside0.mk ((by rw [hg]; exact (below_size (by repeat (first | (with_reducible first | exact HB.out | apply below_alloc | apply pw_below_drewN | apply below_drew1 | refine below_set ?_ GE8.out | refine below_set ?_ GE16.out) | exact HB.out))) : w.heap.size ≤ gb121)); have n5_ := Aside0.mk ((by rw [hg]; exact (below_size (by repeat (first | (with_reducible first | exact HB.out | apply below_alloc | apply pw_below_drewN | apply below_drew1 | refine below_set ?_ GE8.out | refine below_set ?_ GE16.out) | exact HB.out))) : w.heap.size ≤ gb121)); have n6_ := Aside0.mk ((by rw [hg]; exact Nat.ne_of_lt (blk_lt (g := g8) (o := .cells #[.int .i64 s8_0, .int .i64 s8_1] 46 (0, 0)) (by (with_reducible repeat (first | refine blk_drewN ?_ _ | refine blk_drew ?_ | refine blk_alloc ?_ _)); exact BK8.out)) : g8 ≠ gb121)); have n7_ := Aside0.mk ((by rw [hg]; exact Nat.ne_of_gt (blk_lt (g := g8) (o := .cells #[.int .i64 s8_0, .int .i64 s8_1] 46 (0, 0)) (by (with_reducible repeat (first | refine blk_drewN ?_ _ | refine blk_drew ?_ | refine blk_alloc ?_ _)); exact BK8.out)) : gb121 ≠ g8)); have n8_ := Aside0.mk ((by rw [hg]; exact Nat.ne_of_lt (blk_lt (g := g16) (o := .cells #[.int .i64 s16_0, .int .i64 s16_1] 46 (0, 0)) (by (with_reducible repeat (first | refine blk_drewN ?_ _ | refine blk_drew ?_ | refine blk_alloc ?_ _)); exact BK16.out)) : g16 ≠ gb121)); have n9_ := Aside0.mk ((by rw [hg]; exact Nat.ne_of_gt (blk_lt (g := g16) (o := .cells #[.int .i64 s16_0, .int .i64 s16_1] 46 (0, 0)) (by (with_reducible repeat (first | refine blk_drewN ?_ _ | refine blk_drew ?_ | refine blk_alloc ?_ _)); exact BK16.out)) : gb121 ≠ g16)); clear BK8; clear BK16; clear HB; have BK8 := n0_; have BK16 := n1_; have HB := n2_; have BK121 := n3_; have GW121 := n4_; have GE121 := n5_; have NB8_121 := n6_; have NB121_8 := n7_; have NB16_121 := n8_; have NB121_16 := n9_; clear n0_ n1_ n2_ n3_ n4_ n5_ n6_ n7_ n8_ n9_; clear hb hbox hg; have hnb6 := NB8_121.out; have hnc6 := NB121_8.out; have hcz7_0 : w5.cell? ⟨g8, 0, none⟩ = some (.int .i64 s8_0) := (blk_cell BK8.out 0).trans rfl; have hcz7_1 : w5.cell? ⟨g8, 1, none⟩ = some (.int .i64 s8_1) := (blk_cell BK8.out 1).trans rfl; have hfz7_0 := blk_frozen BK8.out 0; have hfz7_1 := blk_frozen BK8.out 1; have hnb8 := NB16_121.out; have hnc8 := NB121_16.out; have hcz9_0 : w5.cell? ⟨g16, 0, none⟩ = some (.int .i64 s16_0) := (blk_cell BK16.out 0).trans rfl; have hcz9_1 : w5.cell? ⟨g16, 1, none⟩ = some (.int .i64 s16_1) := (blk_cell BK16.out 1).trans rfl; have hfz9_0 := blk_frozen BK16.out 0; have hfz9_1 := blk_frozen BK16.out 1; have hcz10_0 : w5.cell? ⟨gb121, 0, none⟩ = some (.int .i64 a0_0) := (blk_cell BK121.out 0).trans rfl; have hcz10_1 : w5.cell? ⟨gb121, 1, none⟩ = some (.int .i64 a0_1) := (blk_cell BK121.out 1).trans rfl; have hfz10_0 := blk_frozen BK121.out 0; have hfz10_1 := blk_frozen BK121.out 1) | ((with_reducible refine gate_callee (f := 69) rfl ?_); refine goesL_ (some 8) rfl rfl Try.func69 (by kernel_rfl) rfl #[.agg #[.int .i64 s8_0, .int .i64 s8_1], .agg #[.int .i64 s16_0, .int .i64 s16_1], .agg #[.int .i64 a0_0, .int .i64 a0_1]] rfl (by (try simp only [List.map_toArray, List.map_cons, List.map_nil]); first | done | rfl | (simp only [List.length_drop, List.length_take]; rfl)) ?_; (with_reducible refine (arch_cross.calls s8_0 s8_1 s16_0 s16_1 a0_0 a0_1 t122 _ A4.out).mono ?_); rintro e w11 ⟨rfl, hb⟩; refine ⟨_, rfl, ?_⟩; have n0_ := Aside0.mk (blk_below (g := g8) (o := .cells #[.int .i64 s8_0, .int .i64 s8_1] 46 (0, 0)) (by (with_reducible repeat (first | refine blk_drewN ?_ _ | refine blk_drew ?_ | refine blk_alloc ?_ _)); exact BK8.out) hb); have n1_ := Aside0.mk (blk_below (g := g16) (o := .cells #[.int .i64 s16_0, .int .i64 s16_1] 46 (0, 0)) (by (with_reducible repeat (first | refine blk_drewN ?_ _ | refine blk_drew ?_ | refine blk_alloc ?_ _)); exact BK16.out) hb); have n2_ := Aside0.mk (blk_below (g := gb121) (o := .cells #[.int .i64 a0_0, .int .i64 a0_1] 46 (0, 0)) (by (with_reducible repeat (first | refine blk_drewN ?_ _ | refine blk_drew ?_ | refine blk_alloc ?_ _)); exact BK121.out) hb); have n3_ := Aside0.mk (below_step (by repeat (first | (with_reducible first | exact HB.out | apply below_alloc | apply pw_below_drewN | apply below_drew1 | refine below_set ?_ GE8.out | refine below_set ?_ GE16.out | refine below_set ?_ GE121.out) | exact HB.out)) hb); clear BK8; clear BK16; clear BK121; clear HB; have BK8 := n0_; have BK16 := n1_; have BK121 := n2_; have HB := n3_; clear n0_ n1_ n2_ n3_; (try clear hb); (try clear hb2); (try clear hk); (try clear hi)))
  go_ret
  exact ⟨by first | rfl | (simp [errW_none, errW_some] <;> rfl) | (simp [*, errW_none, errW_some] <;> rfl), by repeat (first | (with_reducible first | exact HB.out | apply below_alloc | apply pw_below_drewN | apply below_drew1 | refine below_set ?_ GE8.out | refine below_set ?_ GE16.out | refine below_set ?_ GE121.out) | exact HB.out)⟩

end Go.Proofs.Ytjlljjnkjhdljaa.XA
