-- written by xprint.py, this project's own program (wip/), over the words of print.sh
import Derived.Test.YtmmmmgdafifpiaaXAx0
import Derived.Test.YtmmmmgdafifpiaaXAx6
import Derived.Test.YtmmmmgdafifpiaaXAx7
import Derived.Test.YtmmmmgdafifpiaaFlat
import Derived.Test.YtmmmmgdafifpiaaClo
namespace Go.Proofs.Ytmmmmgdafifpiaa.XA
open Go.Proofs.Ytmmmmgdafifpiaa.Clo Go.Proofs.Ytmmmmgdafifpiaa.Flat Go.RowKit Go.Proofs.Ytmmmmgdafifpiaa.Opens Go.Proofs.YtmmmmgdafifpiaaW.PrintWords Go.Proofs.YtmmmmgdafifpiaaW.PrintLast Go.Proofs.YtmmmmgdafifpiaaW.PrintMore
attribute [local go_sem] max2_int min2_int max_two min_two max_three min_three max_four min_four cell_some cell_same   -- for this text's walks alone
set_option linter.unusedVariables false
set_option linter.unusedSimpArgs false

/-! ### anchor_row: function 34 -/
def anchor_row.l0 : Nat → Int → Int → List (S54) → Int → Int → Int → Int → Int → Int → Int → Int → Int → Option ((List (S54)))
 | 0, _, _, _, _, _, _, _, _, _, _, _, _ => none
 | k + 1, x1, x10, x14, x29, x30, x114000, x115000, x115001, x115002, x118000, x119000, x120000 => if x30 < x29 then ((anchor_row_1.f x30 x114000 x118000 x120000 x119000).bind fun t120 => (if x14.length < 4398046511104 then (anchor_row.l0 k x1 x10 (x14 ++ [(⟨x1, (⟨t120, wrap64 (Int.tdiv x10 2)⟩ : S52), x115000⟩ : S54)]) x29 (wrap64 (x30 + 1)) x114000 x115000 x115001 x115002 x118000 x119000 x120000) else (none))) else (some x14)
def anchor_row.f (k : Nat) (a0_0 : Int) (a0_1 : Int) (a0_2 : Int) (a1 : Int) (a2 : Int) (a3_0 : Int) (a3_1 : Int) (a3_2 : Int) : Option ((List (S54))) := (anchor_face.f a0_0 a0_1 a0_2 a1).bind fun bt115 => (anchor_row.l0 k a1 bt115.2 ([] : List (S54)) a2 0 a2 a3_0 a3_1 a3_2 bt115.1 a3_0 (wrap64 (bt115.1 - a3_0)))
theorem anchor_row.mono_l : ∀ k, (∀ y0 y1 y2 y3 y4 y5 y6 y7 y8 y9 y10 y11, LeO (anchor_row.l0 k y0 y1 y2 y3 y4 y5 y6 y7 y8 y9 y10 y11) (anchor_row.l0 (k + 1) y0 y1 y2 y3 y4 y5 y6 y7 y8 y9 y10 y11))
 | 0 => fun _ _ _ _ _ _ _ _ _ _ _ _ r h => by simp [anchor_row.l0] at h
 | k + 1 => by
  have ih0 := anchor_row.mono_l k
  ·intro y0 y1 y2 y3 y4 y5 y6 y7 y8 y9 y10 y11
   unfold anchor_row.l0
   repeat' first
   | (with_reducible exact ih0 _ _ _ _ _ _ _ _ _ _ _ _)
   | (with_reducible exact LeO.refl _)
   | (with_reducible exact LeO.none _)
   | (with_reducible refine LeO.ite ?_ ?_)
   | (with_reducible refine LeO.bind ?_ (fun _ => ?_))
   | exact ih0 _ _ _ _ _ _ _ _ _ _ _ _
   | exact LeO.none _
   | refine LeO.ite ?_ ?_
   | refine LeO.bind ?_ (fun _ => ?_)
theorem anchor_row.mono : ∀ a0 a1 a2 a3 a4 a5 a6 a7 k, LeO (anchor_row.f k a0 a1 a2 a3 a4 a5 a6 a7) (anchor_row.f (k + 1) a0 a1 a2 a3 a4 a5 a6 a7) := by
 intro a0 a1 a2 a3 a4 a5 a6 a7 k
 have ih0 := anchor_row.mono_l k
 unfold anchor_row.f
 repeat' first
   | (with_reducible exact ih0 _ _ _ _ _ _ _ _ _ _ _ _)
   | (with_reducible exact LeO.refl _)
   | (with_reducible exact LeO.none _)
   | (with_reducible refine LeO.ite ?_ ?_)
   | (with_reducible refine LeO.bind ?_ (fun _ => ?_))
   | exact ih0 _ _ _ _ _ _ _ _ _ _ _ _
   | exact LeO.none _
   | refine LeO.ite ?_ ?_
   | refine LeO.bind ?_ (fun _ => ?_)
def anchor_row.T2 : Bool × List (List Nat × List Nat) := (true, [([], []), ([0], [0]), ([], []), ([], []), ([3], [3]), ([2, 4], [2, 4]), ([], []), ([], []), ([6, 1, 0, 1, 6, 7], [1, 6]), ([7, 5, 8, 0, 1, 2, 3, 4, 5, 6, 7, 8], [5, 7])])
def anchor_row.B2 : List Nat := [0, 1, 0, 0, 8, 28, 0, 0, 195, 511]
theorem anchor_row.tab2 : rtab .any (opsOf Try.f34 2) = anchor_row.T2 := by kernel_rfl
theorem anchor_row.bits2 : waitsOk anchor_row.T2.2 anchor_row.B2 = true := by kernel_rfl
def anchor_row.T8 : Bool × List (List Nat × List Nat) := (true, [([], []), ([], []), ([], []), ([], []), ([2, 3], [2, 3]), ([], []), ([5], [5]), ([4, 6], [4, 6]), ([], []), ([8], [8]), ([1, 7, 9], [1, 7, 9]), ([10], [10]), ([0, 11, 4], [0, 11]), ([12, 12, 0, 1, 2, 3, 4, 5, 6, 7, 8, 9, 10, 11, 12], [0, 12])])
def anchor_row.B8 : List Nat := [0, 0, 0, 0, 12, 0, 32, 124, 0, 256, 1022, 2046, 4095, 8191]
theorem anchor_row.tab8 : rtab .any (opsOf Try.f34 8) = anchor_row.T8 := by kernel_rfl
theorem anchor_row.bits8 : waitsOk anchor_row.T8.2 anchor_row.B8 = true := by kernel_rfl
set_option maxHeartbeats 8000000 in
set_option maxRecDepth 100000 in
theorem anchor_row.calls (k : Nat) (a0_0 : Int) (a0_1 : Int) (a0_2 : Int) (a1 : Int) (a2 : Int) (a3_0 : Int) (a3_1 : Int) (a3_2 : Int) (r : List (S54)) (w : World) (h : anchor_row.f k a0_0 a0_1 a0_2 a1 a2 a3_0 a3_1 a3_2 = some r) :
  Calls Try.prog 34 #[.agg #[.int .i64 a0_0, .int .i64 a0_1, .int .i64 a0_2], .int .i64 a1, .int .i64 a2, .agg #[.int .i64 a3_0, .int .i64 a3_1, .int .i64 a3_2]] w fun e w' => ∃ v0_ : Value, e = .returned (v0_) ∧ Kd.R k54 54 w' w.heap.size (fun _ => True) v0_ r ∧ Below w.heap.size w w' := by
 have hu33 := Try.underlying33
 have hu3 := Try.underlying3
 have hu27 := Try.underlying27
 have hu52 := Try.underlying52
 have hu54 := Try.underlying54
 have HB := Aside0.mk (Below.refl w.heap.size w)
 have H : ((anchor_face.f a0_0 a0_1 a0_2 a1).bind fun bt115 => (anchor_row.l0 k a1 bt115.2 ([] : List (S54)) a2 0 a2 a3_0 a3_1 a3_2 bt115.1 a3_0 (wrap64 (bt115.1 - a3_0)))) = some r := h
 clear h
 replace H := Option.bind_eq_some_iff.mp H
 obtain ⟨⟨t115, t116⟩, A50, H⟩ := H
 replace H : (anchor_row.l0 k a1 t116 ([] : List (S54)) a2 0 a2 a3_0 a3_1 a3_2 t115 a3_0 (wrap64 (t115 - a3_0))) = some r := H
 have A5 := Aside0.mk A50
 clear A50
 have H' := Aside0.mk H
 clear H
 go_enter Try.func34, Try.ntmps34
 try go_wp2_with (first | ((with_reducible refine gate_dst (N := 4) rfl ?_); refine box_event ?hg (N := 4) ?hd (cs := #[.int .i64 a0_0, .int .i64 a0_1, .int .i64 a0_2]) (t := 33) ?hr ?_; (case hd => rfl); (case hg => first | rfl | (go_simp; done)); (case hr => first | (go_simp; done) | (go_simp; rfl)); intro gb112 hg w6 hbox hb; have n0_ := Aside0.mk (below_step (hb_ HB) hb); have n1_ := Aside0.mk (hbox); have n2_ := Aside0.mk ((by rw [hg]; exact (below_size (hb_ HB)) : w.heap.size ≤ gb112)); have n3_ := Aside0.mk ((by rw [hg]; exact (below_size (hb_ HB)) : w.heap.size ≤ gb112)); clear HB; have HB := n0_; have BK112 := n1_; have GW112 := n2_; have GE112 := n3_; clear n0_ n1_ n2_ n3_; clear hb hbox hg) | ((with_reducible refine gate_dst (N := 6) rfl ?_); refine box_event ?hg (N := 6) ?hd (cs := #[.int .i64 a2]) (t := 3) ?hr ?_; (case hd => rfl); (case hg => first | rfl | (go_simp; done)); (case hr => first | (go_simp; done) | (go_simp; rfl)); intro gb113 hg w7 hbox hb; have n0_ := Aside0.mk (blk_below (bk_ BK112) hb); have n1_ := Aside0.mk (below_step (hb_ HB) hb); have n2_ := Aside0.mk (hbox); have n3_ := Aside0.mk ((by rw [hg]; exact (below_size (hb_ HB)) : w.heap.size ≤ gb113)); have n4_ := Aside0.mk ((by rw [hg]; exact (below_size (hb_ HB)) : w.heap.size ≤ gb113)); have n5_ := Aside0.mk ((by rw [hg]; exact Nat.ne_of_lt (blk_lt (bk_ BK112)) : gb112 ≠ gb113)); have n6_ := Aside0.mk ((by rw [hg]; exact Nat.ne_of_gt (blk_lt (bk_ BK112)) : gb113 ≠ gb112)); clear BK112; clear HB; have BK112 := n0_; have HB := n1_; have BK113 := n2_; have GW113 := n3_; have GE113 := n4_; have NB112_113 := n5_; have NB113_112 := n6_; clear n0_ n1_ n2_ n3_ n4_ n5_ n6_; clear hb hbox hg) | ((with_reducible refine gate_dst (N := 7) rfl ?_); refine box_event ?hg (N := 7) ?hd (cs := #[.int .i64 a3_0, .int .i64 a3_1, .int .i64 a3_2]) (t := 27) ?hr ?_; (case hd => rfl); (case hg => first | rfl | (go_simp; done)); (case hr => first | (go_simp; done) | (go_simp; rfl)); intro gb114 hg w8 hbox hb; have n0_ := Aside0.mk (blk_below (bk_ BK112) hb); have n1_ := Aside0.mk (blk_below (bk_ BK113) hb); have n2_ := Aside0.mk (below_step (hb_ HB) hb); have n3_ := Aside0.mk (hbox); have n4_ := Aside0.mk ((by rw [hg]; exact (below_size (hb_ HB)) : w.heap.size ≤ gb114)); have n5_ := Aside0.mk ((by rw [hg]; exact (below_size (hb_ HB)) : w.heap.size ≤ gb114)); have n6_ := Aside0.mk ((by rw [hg]; exact Nat.ne_of_lt (blk_lt (bk_ BK112)) : gb112 ≠ gb114)); have n7_ := Aside0.mk ((by rw [hg]; exact Nat.ne_of_gt (blk_lt (bk_ BK112)) : gb114 ≠ gb112)); have n8_ := Aside0.mk ((by rw [hg]; exact Nat.ne_of_lt (blk_lt (bk_ BK113)) : gb113 ≠ gb114)); have n9_ := Aside0.mk ((by rw [hg]; exact Nat.ne_of_gt (blk_lt (bk_ BK113)) : gb114 ≠ gb113)); clear BK112; clear BK113; clear HB; have BK112 := n0_; have BK113 := n1_; have HB := n2_; have BK114 := n3_; have GW114 := n4_; have GE114 := n5_; have NB112_114 := n6_; have NB114_112 := n7_; have NB113_114 := n8_; have NB114_113 := n9_; clear n0_ n1_ n2_ n3_ n4_ n5_ n6_ n7_ n8_ n9_; clear hb hbox hg; have hnb9 := NB112_113.out; have hnc9 := NB113_112.out; have hnb10 := NB112_114.out; have hnc10 := NB114_112.out; have hcz11_0 : w8.cell? ⟨gb112, 0, none⟩ = some (.int .i64 a0_0) := (blk_cell BK112.out 0).trans rfl; have hcz11_1 : w8.cell? ⟨gb112, 1, none⟩ = some (.int .i64 a0_1) := (blk_cell BK112.out 1).trans rfl; have hcz11_2 : w8.cell? ⟨gb112, 2, none⟩ = some (.int .i64 a0_2) := (blk_cell BK112.out 2).trans rfl; have hfz11_0 := blk_frozen BK112.out 0; have hfz11_1 := blk_frozen BK112.out 1; have hfz11_2 := blk_frozen BK112.out 2) | ((with_reducible refine gate_callee (f := 37) rfl ?_); refine goesL_ (some 19) rfl rfl Try.func37 (by kernel_rfl) rfl #[.agg #[.int .i64 a0_0, .int .i64 a0_1, .int .i64 a0_2], .int .i64 a1] rfl (by (try simp only [List.map_toArray, List.map_cons, List.map_nil]); first | done | rfl | (simp only [List.length_drop, List.length_take]; rfl)) ?_; (with_reducible refine (anchor_face.calls a0_0 a0_1 a0_2 a1 t115 t116 _ A5.out).mono ?_); rintro e w12 ⟨rfl, hb⟩; refine ⟨_, rfl, ?_⟩; have n0_ := Aside0.mk (blk_below (bk_ BK112) hb); have n1_ := Aside0.mk (blk_below (bk_ BK113) hb); have n2_ := Aside0.mk (blk_below (bk_ BK114) hb); have n3_ := Aside0.mk (below_step (hb_ HB) hb); clear BK112; clear BK113; clear BK114; clear HB; have BK112 := n0_; have BK113 := n1_; have BK114 := n2_; have HB := n3_; clear n0_ n1_ n2_ n3_; (try clear hb); (try clear hb2); (try clear hk); (try clear hi)) | ((with_reducible refine gate_dst (N := 9) rfl ?_); refine box_event ?hg (N := 9) ?hd (cs := #[.int .i64 0]) (t := 3) ?hr ?_; (case hd => rfl); (case hg => first | rfl | (go_simp; done)); (case hr => first | (go_simp; done) | (go_simp; rfl)); intro gb117 hg w13 hbox hb; have n0_ := Aside0.mk (blk_below (bk_ BK112) hb); have n1_ := Aside0.mk (blk_below (bk_ BK113) hb); have n2_ := Aside0.mk (blk_below (bk_ BK114) hb); have n3_ := Aside0.mk (below_step (hb_ HB) hb); have n4_ := Aside0.mk (hbox); have n5_ := Aside0.mk ((by rw [hg]; exact (below_size (hb_ HB)) : w.heap.size ≤ gb117)); have n6_ := Aside0.mk ((by rw [hg]; exact (below_size (hb_ HB)) : w.heap.size ≤ gb117)); have n7_ := Aside0.mk ((by rw [hg]; exact Nat.ne_of_lt (blk_lt (bk_ BK112)) : gb112 ≠ gb117)); have n8_ := Aside0.mk ((by rw [hg]; exact Nat.ne_of_gt (blk_lt (bk_ BK112)) : gb117 ≠ gb112)); have n9_ := Aside0.mk ((by rw [hg]; exact Nat.ne_of_lt (blk_lt (bk_ BK113)) : gb113 ≠ gb117)); have n10_ := Aside0.mk ((by rw [hg]; exact Nat.ne_of_gt (blk_lt (bk_ BK113)) : gb117 ≠ gb113)); have n11_ := Aside0.mk ((by rw [hg]; exact Nat.ne_of_lt (blk_lt (bk_ BK114)) : gb114 ≠ gb117)); have n12_ := Aside0.mk ((by rw [hg]; exact Nat.ne_of_gt (blk_lt (bk_ BK114)) : gb117 ≠ gb114)); clear BK112; clear BK113; clear BK114; clear HB; have BK112 := n0_; have BK113 := n1_; have BK114 := n2_; have HB := n3_; have BK117 := n4_; have GW117 := n5_; have GE117 := n6_; have NB112_117 := n7_; have NB117_112 := n8_; have NB113_117 := n9_; have NB117_113 := n10_; have NB114_117 := n11_; have NB117_114 := n12_; clear n0_ n1_ n2_ n3_ n4_ n5_ n6_ n7_ n8_ n9_ n10_ n11_ n12_; clear hb hbox hg; have hnb14 := NB117_112.out; have hnc14 := NB112_117.out; have hnb15 := NB117_113.out; have hnc15 := NB113_117.out; have hnb16 := NB117_114.out; have hnc16 := NB114_117.out; have hcz17_0 : w13.cell? ⟨gb117, 0, none⟩ = some (.int .i64 0) := (blk_cell BK117.out 0).trans rfl; have hfz17_0 := blk_frozen BK117.out 0))
 have n0_ : Aside0 ((w13.setCell ⟨gb117, 0, none⟩ (.int .i64 t115)).heap[gb112]? = some (.cells #[.int .i64 a0_0, .int .i64 a0_1, .int .i64 a0_2] 33 (0, 0))) := ⟨by (with_reducible repeat (first | refine blk_drewN ?_ _ | refine blk_drew ?_ | refine blk_alloc ?_ _)); refine blk_far ?_ NB112_117.out _; (with_reducible repeat (first | refine blk_drewN ?_ _ | refine blk_drew ?_ | refine blk_alloc ?_ _)); exact BK112.out⟩
 have n1_ : Aside0 ((w13.setCell ⟨gb117, 0, none⟩ (.int .i64 t115)).heap[gb113]? = some (.cells #[.int .i64 a2] 3 (0, 0))) := ⟨by (with_reducible repeat (first | refine blk_drewN ?_ _ | refine blk_drew ?_ | refine blk_alloc ?_ _)); refine blk_far ?_ NB113_117.out _; (with_reducible repeat (first | refine blk_drewN ?_ _ | refine blk_drew ?_ | refine blk_alloc ?_ _)); exact BK113.out⟩
 have n2_ : Aside0 ((w13.setCell ⟨gb117, 0, none⟩ (.int .i64 t115)).heap[gb114]? = some (.cells #[.int .i64 a3_0, .int .i64 a3_1, .int .i64 a3_2] 27 (0, 0))) := ⟨by (with_reducible repeat (first | refine blk_drewN ?_ _ | refine blk_drew ?_ | refine blk_alloc ?_ _)); refine blk_far ?_ NB114_117.out _; (with_reducible repeat (first | refine blk_drewN ?_ _ | refine blk_drew ?_ | refine blk_alloc ?_ _)); exact BK114.out⟩
 have n3_ : Aside0 ((w13.setCell ⟨gb117, 0, none⟩ (.int .i64 t115)).heap[gb117]? = some (.cells #[.int .i64 t115] 3 (0, 0))) := ⟨by (with_reducible repeat (first | refine blk_drewN ?_ _ | refine blk_drew ?_ | refine blk_alloc ?_ _)); refine blk_put (cs := #[.int .i64 0]) ?_ 0 _ rfl; (with_reducible repeat (first | refine blk_drewN ?_ _ | refine blk_drew ?_ | refine blk_alloc ?_ _)); exact BK117.out⟩
 have n4_ : Aside0 (Below w.heap.size w (w13.setCell ⟨gb117, 0, none⟩ (.int .i64 t115))) := ⟨hb_ HB⟩
 (try clear BK112)
 (try clear BK113)
 (try clear BK114)
 (try clear BK117)
 (try clear HB)
 generalize (w13.setCell ⟨gb117, 0, none⟩ (.int .i64 t115)) = w18 at n0_ n1_ n2_ n3_ n4_ ⊢
 have BK112 := n0_
 have BK113 := n1_
 have BK114 := n2_
 have BK117 := n3_
 have HB := n4_
 clear n0_ n1_ n2_ n3_ n4_
 have n0_ := Aside0.mk (blk_drew BK112.out)
 have n1_ := Aside0.mk (blk_drew BK113.out)
 have n2_ := Aside0.mk (blk_drew BK114.out)
 have n3_ := Aside0.mk (blk_drew BK117.out)
 have n4_ := Aside0.mk (below_drew1 HB.out)
 clear BK112
 clear BK113
 clear BK114
 clear BK117
 clear HB
 have BK112 := n0_
 have BK113 := n1_
 have BK114 := n2_
 have BK117 := n3_
 have HB := n4_
 clear n0_ n1_ n2_ n3_ n4_
 refine start_ (n := 10) (S := fun w' => w'.cell? ⟨gb114, 0, none⟩ = some (.int .i64 a3_0) ∧ w'.cell? ⟨gb114, 1, none⟩ = some (.int .i64 a3_1) ∧ w'.cell? ⟨gb114, 2, none⟩ = some (.int .i64 a3_2) ∧ w'.cell? ⟨gb117, 0, none⟩ = some (.int .i64 t115)) (ds := []) (bm 10 0) (by kernel_rfl) rfl rfl ⟨(blk_cell BK114.out 0).trans rfl, (blk_cell BK114.out 1).trans rfl, (blk_cell BK114.out 2).trans rfl, (blk_cell BK117.out 0).trans rfl⟩ (fun hHeld => ?_); refine with_tabW anchor_row.tab2 anchor_row.bits2 (fun HT_ HW_ => ?_)
 generalize w18.drew = w19 at BK112 BK113 BK114 BK117 HB hHeld ⊢
 refine pv_ 0 HT_ ?_
 refine pv_ 3 HT_ ?_
 refine tv_ 1 HT_ HW_ hHeld ?_
 refine tv_ 2 HT_ HW_ hHeld ?_
 refine tv_ 4 HT_ HW_ hHeld ?_
 refine pv_ 5 HT_ ?_
 refine join_ (σ := Nat × Nat) 2 (bm 10 255) (fun s_ => [(11, .pointer (some ⟨s_.1, 0, none⟩)), (12, .pointer (some ⟨s_.2, 0, none⟩))]) (fun s_ w' => (w'.cell? ⟨gb114, 0, none⟩ = some (.int .i64 a3_0) ∧ w'.cell? ⟨gb114, 1, none⟩ = some (.int .i64 a3_1) ∧ w'.cell? ⟨gb114, 2, none⟩ = some (.int .i64 a3_2) ∧ w'.cell? ⟨gb117, 0, none⟩ = some (.int .i64 t115)) ∧ (w'.heap[gb112]? = some (.cells #[.int .i64 a0_0, .int .i64 a0_1, .int .i64 a0_2] 33 (0, 0))) ∧ (w'.heap[gb113]? = some (.cells #[.int .i64 a2] 3 (0, 0))) ∧ (w'.heap[gb114]? = some (.cells #[.int .i64 a3_0, .int .i64 a3_1, .int .i64 a3_2] 27 (0, 0))) ∧ (w'.heap[gb117]? = some (.cells #[.int .i64 t115] 3 (0, 0))) ∧ (w'.heap[s_.1]? = some (.cells #[.int .i64 0] 3 (0, 0))) ∧ (w'.heap[s_.2]? = some (.cells #[.int .i64 0] 3 (0, 0))) ∧ (w.heap.size ≤ s_.1) ∧ (w.heap.size ≤ s_.1) ∧ (gb112 ≠ s_.1) ∧ (s_.1 ≠ gb112) ∧ (gb113 ≠ s_.1) ∧ (s_.1 ≠ gb113) ∧ (gb114 ≠ s_.1) ∧ (s_.1 ≠ gb114) ∧ (gb117 ≠ s_.1) ∧ (s_.1 ≠ gb117) ∧ (s_.2 ≠ s_.1) ∧ (s_.1 ≠ s_.2) ∧ (w.heap.size ≤ s_.2) ∧ (w.heap.size ≤ s_.2) ∧ (gb112 ≠ s_.2) ∧ (s_.2 ≠ gb112) ∧ (gb113 ≠ s_.2) ∧ (s_.2 ≠ gb113) ∧ (gb114 ≠ s_.2) ∧ (s_.2 ≠ gb114) ∧ (gb117 ≠ s_.2) ∧ (s_.2 ≠ gb117) ∧ (Below w.heap.size w w')) ?_ ?_
 rotate_left
 ·intro hCont
  refine two_ (i := 6) (j := 7) (Ni := some 11) (Nj := some 12) (bm 10 127) (bm 10 191) rfl rfl rfl rfl (two_of HT_.out (by kernel_rfl)) (by decide) (by decide) (fun K hK => ?_) (fun K hK => ?_)
  ·skip
   (refine box_step ?hg (N := 11) ?hd (cs := #[.int .i64 0]) (t := 3) ?hr ?_; (case hd => rfl); (case hg => first | rfl | (go_simp; done)); (case hr => first | (go_simp; done) | (go_simp; rfl))); (intro gb118 hg w20 hbox hb); (have n0_ := Aside0.mk (blk_below (bk_ BK112) hb)); (have n1_ := Aside0.mk (blk_below (bk_ BK113) hb)); (have n2_ := Aside0.mk (blk_below (bk_ BK114) hb)); (have n3_ := Aside0.mk (blk_below (bk_ BK117) hb)); (have n4_ := Aside0.mk (below_step (hb_ HB) hb)); (have n5_ := Aside0.mk (hbox)); (have n6_ := Aside0.mk ((by rw [hg]; exact (below_size (hb_ HB)) : w.heap.size ≤ gb118))); (have n7_ := Aside0.mk ((by rw [hg]; exact (below_size (hb_ HB)) : w.heap.size ≤ gb118))); (have n8_ := Aside0.mk ((by rw [hg]; exact Nat.ne_of_lt (blk_lt (bk_ BK112)) : gb112 ≠ gb118))); (have n9_ := Aside0.mk ((by rw [hg]; exact Nat.ne_of_gt (blk_lt (bk_ BK112)) : gb118 ≠ gb112))); (have n10_ := Aside0.mk ((by rw [hg]; exact Nat.ne_of_lt (blk_lt (bk_ BK113)) : gb113 ≠ gb118))); (have n11_ := Aside0.mk ((by rw [hg]; exact Nat.ne_of_gt (blk_lt (bk_ BK113)) : gb118 ≠ gb113))); (have n12_ := Aside0.mk ((by rw [hg]; exact Nat.ne_of_lt (blk_lt (bk_ BK114)) : gb114 ≠ gb118))); (have n13_ := Aside0.mk ((by rw [hg]; exact Nat.ne_of_gt (blk_lt (bk_ BK114)) : gb118 ≠ gb114))); (have n14_ := Aside0.mk ((by rw [hg]; exact Nat.ne_of_lt (blk_lt (bk_ BK117)) : gb117 ≠ gb118))); (have n15_ := Aside0.mk ((by rw [hg]; exact Nat.ne_of_gt (blk_lt (bk_ BK117)) : gb118 ≠ gb117))); (clear BK112); (clear BK113); (clear BK114); (clear BK117); (clear HB); (have BK112 := n0_); (have BK113 := n1_); (have BK114 := n2_); (have BK117 := n3_); (have HB := n4_); (have BK118 := n5_); (have GW118 := n6_); (have GE118 := n7_); (have NB112_118 := n8_); (have NB118_112 := n9_); (have NB113_118 := n10_); (have NB118_113 := n11_); (have NB114_118 := n12_); (have NB118_114 := n13_); (have NB117_118 := n14_); (have NB118_117 := n15_); (clear n0_ n1_ n2_ n3_ n4_ n5_ n6_ n7_ n8_ n9_ n10_ n11_ n12_ n13_ n14_ n15_); (clear hb hbox hg); (refine hK.out _ _ ⟨(blk_cell BK114.out 0).trans rfl, (blk_cell BK114.out 1).trans rfl, (blk_cell BK114.out 2).trans rfl, (blk_cell BK117.out 0).trans rfl⟩ (fun hHeld => ?_)); (clear hK K); (refine nv_ ?_); (refine one_ (i := 7) (N := some 12) (bm 10 255) rfl rfl (one_of HT_.out (by kernel_rfl)) (by decide) (fun K hK => ?_)); (refine box_step ?hg (N := 12) ?hd (cs := #[.int .i64 0]) (t := 3) ?hr ?_; (case hd => rfl); (case hg => first | rfl | (go_simp; done)); (case hr => first | (go_simp; done) | (go_simp; rfl))); (intro gb119 hg w21 hbox hb); (have n0_ := Aside0.mk (blk_below (bk_ BK112) hb)); (have n1_ := Aside0.mk (blk_below (bk_ BK113) hb)); (have n2_ := Aside0.mk (blk_below (bk_ BK114) hb)); (have n3_ := Aside0.mk (blk_below (bk_ BK117) hb)); (have n4_ := Aside0.mk (blk_below (bk_ BK118) hb)); (have n5_ := Aside0.mk (below_step (hb_ HB) hb)); (have n6_ := Aside0.mk (hbox)); (have n7_ := Aside0.mk ((by rw [hg]; exact (below_size (hb_ HB)) : w.heap.size ≤ gb119))); (have n8_ := Aside0.mk ((by rw [hg]; exact (below_size (hb_ HB)) : w.heap.size ≤ gb119))); (have n9_ := Aside0.mk ((by rw [hg]; exact Nat.ne_of_lt (blk_lt (bk_ BK112)) : gb112 ≠ gb119)))
   (have n10_ := Aside0.mk ((by rw [hg]; exact Nat.ne_of_gt (blk_lt (bk_ BK112)) : gb119 ≠ gb112))); (have n11_ := Aside0.mk ((by rw [hg]; exact Nat.ne_of_lt (blk_lt (bk_ BK113)) : gb113 ≠ gb119))); (have n12_ := Aside0.mk ((by rw [hg]; exact Nat.ne_of_gt (blk_lt (bk_ BK113)) : gb119 ≠ gb113))); (have n13_ := Aside0.mk ((by rw [hg]; exact Nat.ne_of_lt (blk_lt (bk_ BK114)) : gb114 ≠ gb119))); (have n14_ := Aside0.mk ((by rw [hg]; exact Nat.ne_of_gt (blk_lt (bk_ BK114)) : gb119 ≠ gb114))); (have n15_ := Aside0.mk ((by rw [hg]; exact Nat.ne_of_lt (blk_lt (bk_ BK117)) : gb117 ≠ gb119))); (have n16_ := Aside0.mk ((by rw [hg]; exact Nat.ne_of_gt (blk_lt (bk_ BK117)) : gb119 ≠ gb117))); (have n17_ := Aside0.mk ((by rw [hg]; exact Nat.ne_of_lt (blk_lt (bk_ BK118)) : gb118 ≠ gb119))); (have n18_ := Aside0.mk ((by rw [hg]; exact Nat.ne_of_gt (blk_lt (bk_ BK118)) : gb119 ≠ gb118))); (clear BK112); (clear BK113); (clear BK114); (clear BK117); (clear BK118); (clear HB); (have BK112 := n0_); (have BK113 := n1_); (have BK114 := n2_); (have BK117 := n3_); (have BK118 := n4_); (have HB := n5_); (have BK119 := n6_); (have GW119 := n7_); (have GE119 := n8_); (have NB112_119 := n9_); (have NB119_112 := n10_); (have NB113_119 := n11_); (have NB119_113 := n12_); (have NB114_119 := n13_); (have NB119_114 := n14_); (have NB117_119 := n15_); (have NB119_117 := n16_); (have NB118_119 := n17_); (have NB119_118 := n18_); (clear n0_ n1_ n2_ n3_ n4_ n5_ n6_ n7_ n8_ n9_ n10_ n11_ n12_ n13_ n14_ n15_ n16_ n17_ n18_); (clear hb hbox hg); (refine hK.out _ _ ⟨(blk_cell BK114.out 0).trans rfl, (blk_cell BK114.out 1).trans rfl, (blk_cell BK114.out 2).trans rfl, (blk_cell BK117.out 0).trans rfl⟩ (fun hHeld => ?_)); (clear hK K); (refine nv_ ?_); (exact norm_ (by simp only [putAll, Act.put, List.setIfInBounds_toArray, List.set_cons_zero, List.set_cons_succ]) (hCont (gb118, gb119) _ ⟨hHeld, (bk_ BK112), (bk_ BK113), (bk_ BK114), (bk_ BK117), (bk_ BK118), (bk_ BK119), GW118.out, GE118.out, NB112_118.out, NB118_112.out, NB113_118.out, NB118_113.out, NB114_118.out, NB118_114.out, NB117_118.out, NB118_117.out, NB119_118.out, NB118_119.out, GW119.out, GE119.out, NB112_119.out, NB119_112.out, NB113_119.out, NB119_113.out, NB114_119.out, NB119_114.out, NB117_119.out, NB119_117.out, (hb_ HB)⟩))
  ·skip
   (refine box_step ?hg (N := 12) ?hd (cs := #[.int .i64 0]) (t := 3) ?hr ?_; (case hd => rfl); (case hg => first | rfl | (go_simp; done)); (case hr => first | (go_simp; done) | (go_simp; rfl))); (intro gb119 hg w20 hbox hb); (have n0_ := Aside0.mk (blk_below (bk_ BK112) hb)); (have n1_ := Aside0.mk (blk_below (bk_ BK113) hb)); (have n2_ := Aside0.mk (blk_below (bk_ BK114) hb)); (have n3_ := Aside0.mk (blk_below (bk_ BK117) hb)); (have n4_ := Aside0.mk (below_step (hb_ HB) hb)); (have n5_ := Aside0.mk (hbox)); (have n6_ := Aside0.mk ((by rw [hg]; exact (below_size (hb_ HB)) : w.heap.size ≤ gb119))); (have n7_ := Aside0.mk ((by rw [hg]; exact (below_size (hb_ HB)) : w.heap.size ≤ gb119))); (have n8_ := Aside0.mk ((by rw [hg]; exact Nat.ne_of_lt (blk_lt (bk_ BK112)) : gb112 ≠ gb119))); (have n9_ := Aside0.mk ((by rw [hg]; exact Nat.ne_of_gt (blk_lt (bk_ BK112)) : gb119 ≠ gb112))); (have n10_ := Aside0.mk ((by rw [hg]; exact Nat.ne_of_lt (blk_lt (bk_ BK113)) : gb113 ≠ gb119))); (have n11_ := Aside0.mk ((by rw [hg]; exact Nat.ne_of_gt (blk_lt (bk_ BK113)) : gb119 ≠ gb113))); (have n12_ := Aside0.mk ((by rw [hg]; exact Nat.ne_of_lt (blk_lt (bk_ BK114)) : gb114 ≠ gb119))); (have n13_ := Aside0.mk ((by rw [hg]; exact Nat.ne_of_gt (blk_lt (bk_ BK114)) : gb119 ≠ gb114))); (have n14_ := Aside0.mk ((by rw [hg]; exact Nat.ne_of_lt (blk_lt (bk_ BK117)) : gb117 ≠ gb119))); (have n15_ := Aside0.mk ((by rw [hg]; exact Nat.ne_of_gt (blk_lt (bk_ BK117)) : gb119 ≠ gb117))); (clear BK112); (clear BK113); (clear BK114); (clear BK117); (clear HB); (have BK112 := n0_); (have BK113 := n1_); (have BK114 := n2_); (have BK117 := n3_); (have HB := n4_); (have BK119 := n5_); (have GW119 := n6_); (have GE119 := n7_); (have NB112_119 := n8_); (have NB119_112 := n9_); (have NB113_119 := n10_); (have NB119_113 := n11_); (have NB114_119 := n12_); (have NB119_114 := n13_); (have NB117_119 := n14_); (have NB119_117 := n15_); (clear n0_ n1_ n2_ n3_ n4_ n5_ n6_ n7_ n8_ n9_ n10_ n11_ n12_ n13_ n14_ n15_); (clear hb hbox hg); (refine hK.out _ _ ⟨(blk_cell BK114.out 0).trans rfl, (blk_cell BK114.out 1).trans rfl, (blk_cell BK114.out 2).trans rfl, (blk_cell BK117.out 0).trans rfl⟩ (fun hHeld => ?_)); (clear hK K); (refine nv_ ?_); (refine one_ (i := 6) (N := some 11) (bm 10 255) rfl rfl (one_of HT_.out (by kernel_rfl)) (by decide) (fun K hK => ?_)); (refine box_step ?hg (N := 11) ?hd (cs := #[.int .i64 0]) (t := 3) ?hr ?_; (case hd => rfl); (case hg => first | rfl | (go_simp; done)); (case hr => first | (go_simp; done) | (go_simp; rfl))); (intro gb118 hg w21 hbox hb); (have n0_ := Aside0.mk (blk_below (bk_ BK112) hb)); (have n1_ := Aside0.mk (blk_below (bk_ BK113) hb)); (have n2_ := Aside0.mk (blk_below (bk_ BK114) hb)); (have n3_ := Aside0.mk (blk_below (bk_ BK117) hb)); (have n4_ := Aside0.mk (blk_below (bk_ BK119) hb)); (have n5_ := Aside0.mk (below_step (hb_ HB) hb)); (have n6_ := Aside0.mk (hbox)); (have n7_ := Aside0.mk ((by rw [hg]; exact (below_size (hb_ HB)) : w.heap.size ≤ gb118))); (have n8_ := Aside0.mk ((by rw [hg]; exact (below_size (hb_ HB)) : w.heap.size ≤ gb118))); (have n9_ := Aside0.mk ((by rw [hg]; exact Nat.ne_of_lt (blk_lt (bk_ BK112)) : gb112 ≠ gb118)))
   (have n10_ := Aside0.mk ((by rw [hg]; exact Nat.ne_of_gt (blk_lt (bk_ BK112)) : gb118 ≠ gb112))); (have n11_ := Aside0.mk ((by rw [hg]; exact Nat.ne_of_lt (blk_lt (bk_ BK113)) : gb113 ≠ gb118))); (have n12_ := Aside0.mk ((by rw [hg]; exact Nat.ne_of_gt (blk_lt (bk_ BK113)) : gb118 ≠ gb113))); (have n13_ := Aside0.mk ((by rw [hg]; exact Nat.ne_of_lt (blk_lt (bk_ BK114)) : gb114 ≠ gb118))); (have n14_ := Aside0.mk ((by rw [hg]; exact Nat.ne_of_gt (blk_lt (bk_ BK114)) : gb118 ≠ gb114))); (have n15_ := Aside0.mk ((by rw [hg]; exact Nat.ne_of_lt (blk_lt (bk_ BK117)) : gb117 ≠ gb118))); (have n16_ := Aside0.mk ((by rw [hg]; exact Nat.ne_of_gt (blk_lt (bk_ BK117)) : gb118 ≠ gb117))); (have n17_ := Aside0.mk ((by rw [hg]; exact Nat.ne_of_lt (blk_lt (bk_ BK119)) : gb119 ≠ gb118))); (have n18_ := Aside0.mk ((by rw [hg]; exact Nat.ne_of_gt (blk_lt (bk_ BK119)) : gb118 ≠ gb119))); (clear BK112); (clear BK113); (clear BK114); (clear BK117); (clear BK119); (clear HB); (have BK112 := n0_); (have BK113 := n1_); (have BK114 := n2_); (have BK117 := n3_); (have BK119 := n4_); (have HB := n5_); (have BK118 := n6_); (have GW118 := n7_); (have GE118 := n8_); (have NB112_118 := n9_); (have NB118_112 := n10_); (have NB113_118 := n11_); (have NB118_113 := n12_); (have NB114_118 := n13_); (have NB118_114 := n14_); (have NB117_118 := n15_); (have NB118_117 := n16_); (have NB119_118 := n17_); (have NB118_119 := n18_); (clear n0_ n1_ n2_ n3_ n4_ n5_ n6_ n7_ n8_ n9_ n10_ n11_ n12_ n13_ n14_ n15_ n16_ n17_ n18_); (clear hb hbox hg); (refine hK.out _ _ ⟨(blk_cell BK114.out 0).trans rfl, (blk_cell BK114.out 1).trans rfl, (blk_cell BK114.out 2).trans rfl, (blk_cell BK117.out 0).trans rfl⟩ (fun hHeld => ?_)); (clear hK K); (refine nv_ ?_); (exact norm_ (by simp only [putAll, Act.put, List.setIfInBounds_toArray, List.set_cons_zero, List.set_cons_succ]) (hCont (gb118, gb119) _ ⟨hHeld, (bk_ BK112), (bk_ BK113), (bk_ BK114), (bk_ BK117), (bk_ BK118), (bk_ BK119), GW118.out, GE118.out, NB112_118.out, NB118_112.out, NB113_118.out, NB118_113.out, NB114_118.out, NB118_114.out, NB117_118.out, NB118_117.out, NB119_118.out, NB118_119.out, GW119.out, GE119.out, NB112_119.out, NB119_112.out, NB113_119.out, NB119_113.out, NB114_119.out, NB119_114.out, NB117_119.out, NB119_117.out, (hb_ HB)⟩))
 rintro ⟨gb118, gb119⟩ w22 ⟨hS_, h0_, h1_, h2_, h3_, h4_, h5_, h6_, h7_, h8_, h9_, h10_, h11_, h12_, h13_, h14_, h15_, h16_, h17_, h18_, h19_, h20_, h21_, h22_, h23_, h24_, h25_, h26_, h27_, h28_⟩
 have n0_ : Aside0 (w22.heap[gb112]? = some (.cells #[.int .i64 a0_0, .int .i64 a0_1, .int .i64 a0_2] 33 (0, 0))) := ⟨h0_⟩
 have n1_ : Aside0 (w22.heap[gb113]? = some (.cells #[.int .i64 a2] 3 (0, 0))) := ⟨h1_⟩
 have n2_ : Aside0 (w22.heap[gb114]? = some (.cells #[.int .i64 a3_0, .int .i64 a3_1, .int .i64 a3_2] 27 (0, 0))) := ⟨h2_⟩
 have n3_ : Aside0 (w22.heap[gb117]? = some (.cells #[.int .i64 t115] 3 (0, 0))) := ⟨h3_⟩
 have n4_ : Aside0 (w22.heap[gb118]? = some (.cells #[.int .i64 0] 3 (0, 0))) := ⟨h4_⟩
 have n5_ : Aside0 (w22.heap[gb119]? = some (.cells #[.int .i64 0] 3 (0, 0))) := ⟨h5_⟩
 have n6_ : Aside0 (w.heap.size ≤ gb118) := ⟨h6_⟩
 have n7_ : Aside0 (w.heap.size ≤ gb118) := ⟨h7_⟩
 have n8_ : Aside0 (gb112 ≠ gb118) := ⟨h8_⟩
 have n9_ : Aside0 (gb118 ≠ gb112) := ⟨h9_⟩
 have n10_ : Aside0 (gb113 ≠ gb118) := ⟨h10_⟩
 have n11_ : Aside0 (gb118 ≠ gb113) := ⟨h11_⟩
 have n12_ : Aside0 (gb114 ≠ gb118) := ⟨h12_⟩
 have n13_ : Aside0 (gb118 ≠ gb114) := ⟨h13_⟩
 have n14_ : Aside0 (gb117 ≠ gb118) := ⟨h14_⟩
 have n15_ : Aside0 (gb118 ≠ gb117) := ⟨h15_⟩
 have n16_ : Aside0 (gb119 ≠ gb118) := ⟨h16_⟩
 have n17_ : Aside0 (gb118 ≠ gb119) := ⟨h17_⟩
 have n18_ : Aside0 (w.heap.size ≤ gb119) := ⟨h18_⟩
 have n19_ : Aside0 (w.heap.size ≤ gb119) := ⟨h19_⟩
 have n20_ : Aside0 (gb112 ≠ gb119) := ⟨h20_⟩
 have n21_ : Aside0 (gb119 ≠ gb112) := ⟨h21_⟩
 have n22_ : Aside0 (gb113 ≠ gb119) := ⟨h22_⟩
 have n23_ : Aside0 (gb119 ≠ gb113) := ⟨h23_⟩
 have n24_ : Aside0 (gb114 ≠ gb119) := ⟨h24_⟩
 have n25_ : Aside0 (gb119 ≠ gb114) := ⟨h25_⟩
 have n26_ : Aside0 (gb117 ≠ gb119) := ⟨h26_⟩
 have n27_ : Aside0 (gb119 ≠ gb117) := ⟨h27_⟩
 have n28_ : Aside0 (Below w.heap.size w w22) := ⟨h28_⟩
 clear BK112
 clear BK113
 clear BK114
 clear BK117
 clear HB
 clear h0_ h1_ h2_ h3_ h4_ h5_ h6_ h7_ h8_ h9_ h10_ h11_ h12_ h13_ h14_ h15_ h16_ h17_ h18_ h19_ h20_ h21_ h22_ h23_ h24_ h25_ h26_ h27_ h28_
 have BK112 := n0_
 have BK113 := n1_
 have BK114 := n2_
 have BK117 := n3_
 have BK118 := n4_
 have BK119 := n5_
 have GW118 := n6_
 have GE118 := n7_
 have NB112_118 := n8_
 have NB118_112 := n9_
 have NB113_118 := n10_
 have NB118_113 := n11_
 have NB114_118 := n12_
 have NB118_114 := n13_
 have NB117_118 := n14_
 have NB118_117 := n15_
 have NB119_118 := n16_
 have NB118_119 := n17_
 have GW119 := n18_
 have GE119 := n19_
 have NB112_119 := n20_
 have NB119_112 := n21_
 have NB113_119 := n22_
 have NB119_113 := n23_
 have NB114_119 := n24_
 have NB119_114 := n25_
 have NB117_119 := n26_
 have NB119_117 := n27_
 have HB := n28_
 clear n0_ n1_ n2_ n3_ n4_ n5_ n6_ n7_ n8_ n9_ n10_ n11_ n12_ n13_ n14_ n15_ n16_ n17_ n18_ n19_ n20_ n21_ n22_ n23_ n24_ n25_ n26_ n27_ n28_
 have hHeld : w22.cell? ⟨gb114, 0, none⟩ = some (.int .i64 a3_0) ∧ w22.cell? ⟨gb114, 1, none⟩ = some (.int .i64 a3_1) ∧ w22.cell? ⟨gb114, 2, none⟩ = some (.int .i64 a3_2) ∧ w22.cell? ⟨gb117, 0, none⟩ = some (.int .i64 t115) := hS_
 refine norm_ (a' := ?_) ?_ ?_
 rotate_left
 ·simp only [putAll, Act.put, List.setIfInBounds_toArray, List.set_cons_zero, List.set_cons_succ]
  rfl
 refine one_ (i := 8) (N := none) (bm 10 511) rfl rfl (one_of HT_.out (by kernel_rfl)) (by decide) (fun K hK => ?_)
 have hs23 : w22.cell? ⟨gb118, 0, none⟩ = some (.int .i64 0) := (blk_cell BK118.out 0).trans rfl
 have hfs23 := blk_frozen BK118.out 0
 have hns23_0 := NB112_118.out
 have hns23_1 := NB113_118.out
 have hns23_2 := NB114_118.out
 have hns23_3 := NB117_118.out
 have hns23_5 := NB119_118.out
 have hms23_0 := NB118_112.out
 have hms23_1 := NB118_113.out
 have hms23_2 := NB118_114.out
 have hms23_3 := NB118_117.out
 have hms23_5 := NB118_119.out
 refine skip_ (w1 := ?_) (by rfl) rfl ?_ ?_
 rotate_left
 ·go_simp
  rfl
 refine hK.out _ _ ⟨((cell_far (p := ⟨gb118, _, none⟩) NB114_118.out _).trans (hHeld.1)), ((cell_far (p := ⟨gb118, _, none⟩) NB114_118.out _).trans (hHeld.2.1)), ((cell_far (p := ⟨gb118, _, none⟩) NB114_118.out _).trans (hHeld.2.2.1)), ((cell_far (p := ⟨gb118, _, none⟩) NB117_118.out _).trans (hHeld.2.2.2))⟩ (fun hHeld => ?_)
 clear hK K
 refine one_ (i := 9) (N := none) (bm 10 1023) rfl rfl (one_of HT_.out (by kernel_rfl)) (by decide) (fun K hK => ?_)
 have hs24 : w22.cell? ⟨gb119, 0, none⟩ = some (.int .i64 0) := (blk_cell BK119.out 0).trans rfl
 have hfs24 := blk_frozen BK119.out 0
 have hns24_0 := NB112_119.out
 have hns24_1 := NB113_119.out
 have hns24_2 := NB114_119.out
 have hns24_3 := NB117_119.out
 have hns24_4 := NB118_119.out
 have hms24_0 := NB119_112.out
 have hms24_1 := NB119_113.out
 have hms24_2 := NB119_114.out
 have hms24_3 := NB119_117.out
 have hms24_4 := NB119_118.out
 refine skip_ (w1 := ?_) (by rfl) rfl ?_ ?_
 rotate_left
 ·go_simp
  rfl
 refine hK.out _ _ ⟨((cell_far (p := ⟨gb119, _, none⟩) NB114_119.out _).trans (hHeld.1)), ((cell_far (p := ⟨gb119, _, none⟩) NB114_119.out _).trans (hHeld.2.1)), ((cell_far (p := ⟨gb119, _, none⟩) NB114_119.out _).trans (hHeld.2.2.1)), ((cell_far (p := ⟨gb119, _, none⟩) NB117_119.out _).trans (hHeld.2.2.2))⟩ (fun hHeld => ?_)
 clear hK K
 refine done_ (done_of HT_.out (by kernel_rfl)) ?_
 have hnb25 := NB113_114.out
 have hnc25 := NB114_113.out
 have hnb26 := NB113_118.out
 have hnc26 := NB118_113.out
 have hnb27 := NB113_119.out
 have hnc27 := NB119_113.out
 have hcz28_0 : w22.cell? ⟨gb113, 0, none⟩ = some (.int .i64 a2) := (blk_cell BK113.out 0).trans rfl
 have hfz28_0 := blk_frozen BK113.out 0
 try go_wp2
 go_loopg [14, 30] k (fun kq v14 v30 w' => ∃ (x14_1 : List (S54)) (x30_1 : Int), v30 = .int .i64 x30_1 ∧ Aside0 (anchor_row.l0 kq a1 t116 x14_1 a2 x30_1 a2 a3_0 a3_1 a3_2 t115 a3_0 (wrap64 (t115 - a3_0)) = some r) ∧ Aside0 (kq ≤ k) ∧ Aside0 (Kd.R k54 54 w' w.heap.size (fun _ => True) v14 x14_1) ∧ Aside0 (w'.heap[gb112]? = some (.cells #[.int .i64 a0_0, .int .i64 a0_1, .int .i64 a0_2] 33 (0, 0))) ∧ Aside0 (w'.heap[gb113]? = some (.cells #[.int .i64 a2] 3 (0, 0))) ∧ Aside0 (w'.heap[gb114]? = some (.cells #[.int .i64 a3_0, .int .i64 a3_1, .int .i64 a3_2] 27 (0, 0))) ∧ Aside0 (w'.heap[gb117]? = some (.cells #[.int .i64 t115] 3 (0, 0))) ∧ Aside0 (w'.heap[gb118]? = some (.cells #[.int .i64 a3_0] 3 (0, 0))) ∧ Aside0 (w'.heap[gb119]? = some (.cells #[.int .i64 (wrap64 (t115 - a3_0))] 3 (0, 0))) ∧ Aside0 (Below w.heap.size w w'))
 case atStart => exact ⟨(([] : List (S54))), (0), (by first | rfl | (simp; done) | (simp [*]; done)), H', ⟨Nat.le_refl _⟩, ⟨by first | exact Kd.R_nil _ _ _ _ _ | exact Kd.N_nil _ _ _ _ _ | exact Kd.V_nil _ _ _ _ _ | exact Kd.Q_nil _ _ _ _ _ | exact Kd.S_nil _ _ _ _ _⟩, ⟨by (with_reducible repeat (first | refine blk_drewN ?_ _ | refine blk_drew ?_ | refine blk_alloc ?_ _)); refine blk_far ?_ NB112_119.out _; (with_reducible repeat (first | refine blk_drewN ?_ _ | refine blk_drew ?_ | refine blk_alloc ?_ _)); refine blk_far ?_ NB112_118.out _; (with_reducible repeat (first | refine blk_drewN ?_ _ | refine blk_drew ?_ | refine blk_alloc ?_ _)); exact BK112.out⟩, ⟨by (with_reducible repeat (first | refine blk_drewN ?_ _ | refine blk_drew ?_ | refine blk_alloc ?_ _)); refine blk_far ?_ NB113_119.out _; (with_reducible repeat (first | refine blk_drewN ?_ _ | refine blk_drew ?_ | refine blk_alloc ?_ _)); refine blk_far ?_ NB113_118.out _; (with_reducible repeat (first | refine blk_drewN ?_ _ | refine blk_drew ?_ | refine blk_alloc ?_ _)); exact BK113.out⟩, ⟨by (with_reducible repeat (first | refine blk_drewN ?_ _ | refine blk_drew ?_ | refine blk_alloc ?_ _)); refine blk_far ?_ NB114_119.out _; (with_reducible repeat (first | refine blk_drewN ?_ _ | refine blk_drew ?_ | refine blk_alloc ?_ _)); refine blk_far ?_ NB114_118.out _; (with_reducible repeat (first | refine blk_drewN ?_ _ | refine blk_drew ?_ | refine blk_alloc ?_ _)); exact BK114.out⟩, ⟨by (with_reducible repeat (first | refine blk_drewN ?_ _ | refine blk_drew ?_ | refine blk_alloc ?_ _)); refine blk_far ?_ NB117_119.out _; (with_reducible repeat (first | refine blk_drewN ?_ _ | refine blk_drew ?_ | refine blk_alloc ?_ _)); refine blk_far ?_ NB117_118.out _; (with_reducible repeat (first | refine blk_drewN ?_ _ | refine blk_drew ?_ | refine blk_alloc ?_ _)); exact BK117.out⟩, ⟨by (with_reducible repeat (first | refine blk_drewN ?_ _ | refine blk_drew ?_ | refine blk_alloc ?_ _)); refine blk_far ?_ NB118_119.out _; (with_reducible repeat (first | refine blk_drewN ?_ _ | refine blk_drew ?_ | refine blk_alloc ?_ _)); refine blk_put (cs := #[.int .i64 0]) ?_ 0 _ rfl; (with_reducible repeat (first | refine blk_drewN ?_ _ | refine blk_drew ?_ | refine blk_alloc ?_ _)); exact BK118.out⟩, ⟨by (with_reducible repeat (first | refine blk_drewN ?_ _ | refine blk_drew ?_ | refine blk_alloc ?_ _)); refine blk_put (cs := #[.int .i64 0]) ?_ 0 _ rfl; (with_reducible repeat (first | refine blk_drewN ?_ _ | refine blk_drew ?_ | refine blk_alloc ?_ _)); refine blk_far ?_ NB119_118.out _; (with_reducible repeat (first | refine blk_drewN ?_ _ | refine blk_drew ?_ | refine blk_alloc ?_ _)); exact BK119.out⟩, ⟨hb_ HB⟩⟩
 case round =>
  (clear H'); (try clear c1); (try clear c2); (try clear p2); (try clear c3); (try clear p6); (try clear c9); (try clear c10); (try clear c14); (try clear c15); (try clear c16); (try clear c25); (try clear c26); (try clear c27); (try clear hcz11_0); (try clear hcz11_1); (try clear hcz11_2); (try clear hcz17_0); (try clear hcz28_0); (try clear hfz11_0); (try clear hfz11_1); (try clear hfz11_2); (try clear hfz17_0); (try clear hfz28_0); (obtain ⟨x14_1, x30_1, rfl, HA, HK1, HO_14, BK112, BK113, BK114, BK117, BK118, BK119, HB⟩ := hrel)
  cases gk with
  | zero => exact absurd HA.out (by simp [anchor_row.l0])
  | succ k1 =>
   (have H := HA.out); (clear HA); (simp only [anchor_row.l0] at H); (by_cases c29 : x30_1 < a2)
   ·rw [if_pos c29] at H
    (have c29b0 := decide_eq_true c29); (clear c29); (replace H := Option.bind_eq_some_iff.mp H); (obtain ⟨t120, A300, H⟩ := H); (replace H : (if x14_1.length < 4398046511104 then (anchor_row.l0 k1 a1 t116 (x14_1 ++ [(⟨a1, (⟨t120, wrap64 (Int.tdiv t116 2)⟩ : S52), a3_0⟩ : S54)]) a2 (wrap64 (x30_1 + 1)) a2 a3_0 a3_1 a3_2 t115 a3_0 (wrap64 (t115 - a3_0))) else (none)) = some r := H); (have A30 := Aside0.mk A300); (clear A300); (by_cases c31 : x14_1.length < 4398046511104)
    ·rw [if_pos c31] at H
     (have LMc31 := Aside0.mk c31); (clear c31); (obtain ⟨y121, hy121⟩ : ∃ y_ : List (S54), y_ = (x14_1 ++ [(⟨a1, (⟨t120, wrap64 (Int.tdiv t116 2)⟩ : S52), a3_0⟩ : S54)]) := ⟨_, rfl⟩); (replace H : (anchor_row.l0 k1 a1 t116 y121 a2 (wrap64 (x30_1 + 1)) a2 a3_0 a3_1 a3_2 t115 a3_0 (wrap64 (t115 - a3_0))) = some r := by first | (rw [hy121]; with_reducible exact H) | (have H2_ := (Option.bind_some _ _).symm.trans H; rw [hy121]; with_reducible exact H2_) | (have H2_ := (Option.bind_some _ _).symm.trans H; with_reducible exact H2_) | with_reducible exact H | (rw [hy121]; exact H) | exact H); (have Ny121 := Aside0.mk hy121); (clear hy121); (have H' := Aside0.mk H); (clear H); (try go_wp2); (have n0_ := Aside0.mk (Kd.R_drew HO_14.out)); (have n1_ := Aside0.mk (blk_drew BK112.out)); (have n2_ := Aside0.mk (blk_drew BK113.out)); (have n3_ := Aside0.mk (blk_drew BK114.out)); (have n4_ := Aside0.mk (blk_drew BK117.out)); (have n5_ := Aside0.mk (blk_drew BK118.out)); (have n6_ := Aside0.mk (blk_drew BK119.out)); (have n7_ := Aside0.mk (below_drew1 HB.out)); (clear HO_14); (clear BK112); (clear BK113); (clear BK114); (clear BK117); (clear BK118); (clear BK119); (clear HB); (have HO_14 := n0_); (have BK112 := n1_); (have BK113 := n2_); (have BK114 := n3_); (have BK117 := n4_); (have BK118 := n5_); (have BK119 := n6_); (have HB := n7_); (clear n0_ n1_ n2_ n3_ n4_ n5_ n6_ n7_); (refine start_ (n := 14) (S := fun w' => w'.cell? ⟨gb114, 0, none⟩ = some (.int .i64 a3_0) ∧ w'.cell? ⟨gb114, 1, none⟩ = some (.int .i64 a3_1) ∧ w'.cell? ⟨gb114, 2, none⟩ = some (.int .i64 a3_2)) (ds := []) (bm 14 0) (by kernel_rfl) rfl rfl ⟨(blk_cell BK114.out 0).trans rfl, (blk_cell BK114.out 1).trans rfl, (blk_cell BK114.out 2).trans rfl⟩ (fun hHeld => ?_); refine with_tabW anchor_row.tab8 anchor_row.bits8 (fun HT_ HW_ => ?_)); (generalize wr.drew = w32 at HO_14 BK112 BK113 BK114 BK117 BK118 BK119 HB hHeld ⊢); (refine pv_ 0 HT_ ?_); (refine pv_ 1 HT_ ?_); (refine pv_ 2 HT_ ?_); (refine pv_ 3 HT_ ?_); (refine pv_ 5 HT_ ?_); (refine pv_ 6 HT_ ?_); (refine pv_ 8 HT_ ?_); (refine tv_ 9 HT_ HW_ hHeld ?_); (refine one_ (i := 4) (N := some 37) (bm 14 895) rfl rfl (one_of HT_.out (by kernel_rfl)) (by decide) (fun K hK => ?_)); (refine goesV_ Try.func43 (by kernel_rfl) rfl #[.pointer (some ⟨gb113, 0, none⟩), .pointer (some ⟨gb117, 0, none⟩), .pointer (some ⟨gb119, 0, none⟩), .pointer (some ⟨gb118, 0, none⟩)] #[.int .i64 x30_1, .pointer (some ⟨gb113, 0, none⟩), .pointer (some ⟨gb117, 0, none⟩), .pointer (some ⟨gb119, 0, none⟩), .pointer (some ⟨gb118, 0, none⟩)] (by rfl) rfl rfl rfl (by first | rfl | ((try simp only [List.map_toArray, List.map_cons, List.map_nil]); first | done | rfl)) ?_); (with_reducible refine (anchor_row_1.calls x30_1 gb113 a2 gb117 t115 gb119 (wrap64 (t115 - a3_0)) gb118 a3_0 t120 _ ?side1 ?side2 ?side3 ?side4 A30.out).mono ?_); ((case side1 => exact (bk_ BK113))); ((case side2 => exact (bk_ BK117))); ((case side3 => exact (bk_ BK119))); ((case side4 => exact (bk_ BK118))); (rintro e w' ⟨rfl, ⟨nd, rfl⟩⟩); (refine ⟨_, rfl, ?_⟩)
     (refine hK.out _ _ ⟨(blk_cell BK114.out 0).trans rfl, (blk_cell BK114.out 1).trans rfl, (blk_cell BK114.out 2).trans rfl⟩ (fun hHeld => ?_)); (clear hK K); (refine nv_ ?_); (refine pv_ 7 HT_ ?_); (refine pv_ 10 HT_ ?_); (refine one_ (i := 11) (N := some 44) (bm 14 4095) rfl rfl (one_of HT_.out (by kernel_rfl)) (by decide) (fun K hK => ?_)); (refine value_ (w1 := ?_) (v := ?_) (by rfl) rfl ?_ ?_); (rotate_left 2)
     ·go_simp
      constructor
      ·rfl
      ·rfl
     (refine hK.out _ _ ⟨(blk_cell (blk_alloc BK114.out _) 0).trans rfl, (blk_cell (blk_alloc BK114.out _) 1).trans rfl, (blk_cell (blk_alloc BK114.out _) 2).trans rfl⟩ (fun hHeld => ?_)); (clear hK K); (refine nv_ ?_); (refine one_ (i := 12) (N := some 45) (bm 14 8191) rfl rfl (one_of HT_.out (by kernel_rfl)) (by decide) (fun K hK => ?_)); (refine Kd.R_append_step k54 (w0 := w) w.heap.size (by rfl) (.tmp 33) (.tmp 44) 34 54 (.agg #[(.int .i64 0), (.int .i64 0), (.int .i64 0), (.int .i64 0)]) 32 rfl Try.underlying34 info54 rfl (by decide) (by omega) u14 x14_1 (⟨a1, (⟨t120, wrap64 (Int.tdiv t116 2)⟩ : S52), a3_0⟩ : S54) [.int .i64 a1, .int .i64 t120, .int .i64 (wrap64 (Int.tdiv t116 2)), .int .i64 a3_0] (fun _ => True) (fun _ => False) rfl rfl ?aP (fun _ hk => hk.elim) ?aF ?aO ?aB ?aS ?aL ?_); ((case aP => exact k54_mkM _ _ _ (⟨a1, (⟨t120, wrap64 (Int.tdiv t116 2)⟩ : S52), a3_0⟩ : S54))); ((case aB => exact (hb_ HB))); ((case aF => exact (fun _ _ => trivial))); ((case aO => exact (by (with_reducible repeat (first | apply Kd.R_alloc | apply Kd.R_drewN | apply Kd.R_drew)); exact HO_14.out))); ((case aS => exact (below_size (hb_ HB)))); ((case aL => have := LMc31.out; omega)); (intro v122 w33 ho hb hg hat); (rw [← Ny121.out] at ho); (have n0_ := Aside0.mk (blk_grown (bk_ BK112) hg (Kd.R_ne HO_14.out BK112.out (by decide)))); (have n1_ := Aside0.mk (blk_grown (bk_ BK113) hg (Kd.R_ne HO_14.out BK113.out (by decide)))); (have n2_ := Aside0.mk (blk_grown (bk_ BK114) hg (Kd.R_ne HO_14.out BK114.out (by decide)))); (have n3_ := Aside0.mk (blk_grown (bk_ BK117) hg (Kd.R_ne HO_14.out BK117.out (by decide)))); (have n4_ := Aside0.mk (blk_grown (bk_ BK118) hg (Kd.R_ne HO_14.out BK118.out (by decide)))); (have n5_ := Aside0.mk (blk_grown (bk_ BK119) hg (Kd.R_ne HO_14.out BK119.out (by decide)))); (have n6_ := Aside0.mk (hb)); (have n7_ := Aside0.mk (ho)); (clear BK112); (clear BK113); (clear BK114); (clear BK117); (clear BK118); (clear BK119); (clear HB); (clear HO_14); (have BK112 := n0_); (have BK113 := n1_); (have BK114 := n2_); (have BK117 := n3_); (have BK118 := n4_); (have BK119 := n5_); (have HB := n6_); (have HO123 := n7_); (clear n0_ n1_ n2_ n3_ n4_ n5_ n6_ n7_); (clear ho hb hg hat); (refine hK.out _ _ ⟨(blk_cell BK114.out 0).trans rfl, (blk_cell BK114.out 1).trans rfl, (blk_cell BK114.out 2).trans rfl⟩ (fun hHeld => ?_)); (clear hK K); (refine nv_ ?_); (refine pv_ 13 HT_ ?_); (refine done_ (done_of HT_.out (by kernel_rfl)) ?_); (try go_wp2); (go_roundg k1)
     case measure => have := HK1.out; omega
     case rel => exact ⟨(y121), (wrap64 (x30_1 + 1)), (by first | rfl | (simp; done) | (simp [*]; done)), H', ⟨by have := HK1.out; omega⟩, ⟨by (with_reducible repeat (first | apply Kd.R_alloc | apply Kd.R_drewN | apply Kd.R_drew)); exact HO123.out⟩, ⟨bk_ BK112⟩, ⟨bk_ BK113⟩, ⟨bk_ BK114⟩, ⟨bk_ BK117⟩, ⟨bk_ BK118⟩, ⟨bk_ BK119⟩, ⟨hb_ HB⟩⟩
    ·(rw [if_neg c31] at H); (exact absurd H (by simp))
   ·(rw [if_neg c29] at H); (have c29b0 := decide_eq_false c29); (clear c29); (obtain rfl := Option.some.inj H); (go_wp2); (go_ret); (exact ⟨_, by first | rfl | (simp [errW_none, errW_some] <;> rfl) | (simp [*, errW_none, errW_some] <;> rfl), by (with_reducible repeat (first | apply Kd.R_alloc | apply Kd.R_drewN | apply Kd.R_drew)); exact HO_14.out, hb_ HB⟩)

end Go.Proofs.Ytmmmmgdafifpiaa.XA
