-- written by xprint.py, this project's own program (wip/), over the words of print.sh
import Derived.Test.YtmmmmgdafifpiaaXAx0
import Derived.Test.YtmmmmgdafifpiaaXAx3
import Derived.Test.YtmmmmgdafifpiaaXAx6
import Derived.Test.YtmmmmgdafifpiaaXAx11
import Derived.Test.YtmmmmgdafifpiaaFlat
namespace Go.Proofs.Ytmmmmgdafifpiaa.XA
open Go.Proofs.Ytmmmmgdafifpiaa.Flat Go.RowKit Go.Proofs.Ytmmmmgdafifpiaa.Opens Go.Proofs.YtmmmmgdafifpiaaW.PrintWords Go.Proofs.YtmmmmgdafifpiaaW.PrintLast Go.Proofs.YtmmmmgdafifpiaaW.PrintMore
attribute [local go_sem] max2_int min2_int max_two min_two max_three min_three max_four min_four cell_some cell_same   -- for this text's walks alone
set_option linter.unusedVariables false
set_option linter.unusedSimpArgs false

/-! ### anchor_Most: function 15 -/
mutual
def anchor_Most.j0 : Nat → Int → Bool → Int → Int → Int → Int → Int → Int → Option (Int × Int)
 | 0, _, _, _, _, _, _, _, _ => none
 | k + 1, x1, x21, x169000, x169001, x169002, x170000, x170001, x170002 => if x21 = true then (some (0, 1)) else (anchor_Most.l0 k x1 16 x169000 x169001 x169002 x170000 x170001 x170002)
def anchor_Most.l0 : Nat → Int → Int → Int → Int → Int → Int → Int → Int → Option (Int × Int)
 | 0, _, _, _, _, _, _, _, _ => none
 | k + 1, x1, x8, x169000, x169001, x169002, x170000, x170001, x170002 => if x8 > 0 then ((anchor_holds.f k x169000 x169001 x169002 x1 x8 x170000 x170001 x170002).bind fun t173 => (if t173 = true then (some (x8, 0)) else (anchor_Most.l0 k x1 (wrap64 (x8 - 1)) x169000 x169001 x169002 x170000 x170001 x170002))) else (some (0, 0))
end
def anchor_Most.f (k : Nat) (a0_0 : Int) (a0_1 : Int) (a0_2 : Int) (a1 : Int) (a2_0 : Int) (a2_1 : Int) (a2_2 : Int) : Option (Int × Int) := (anchor_sized.f a0_0 a0_1 a0_2).bind fun t170 => (if t170 = true then ((anchor_in.f a1 0 5).bind fun t171 => (if t171 = true then ((anchor_possible.f a2_0 a2_1 a2_2).bind fun t172 => (anchor_Most.j0 k a1 (!t172) a0_0 a0_1 a0_2 a2_0 a2_1 a2_2)) else (anchor_Most.j0 k a1 true a0_0 a0_1 a0_2 a2_0 a2_1 a2_2))) else (anchor_Most.j0 k a1 true a0_0 a0_1 a0_2 a2_0 a2_1 a2_2))
theorem anchor_Most.mono_l : ∀ k, (∀ y0 y1 y2 y3 y4 y5 y6 y7, LeO (anchor_Most.j0 k y0 y1 y2 y3 y4 y5 y6 y7) (anchor_Most.j0 (k + 1) y0 y1 y2 y3 y4 y5 y6 y7)) ∧ (∀ y0 y1 y2 y3 y4 y5 y6 y7, LeO (anchor_Most.l0 k y0 y1 y2 y3 y4 y5 y6 y7) (anchor_Most.l0 (k + 1) y0 y1 y2 y3 y4 y5 y6 y7))
 | 0 => ⟨fun _ _ _ _ _ _ _ _ r h => by simp [anchor_Most.j0] at h, fun _ _ _ _ _ _ _ _ r h => by simp [anchor_Most.l0] at h⟩
 | k + 1 => by
  (obtain ⟨ih0, ih1⟩ := anchor_Most.mono_l k); (refine ⟨?_, ?_⟩)
  ·intro y0 y1 y2 y3 y4 y5 y6 y7
   unfold anchor_Most.j0
   repeat' first
   | (with_reducible exact ih0 _ _ _ _ _ _ _ _)
   | (with_reducible exact ih1 _ _ _ _ _ _ _ _)
   | (with_reducible exact anchor_holds.mono _ _ _ _ _ _ _ _ _)
   | (with_reducible exact LeO.refl _)
   | (with_reducible exact LeO.none _)
   | (with_reducible refine LeO.ite ?_ ?_)
   | (with_reducible refine LeO.bind ?_ (fun _ => ?_))
   | exact ih0 _ _ _ _ _ _ _ _
   | exact ih1 _ _ _ _ _ _ _ _
   | exact anchor_holds.mono _ _ _ _ _ _ _ _ _
   | exact LeO.none _
   | refine LeO.ite ?_ ?_
   | refine LeO.bind ?_ (fun _ => ?_)
  ·intro y0 y1 y2 y3 y4 y5 y6 y7
   unfold anchor_Most.l0
   repeat' first
   | (with_reducible exact ih0 _ _ _ _ _ _ _ _)
   | (with_reducible exact ih1 _ _ _ _ _ _ _ _)
   | (with_reducible exact anchor_holds.mono _ _ _ _ _ _ _ _ _)
   | (with_reducible exact LeO.refl _)
   | (with_reducible exact LeO.none _)
   | (with_reducible refine LeO.ite ?_ ?_)
   | (with_reducible refine LeO.bind ?_ (fun _ => ?_))
   | exact ih0 _ _ _ _ _ _ _ _
   | exact ih1 _ _ _ _ _ _ _ _
   | exact anchor_holds.mono _ _ _ _ _ _ _ _ _
   | exact LeO.none _
   | refine LeO.ite ?_ ?_
   | refine LeO.bind ?_ (fun _ => ?_)
theorem anchor_Most.mono : ∀ a0 a1 a2 a3 a4 a5 a6 k, LeO (anchor_Most.f k a0 a1 a2 a3 a4 a5 a6) (anchor_Most.f (k + 1) a0 a1 a2 a3 a4 a5 a6) := by
 intro a0 a1 a2 a3 a4 a5 a6 k
 obtain ⟨ih0, ih1⟩ := anchor_Most.mono_l k
 unfold anchor_Most.f
 repeat' first
   | (with_reducible exact ih0 _ _ _ _ _ _ _ _)
   | (with_reducible exact ih1 _ _ _ _ _ _ _ _)
   | (with_reducible exact anchor_holds.mono _ _ _ _ _ _ _ _ _)
   | (with_reducible exact LeO.refl _)
   | (with_reducible exact LeO.none _)
   | (with_reducible refine LeO.ite ?_ ?_)
   | (with_reducible refine LeO.bind ?_ (fun _ => ?_))
   | exact ih0 _ _ _ _ _ _ _ _
   | exact ih1 _ _ _ _ _ _ _ _
   | exact anchor_holds.mono _ _ _ _ _ _ _ _ _
   | exact LeO.none _
   | refine LeO.ite ?_ ?_
   | refine LeO.bind ?_ (fun _ => ?_)
set_option maxHeartbeats 8000000 in
set_option maxRecDepth 100000 in
theorem anchor_Most.calls (k : Nat) (a0_0 : Int) (a0_1 : Int) (a0_2 : Int) (a1 : Int) (a2_0 : Int) (a2_1 : Int) (a2_2 : Int) (r1 : Int) (r2 : Int) (w : World) (h : anchor_Most.f k a0_0 a0_1 a0_2 a1 a2_0 a2_1 a2_2 = some (r1, r2)) :
  Calls Try.prog 15 #[.agg #[.int .i64 a0_0, .int .i64 a0_1, .int .i64 a0_2], .int .i64 a1, .agg #[.int .i64 a2_0, .int .i64 a2_1, .int .i64 a2_2]] w fun e w' => e = .returned (.tuple #[.int .i64 r1, .int .i64 r2]) ∧ Below w.heap.size w w' := by
 have hu33 := Try.underlying33
 have hu27 := Try.underlying27
 have HB := Aside0.mk (Below.refl w.heap.size w)
 have H : ((anchor_sized.f a0_0 a0_1 a0_2).bind fun t170 => (if t170 = true then ((anchor_in.f a1 0 5).bind fun t171 => (if t171 = true then ((anchor_possible.f a2_0 a2_1 a2_2).bind fun t172 => (anchor_Most.j0 k a1 (!t172) a0_0 a0_1 a0_2 a2_0 a2_1 a2_2)) else (anchor_Most.j0 k a1 true a0_0 a0_1 a0_2 a2_0 a2_1 a2_2))) else (anchor_Most.j0 k a1 true a0_0 a0_1 a0_2 a2_0 a2_1 a2_2))) = some (r1, r2) := h
 clear h
 have HC4 := Aside0.mk H
 clear H
 go_enter Try.func15, Try.ntmps15
 go_upto_region 1 with (first | ((with_reducible refine gate_dst (N := 3) rfl ?_); refine box_event ?hg (N := 3) ?hd (cs := #[.int .i64 a0_0, .int .i64 a0_1, .int .i64 a0_2]) (t := 33) ?hr ?_; (case hd => rfl); (case hg => first | rfl | (go_simp; done)); (case hr => first | (go_simp; done) | (go_simp; rfl)); intro gb168 hg w5 hbox hb; have n0_ := Aside0.mk (below_step (hb_ HB) hb); have n1_ := Aside0.mk (hbox); have n2_ := Aside0.mk ((by rw [hg]; exact (below_size (hb_ HB)) : w.heap.size ≤ gb168)); have n3_ := Aside0.mk ((by rw [hg]; exact (below_size (hb_ HB)) : w.heap.size ≤ gb168)); clear HB; have HB := n0_; have BK168 := n1_; have GW168 := n2_; have GE168 := n3_; clear n0_ n1_ n2_ n3_; clear hb hbox hg) | ((with_reducible refine gate_dst (N := 5) rfl ?_); refine box_event ?hg (N := 5) ?hd (cs := #[.int .i64 a2_0, .int .i64 a2_1, .int .i64 a2_2]) (t := 27) ?hr ?_; (case hd => rfl); (case hg => first | rfl | (go_simp; done)); (case hr => first | (go_simp; done) | (go_simp; rfl)); intro gb169 hg w6 hbox hb; have n0_ := Aside0.mk (blk_below (bk_ BK168) hb); have n1_ := Aside0.mk (below_step (hb_ HB) hb); have n2_ := Aside0.mk (hbox); have n3_ := Aside0.mk ((by rw [hg]; exact (below_size (hb_ HB)) : w.heap.size ≤ gb169)); have n4_ := Aside0.mk ((by rw [hg]; exact (below_size (hb_ HB)) : w.heap.size ≤ gb169)); have n5_ := Aside0.mk ((by rw [hg]; exact Nat.ne_of_lt (blk_lt (bk_ BK168)) : gb168 ≠ gb169)); have n6_ := Aside0.mk ((by rw [hg]; exact Nat.ne_of_gt (blk_lt (bk_ BK168)) : gb169 ≠ gb168)); clear BK168; clear HB; have BK168 := n0_; have HB := n1_; have BK169 := n2_; have GW169 := n3_; have GE169 := n4_; have NB168_169 := n5_; have NB169_168 := n6_; clear n0_ n1_ n2_ n3_ n4_ n5_ n6_; clear hb hbox hg))
 (try simp only [Act.put, List.setIfInBounds_toArray, List.set_cons_zero, List.set_cons_succ])
 go_cut [21] (fun v21 wc => ∃ (kq : Nat) (x21_3 : Bool), v21 = .bool x21_3 ∧ Aside0 (anchor_Most.j0 kq a1 x21_3 a0_0 a0_1 a0_2 a2_0 a2_1 a2_2 = some (r1, r2)) ∧ Aside0 (kq ≤ k) ∧ Aside0 (wc.heap[gb168]? = some (.cells #[.int .i64 a0_0, .int .i64 a0_1, .int .i64 a0_2] 33 (0, 0))) ∧ Aside0 (wc.heap[gb169]? = some (.cells #[.int .i64 a2_0, .int .i64 a2_1, .int .i64 a2_2] 27 (0, 0))) ∧ Aside0 (Below w.heap.size w wc))
 case first =>
  (have H := HC4.out); (clear HC4); (replace H := Option.bind_eq_some_iff.mp H); (obtain ⟨t170, A70, H⟩ := H); (replace H : (if t170 = true then ((anchor_in.f a1 0 5).bind fun t171 => (if t171 = true then ((anchor_possible.f a2_0 a2_1 a2_2).bind fun t172 => (anchor_Most.j0 k a1 (!t172) a0_0 a0_1 a0_2 a2_0 a2_1 a2_2)) else (anchor_Most.j0 k a1 true a0_0 a0_1 a0_2 a2_0 a2_1 a2_2))) else (anchor_Most.j0 k a1 true a0_0 a0_1 a0_2 a2_0 a2_1 a2_2)) = some (r1, r2) := H); (have A7 := Aside0.mk A70); (clear A70); (by_cases c8 : t170 = true)
  ·subst c8
   (have H1 : ((anchor_in.f a1 0 5).bind fun t171 => (if t171 = true then ((anchor_possible.f a2_0 a2_1 a2_2).bind fun t172 => (anchor_Most.j0 k a1 (!t172) a0_0 a0_1 a0_2 a2_0 a2_1 a2_2)) else (anchor_Most.j0 k a1 true a0_0 a0_1 a0_2 a2_0 a2_1 a2_2))) = some (r1, r2) := by rw [if_pos rfl] at H; exact H); (clear H); (have H := H1); (clear H1); (replace H := Option.bind_eq_some_iff.mp H); (obtain ⟨t171, A90, H⟩ := H); (replace H : (if t171 = true then ((anchor_possible.f a2_0 a2_1 a2_2).bind fun t172 => (anchor_Most.j0 k a1 (!t172) a0_0 a0_1 a0_2 a2_0 a2_1 a2_2)) else (anchor_Most.j0 k a1 true a0_0 a0_1 a0_2 a2_0 a2_1 a2_2)) = some (r1, r2) := H); (have A9 := Aside0.mk A90); (clear A90); (by_cases c10 : t171 = true)
   ·subst c10
    (have H1 : ((anchor_possible.f a2_0 a2_1 a2_2).bind fun t172 => (anchor_Most.j0 k a1 (!t172) a0_0 a0_1 a0_2 a2_0 a2_1 a2_2)) = some (r1, r2) := by rw [if_pos rfl] at H; exact H); (clear H); (have H := H1); (clear H1); (replace H := Option.bind_eq_some_iff.mp H); (obtain ⟨t172, A110, H⟩ := H); (replace H : (anchor_Most.j0 k a1 (!t172) a0_0 a0_1 a0_2 a2_0 a2_1 a2_2) = some (r1, r2) := H); (have A11 := Aside0.mk A110); (clear A110); (have H' := Aside0.mk H); (clear H); (have hnb12 := NB168_169.out); (have hnc12 := NB169_168.out); (have hcz13_0 : w6.cell? ⟨gb168, 0, none⟩ = some (.int .i64 a0_0) := (blk_cell BK168.out 0).trans rfl); (have hcz13_1 : w6.cell? ⟨gb168, 1, none⟩ = some (.int .i64 a0_1) := (blk_cell BK168.out 1).trans rfl); (have hcz13_2 : w6.cell? ⟨gb168, 2, none⟩ = some (.int .i64 a0_2) := (blk_cell BK168.out 2).trans rfl); (have hfz13_0 := blk_frozen BK168.out 0); (have hfz13_1 := blk_frozen BK168.out 1); (have hfz13_2 := blk_frozen BK168.out 2); (go_wp2_with (first | ((with_reducible refine gate_callee (f := 31) rfl ?_); refine goesL_ (some 10) rfl rfl Try.func31 (by kernel_rfl) rfl #[.agg #[.int .i64 a0_0, .int .i64 a0_1, .int .i64 a0_2]] rfl (by (try simp only [List.map_toArray, List.map_cons, List.map_nil]); first | done | rfl | (simp only [List.length_drop, List.length_take]; rfl)) ?_; (with_reducible refine (anchor_sized.calls a0_0 a0_1 a0_2 true _ A7.out).mono ?_); rintro e w14 ⟨rfl, hb⟩; refine ⟨_, rfl, ?_⟩; have n0_ := Aside0.mk (blk_below (bk_ BK168) hb); have n1_ := Aside0.mk (blk_below (bk_ BK169) hb); have n2_ := Aside0.mk (below_step (hb_ HB) hb); clear BK168; clear BK169; clear HB; have BK168 := n0_; have BK169 := n1_; have HB := n2_; clear n0_ n1_ n2_; (try clear hb); (try clear hb2); (try clear hk); (try clear hi)) | (go_at_call 32; (with_reducible refine (anchor_in.calls a1 0 5 true _ A9.out).mono ?_); rintro e w' ⟨rfl, ⟨nd, rfl⟩⟩; have hcz15_0 : w14.cell? ⟨gb169, 0, none⟩ = some (.int .i64 a2_0) := (blk_cell BK169.out 0).trans rfl; have hcz15_1 : w14.cell? ⟨gb169, 1, none⟩ = some (.int .i64 a2_1) := (blk_cell BK169.out 1).trans rfl; have hcz15_2 : w14.cell? ⟨gb169, 2, none⟩ = some (.int .i64 a2_2) := (blk_cell BK169.out 2).trans rfl; have hfz15_0 := blk_frozen BK169.out 0; have hfz15_1 := blk_frozen BK169.out 1; have hfz15_2 := blk_frozen BK169.out 2) | (go_at_call 30; (with_reducible refine (anchor_possible.calls a2_0 a2_1 a2_2 t172 _ A11.out).mono ?_); rintro e w16 ⟨rfl, hb⟩; have n0_ := Aside0.mk (blk_below (bk_ BK168) hb); have n1_ := Aside0.mk (blk_below (bk_ BK169) hb); have n2_ := Aside0.mk (below_step (hb_ HB) hb); clear BK168; clear BK169; clear HB; have BK168 := n0_; have BK169 := n1_; have HB := n2_; clear n0_ n1_ n2_; (try clear hb); (try clear hb2); (try clear hk); (try clear hi)))); (go_meet)
    case rel => exact ⟨_, (!t172), (by first | rfl | (simp; done) | (simp [*]; done)), H', ⟨by first | omega | exact Nat.le_refl _⟩, ⟨bk_ BK168⟩, ⟨bk_ BK169⟩, ⟨hb_ HB⟩⟩
   ·replace c10 := Bool.eq_false_iff.mpr c10
    (subst c10); (have H1 : (anchor_Most.j0 k a1 true a0_0 a0_1 a0_2 a2_0 a2_1 a2_2) = some (r1, r2) := by rw [if_neg (show ¬ (false = true) by decide)] at H; exact H); (clear H); (have H := H1); (clear H1); (have H' := Aside0.mk H); (clear H); (have hnb17 := NB168_169.out); (have hnc17 := NB169_168.out); (have hcz18_0 : w6.cell? ⟨gb168, 0, none⟩ = some (.int .i64 a0_0) := (blk_cell BK168.out 0).trans rfl); (have hcz18_1 : w6.cell? ⟨gb168, 1, none⟩ = some (.int .i64 a0_1) := (blk_cell BK168.out 1).trans rfl); (have hcz18_2 : w6.cell? ⟨gb168, 2, none⟩ = some (.int .i64 a0_2) := (blk_cell BK168.out 2).trans rfl); (have hfz18_0 := blk_frozen BK168.out 0); (have hfz18_1 := blk_frozen BK168.out 1); (have hfz18_2 := blk_frozen BK168.out 2); (go_wp2_with (first | ((with_reducible refine gate_callee (f := 31) rfl ?_); refine goesL_ (some 10) rfl rfl Try.func31 (by kernel_rfl) rfl #[.agg #[.int .i64 a0_0, .int .i64 a0_1, .int .i64 a0_2]] rfl (by (try simp only [List.map_toArray, List.map_cons, List.map_nil]); first | done | rfl | (simp only [List.length_drop, List.length_take]; rfl)) ?_; (with_reducible refine (anchor_sized.calls a0_0 a0_1 a0_2 true _ A7.out).mono ?_); rintro e w19 ⟨rfl, hb⟩; refine ⟨_, rfl, ?_⟩; have n0_ := Aside0.mk (blk_below (bk_ BK168) hb); have n1_ := Aside0.mk (blk_below (bk_ BK169) hb); have n2_ := Aside0.mk (below_step (hb_ HB) hb); clear BK168; clear BK169; clear HB; have BK168 := n0_; have BK169 := n1_; have HB := n2_; clear n0_ n1_ n2_; (try clear hb); (try clear hb2); (try clear hk); (try clear hi)) | (go_at_call 32; (with_reducible refine (anchor_in.calls a1 0 5 false _ A9.out).mono ?_); rintro e w' ⟨rfl, ⟨nd, rfl⟩⟩))); (go_meet)
    case rel => exact ⟨_, (true), (by first | rfl | (simp; done) | (simp [*]; done)), H', ⟨by first | omega | exact Nat.le_refl _⟩, ⟨bk_ BK168⟩, ⟨bk_ BK169⟩, ⟨hb_ HB⟩⟩
  ·replace c8 := Bool.eq_false_iff.mpr c8
   (subst c8); (have H1 : (anchor_Most.j0 k a1 true a0_0 a0_1 a0_2 a2_0 a2_1 a2_2) = some (r1, r2) := by rw [if_neg (show ¬ (false = true) by decide)] at H; exact H); (clear H); (have H := H1); (clear H1); (have H' := Aside0.mk H); (clear H); (have hnb20 := NB168_169.out); (have hnc20 := NB169_168.out); (have hcz21_0 : w6.cell? ⟨gb168, 0, none⟩ = some (.int .i64 a0_0) := (blk_cell BK168.out 0).trans rfl); (have hcz21_1 : w6.cell? ⟨gb168, 1, none⟩ = some (.int .i64 a0_1) := (blk_cell BK168.out 1).trans rfl); (have hcz21_2 : w6.cell? ⟨gb168, 2, none⟩ = some (.int .i64 a0_2) := (blk_cell BK168.out 2).trans rfl); (have hfz21_0 := blk_frozen BK168.out 0); (have hfz21_1 := blk_frozen BK168.out 1); (have hfz21_2 := blk_frozen BK168.out 2); (go_wp2_with (first | ((with_reducible refine gate_callee (f := 31) rfl ?_); refine goesL_ (some 10) rfl rfl Try.func31 (by kernel_rfl) rfl #[.agg #[.int .i64 a0_0, .int .i64 a0_1, .int .i64 a0_2]] rfl (by (try simp only [List.map_toArray, List.map_cons, List.map_nil]); first | done | rfl | (simp only [List.length_drop, List.length_take]; rfl)) ?_; (with_reducible refine (anchor_sized.calls a0_0 a0_1 a0_2 false _ A7.out).mono ?_); rintro e w22 ⟨rfl, hb⟩; refine ⟨_, rfl, ?_⟩; have n0_ := Aside0.mk (blk_below (bk_ BK168) hb); have n1_ := Aside0.mk (blk_below (bk_ BK169) hb); have n2_ := Aside0.mk (below_step (hb_ HB) hb); clear BK168; clear BK169; clear HB; have BK168 := n0_; have BK169 := n1_; have HB := n2_; clear n0_ n1_ n2_; (try clear hb); (try clear hb2); (try clear hk); (try clear hi)))); (go_meet)
   case rel => exact ⟨_, (true), (by first | rfl | (simp; done) | (simp [*]; done)), H', ⟨by first | omega | exact Nat.le_refl _⟩, ⟨bk_ BK168⟩, ⟨bk_ BK169⟩, ⟨hb_ HB⟩⟩
 case rest =>
  (clear HC4); (try clear c1); (try clear c2); (try clear p2); (try clear c3); (try clear c8); (try clear c10); (try clear c12); (try clear c15); (try clear c17); (try clear c20); (try clear hcz13_0); (try clear hcz13_1); (try clear hcz13_2); (try clear hcz15_0); (try clear hcz15_1); (try clear hcz15_2); (try clear hcz18_0); (try clear hcz18_1); (try clear hcz18_2); (try clear hcz21_0); (try clear hcz21_1); (try clear hcz21_2); (try clear hfz13_0); (try clear hfz13_1); (try clear hfz13_2); (try clear hfz15_0); (try clear hfz15_1); (try clear hfz15_2); (try clear hfz18_0); (try clear hfz18_1); (try clear hfz18_2); (try clear hfz21_0); (try clear hfz21_1); (try clear hfz21_2); (obtain ⟨kq, x21_3, rfl, HA, HJ3, BK168, BK169, HB⟩ := hcut)
  cases kq with
  | zero => exact absurd HA.out (by simp [anchor_Most.j0])
  | succ kj3 =>
   (have H := HA.out); (clear HA); (simp only [anchor_Most.j0] at H); (by_cases c23 : x21_3 = true)
   ·(subst c23); (have H1 : (some (0, 1)) = some (r1, r2) := by rw [if_pos rfl] at H; exact H); (clear H); (have H := H1); (clear H1); (simp only [Option.some.injEq, Prod.mk.injEq] at H); (obtain ⟨rfl, rfl⟩ := H); (go_wp2); (go_ret2); (exact ⟨by first | rfl | (simp [errW_none, errW_some] <;> rfl) | (simp [*, errW_none, errW_some] <;> rfl), hb_ HB⟩)
   ·replace c23 := Bool.eq_false_iff.mpr c23
    (subst c23); (have H1 : (anchor_Most.l0 kj3 a1 16 a0_0 a0_1 a0_2 a2_0 a2_1 a2_2) = some (r1, r2) := by rw [if_neg (show ¬ (false = true) by decide)] at H; exact H); (clear H); (have H := H1); (clear H1); (have H' := Aside0.mk H); (clear H); (go_wp2); (go_loopg [8] kj3 (fun kq v8 w' => ∃ (x8_2 : Int), v8 = .int .i64 x8_2 ∧ Aside0 (anchor_Most.l0 kq a1 x8_2 a0_0 a0_1 a0_2 a2_0 a2_1 a2_2 = some (r1, r2)) ∧ Aside0 (kq ≤ kj3) ∧ Aside0 (w'.heap[gb168]? = some (.cells #[.int .i64 a0_0, .int .i64 a0_1, .int .i64 a0_2] 33 (0, 0))) ∧ Aside0 (w'.heap[gb169]? = some (.cells #[.int .i64 a2_0, .int .i64 a2_1, .int .i64 a2_2] 27 (0, 0))) ∧ Aside0 (Below w.heap.size w w')))
    case atStart => exact ⟨(16), (by first | rfl | (simp; done) | (simp [*]; done)), H', ⟨Nat.le_refl _⟩, ⟨bk_ BK168⟩, ⟨bk_ BK169⟩, ⟨hb_ HB⟩⟩
    case round =>
     (clear H'); (try clear c1); (try clear c2); (try clear p2); (try clear c3); (try clear c8); (try clear c10); (try clear c12); (try clear c15); (try clear c17); (try clear c20); (try clear c23); (try clear hcz13_0); (try clear hcz13_1); (try clear hcz13_2); (try clear hcz15_0); (try clear hcz15_1); (try clear hcz15_2); (try clear hcz18_0); (try clear hcz18_1); (try clear hcz18_2); (try clear hcz21_0); (try clear hcz21_1); (try clear hcz21_2); (try clear hfz13_0); (try clear hfz13_1); (try clear hfz13_2); (try clear hfz15_0); (try clear hfz15_1); (try clear hfz15_2); (try clear hfz18_0); (try clear hfz18_1); (try clear hfz18_2); (try clear hfz21_0); (try clear hfz21_1); (try clear hfz21_2); (try clear p2); (obtain ⟨x8_2, rfl, HA, HK2, BK168, BK169, HB⟩ := hrel)
     cases gk with
     | zero => exact absurd HA.out (by simp [anchor_Most.l0])
     | succ k2 =>
      (have H := HA.out); (clear HA); (simp only [anchor_Most.l0] at H); (by_cases c24 : x8_2 > 0)
      ·rw [if_pos c24] at H
       (have c24b0 := decide_eq_true c24); (clear c24); (replace H := Option.bind_eq_some_iff.mp H); (obtain ⟨t173, A250, H⟩ := H); (replace H : (if t173 = true then (some (x8_2, 0)) else (anchor_Most.l0 k2 a1 (wrap64 (x8_2 - 1)) a0_0 a0_1 a0_2 a2_0 a2_1 a2_2)) = some (r1, r2) := H); (have A25 := Aside0.mk A250); (clear A250); (by_cases c26 : t173 = true)
       ·subst c26
        (have H1 : (some (x8_2, 0)) = some (r1, r2) := by rw [if_pos rfl] at H; exact H); (clear H); (have H := H1); (clear H1); (simp only [Option.some.injEq, Prod.mk.injEq] at H); (obtain ⟨rfl, rfl⟩ := H); (have hnb27 := NB168_169.out); (have hnc27 := NB169_168.out); (have hcz28_0 : wr.cell? ⟨gb168, 0, none⟩ = some (.int .i64 a0_0) := (blk_cell BK168.out 0).trans rfl); (have hcz28_1 : wr.cell? ⟨gb168, 1, none⟩ = some (.int .i64 a0_1) := (blk_cell BK168.out 1).trans rfl); (have hcz28_2 : wr.cell? ⟨gb168, 2, none⟩ = some (.int .i64 a0_2) := (blk_cell BK168.out 2).trans rfl); (have hfz28_0 := blk_frozen BK168.out 0); (have hfz28_1 := blk_frozen BK168.out 1); (have hfz28_2 := blk_frozen BK168.out 2); (have hcz29_0 : wr.cell? ⟨gb169, 0, none⟩ = some (.int .i64 a2_0) := (blk_cell BK169.out 0).trans rfl); (have hcz29_1 : wr.cell? ⟨gb169, 1, none⟩ = some (.int .i64 a2_1) := (blk_cell BK169.out 1).trans rfl); (have hcz29_2 : wr.cell? ⟨gb169, 2, none⟩ = some (.int .i64 a2_2) := (blk_cell BK169.out 2).trans rfl); (have hfz29_0 := blk_frozen BK169.out 0); (have hfz29_1 := blk_frozen BK169.out 1); (have hfz29_2 := blk_frozen BK169.out 2); (go_wp2_with (first | ((with_reducible refine gate_callee (f := 33) rfl ?_); refine goesL_ (some 30) rfl rfl Try.func33 (by kernel_rfl) rfl #[.agg #[.int .i64 a0_0, .int .i64 a0_1, .int .i64 a0_2], .int .i64 a1, .int .i64 x8_2, .agg #[.int .i64 a2_0, .int .i64 a2_1, .int .i64 a2_2]] rfl (by (try simp only [List.map_toArray, List.map_cons, List.map_nil]); first | done | rfl | (simp only [List.length_drop, List.length_take]; rfl)) ?_; (with_reducible refine (anchor_holds.calls k2 a0_0 a0_1 a0_2 a1 x8_2 a2_0 a2_1 a2_2 true _ A25.out).mono ?_); rintro e w30 ⟨rfl, hb⟩; refine ⟨_, rfl, ?_⟩; have n0_ := Aside0.mk (blk_below (bk_ BK168) hb); have n1_ := Aside0.mk (blk_below (bk_ BK169) hb); have n2_ := Aside0.mk (below_step (hb_ HB) hb); clear BK168; clear BK169; clear HB; have BK168 := n0_; have BK169 := n1_; have HB := n2_; clear n0_ n1_ n2_; (try clear hb); (try clear hb2); (try clear hk); (try clear hi)))); (go_ret2); (exact ⟨by first | rfl | (simp [errW_none, errW_some] <;> rfl) | (simp [*, errW_none, errW_some] <;> rfl), hb_ HB⟩)
       ·replace c26 := Bool.eq_false_iff.mpr c26
        (subst c26); (have H1 : (anchor_Most.l0 k2 a1 (wrap64 (x8_2 - 1)) a0_0 a0_1 a0_2 a2_0 a2_1 a2_2) = some (r1, r2) := by rw [if_neg (show ¬ (false = true) by decide)] at H; exact H); (clear H); (have H := H1); (clear H1); (have H' := Aside0.mk H); (clear H); (have hnb31 := NB168_169.out); (have hnc31 := NB169_168.out); (have hcz32_0 : wr.cell? ⟨gb168, 0, none⟩ = some (.int .i64 a0_0) := (blk_cell BK168.out 0).trans rfl); (have hcz32_1 : wr.cell? ⟨gb168, 1, none⟩ = some (.int .i64 a0_1) := (blk_cell BK168.out 1).trans rfl); (have hcz32_2 : wr.cell? ⟨gb168, 2, none⟩ = some (.int .i64 a0_2) := (blk_cell BK168.out 2).trans rfl); (have hfz32_0 := blk_frozen BK168.out 0); (have hfz32_1 := blk_frozen BK168.out 1); (have hfz32_2 := blk_frozen BK168.out 2); (have hcz33_0 : wr.cell? ⟨gb169, 0, none⟩ = some (.int .i64 a2_0) := (blk_cell BK169.out 0).trans rfl); (have hcz33_1 : wr.cell? ⟨gb169, 1, none⟩ = some (.int .i64 a2_1) := (blk_cell BK169.out 1).trans rfl); (have hcz33_2 : wr.cell? ⟨gb169, 2, none⟩ = some (.int .i64 a2_2) := (blk_cell BK169.out 2).trans rfl); (have hfz33_0 := blk_frozen BK169.out 0); (have hfz33_1 := blk_frozen BK169.out 1); (have hfz33_2 := blk_frozen BK169.out 2); (go_wp2_with (first | ((with_reducible refine gate_callee (f := 33) rfl ?_); refine goesL_ (some 30) rfl rfl Try.func33 (by kernel_rfl) rfl #[.agg #[.int .i64 a0_0, .int .i64 a0_1, .int .i64 a0_2], .int .i64 a1, .int .i64 x8_2, .agg #[.int .i64 a2_0, .int .i64 a2_1, .int .i64 a2_2]] rfl (by (try simp only [List.map_toArray, List.map_cons, List.map_nil]); first | done | rfl | (simp only [List.length_drop, List.length_take]; rfl)) ?_; (with_reducible refine (anchor_holds.calls k2 a0_0 a0_1 a0_2 a1 x8_2 a2_0 a2_1 a2_2 false _ A25.out).mono ?_); rintro e w34 ⟨rfl, hb⟩; refine ⟨_, rfl, ?_⟩; have n0_ := Aside0.mk (blk_below (bk_ BK168) hb); have n1_ := Aside0.mk (blk_below (bk_ BK169) hb); have n2_ := Aside0.mk (below_step (hb_ HB) hb); clear BK168; clear BK169; clear HB; have BK168 := n0_; have BK169 := n1_; have HB := n2_; clear n0_ n1_ n2_; (try clear hb); (try clear hb2); (try clear hk); (try clear hi)))); (go_roundg k2)
        case measure => have := HJ3.out; have := HK2.out; omega
        case rel => exact ⟨(wrap64 (x8_2 - 1)), (by first | rfl | (simp; done) | (simp [*]; done)), H', ⟨by have := HJ3.out; have := HK2.out; omega⟩, ⟨bk_ BK168⟩, ⟨bk_ BK169⟩, ⟨hb_ HB⟩⟩
      ·(rw [if_neg c24] at H); (have c24b0 := decide_eq_false c24); (clear c24); (simp only [Option.some.injEq, Prod.mk.injEq] at H); (obtain ⟨rfl, rfl⟩ := H); (go_wp2); (go_ret2); (exact ⟨by first | rfl | (simp [errW_none, errW_some] <;> rfl) | (simp [*, errW_none, errW_some] <;> rfl), hb_ HB⟩)

end Go.Proofs.Ytmmmmgdafifpiaa.XA
