-- written by xprint.py, this project's own program (wip/), over the words of print.sh
import Derived.Test.YtmmmmgdafifpiaaXAx0
import Derived.Test.YtmmmmgdafifpiaaXAx22
import Derived.Test.YtmmmmgdafifpiaaXAx24
import Derived.Test.YtmmmmgdafifpiaaFlat
namespace Go.Proofs.Ytmmmmgdafifpiaa.XA
open Go.Proofs.Ytmmmmgdafifpiaa.Flat Go.RowKit Go.Proofs.Ytmmmmgdafifpiaa.Opens Go.Proofs.YtmmmmgdafifpiaaW.PrintWords Go.Proofs.YtmmmmgdafifpiaaW.PrintLast Go.Proofs.YtmmmmgdafifpiaaW.PrintMore
attribute [local go_sem] max2_int min2_int max_two min_two max_three min_three max_four min_four cell_some cell_same   -- for this text's walks alone
set_option linter.unusedVariables false
set_option linter.unusedSimpArgs false

/-! ### gangsawref44_Most: function 18 -/
def gangsawref44_Most.l0 : Nat → Int → Int → Int → Int → Int → Int → Int → Int → Option (Int)
 | 0, _, _, _, _, _, _, _, _ => none
 | k + 1, x1, x7, x302000, x302001, x302002, x303000, x303001, x303002 => if x7 > 0 then ((gangsawref44_Row.f k x302000 x302001 x302002 x1 x7 x303000 x303001 x303002).bind fun t303 => ((gangsawref44_Check.f k x302000 x302001 x302002 t303 x303000 x303001 x303002).bind fun t306 => (if t306 = 0 then (some x7) else (gangsawref44_Most.l0 k x1 (wrap64 (x7 - 1)) x302000 x302001 x302002 x303000 x303001 x303002)))) else (some 0)
def gangsawref44_Most.f (k : Nat) (a0_0 : Int) (a0_1 : Int) (a0_2 : Int) (a1 : Int) (a2_0 : Int) (a2_1 : Int) (a2_2 : Int) : Option (Int) := gangsawref44_Most.l0 k a1 16 a0_0 a0_1 a0_2 a2_0 a2_1 a2_2
theorem gangsawref44_Most.mono_l : ∀ k, (∀ y0 y1 y2 y3 y4 y5 y6 y7, LeO (gangsawref44_Most.l0 k y0 y1 y2 y3 y4 y5 y6 y7) (gangsawref44_Most.l0 (k + 1) y0 y1 y2 y3 y4 y5 y6 y7))
 | 0 => fun _ _ _ _ _ _ _ _ r h => by simp [gangsawref44_Most.l0] at h
 | k + 1 => by
  have ih0 := gangsawref44_Most.mono_l k
  ·intro y0 y1 y2 y3 y4 y5 y6 y7
   unfold gangsawref44_Most.l0
   repeat' first
   | (with_reducible exact ih0 _ _ _ _ _ _ _ _)
   | (with_reducible exact gangsawref44_Check.mono _ _ _ _ _ _ _ _)
   | (with_reducible exact gangsawref44_Row.mono _ _ _ _ _ _ _ _ _)
   | (with_reducible exact LeO.refl _)
   | (with_reducible exact LeO.none _)
   | (with_reducible refine LeO.ite ?_ ?_)
   | (with_reducible refine LeO.bind ?_ (fun _ => ?_))
   | exact ih0 _ _ _ _ _ _ _ _
   | exact gangsawref44_Check.mono _ _ _ _ _ _ _ _
   | exact gangsawref44_Row.mono _ _ _ _ _ _ _ _ _
   | exact LeO.none _
   | refine LeO.ite ?_ ?_
   | refine LeO.bind ?_ (fun _ => ?_)
theorem gangsawref44_Most.mono : ∀ a0 a1 a2 a3 a4 a5 a6 k, LeO (gangsawref44_Most.f k a0 a1 a2 a3 a4 a5 a6) (gangsawref44_Most.f (k + 1) a0 a1 a2 a3 a4 a5 a6) := by
 intro a0 a1 a2 a3 a4 a5 a6 k
 have ih0 := gangsawref44_Most.mono_l k
 unfold gangsawref44_Most.f
 repeat' first
   | (with_reducible exact ih0 _ _ _ _ _ _ _ _)
   | (with_reducible exact gangsawref44_Check.mono _ _ _ _ _ _ _ _)
   | (with_reducible exact gangsawref44_Row.mono _ _ _ _ _ _ _ _ _)
   | (with_reducible exact LeO.refl _)
   | (with_reducible exact LeO.none _)
   | (with_reducible refine LeO.ite ?_ ?_)
   | (with_reducible refine LeO.bind ?_ (fun _ => ?_))
   | exact ih0 _ _ _ _ _ _ _ _
   | exact gangsawref44_Check.mono _ _ _ _ _ _ _ _
   | exact gangsawref44_Row.mono _ _ _ _ _ _ _ _ _
   | exact LeO.none _
   | refine LeO.ite ?_ ?_
   | refine LeO.bind ?_ (fun _ => ?_)
def gangsawref44_Most.T4 : Bool × List (List Nat × List Nat) := (true, [([], []), ([], []), ([], []), ([], []), ([], []), ([1, 2, 3, 4], [1, 2, 3, 4]), ([], []), ([0, 5, 6, 5], [0, 5, 6]), ([7], [7])])
def gangsawref44_Most.B4 : List Nat := [0, 0, 0, 0, 0, 30, 0, 127, 255]
theorem gangsawref44_Most.tab4 : rtab .any (opsOf Try.f18 4) = gangsawref44_Most.T4 := by kernel_rfl
theorem gangsawref44_Most.bits4 : waitsOk gangsawref44_Most.T4.2 gangsawref44_Most.B4 = true := by kernel_rfl
set_option maxHeartbeats 8000000 in
set_option maxRecDepth 100000 in
theorem gangsawref44_Most.calls (k : Nat) (a0_0 : Int) (a0_1 : Int) (a0_2 : Int) (a1 : Int) (a2_0 : Int) (a2_1 : Int) (a2_2 : Int) (r : Int) (w : World) (h : gangsawref44_Most.f k a0_0 a0_1 a0_2 a1 a2_0 a2_1 a2_2 = some r) :
  Calls Try.prog 18 #[.agg #[.int .i64 a0_0, .int .i64 a0_1, .int .i64 a0_2], .int .i64 a1, .agg #[.int .i64 a2_0, .int .i64 a2_1, .int .i64 a2_2]] w fun e w' => e = .returned (.int .i64 r) ∧ Below w.heap.size w w' := by
 have hu33 := Try.underlying33
 have hu23 := Try.underlying23
 have HB := Aside0.mk (Below.refl w.heap.size w)
 have H : (gangsawref44_Most.l0 k a1 16 a0_0 a0_1 a0_2 a2_0 a2_1 a2_2) = some r := h
 clear h
 have H' := Aside0.mk H
 clear H
 go_enter Try.func18, Try.ntmps18
 go_wp2_with (first | ((with_reducible refine gate_dst (N := 3) rfl ?_); refine box_event ?hg (N := 3) ?hd (cs := #[.int .i64 a0_0, .int .i64 a0_1, .int .i64 a0_2]) (t := 33) ?hr ?_; (case hd => rfl); (case hg => first | rfl | (go_simp; done)); (case hr => first | (go_simp; done) | (go_simp; rfl)); intro gb301 hg w4 hbox hb; have n0_ := Aside0.mk (below_step (hb_ HB) hb); have n1_ := Aside0.mk (hbox); have n2_ := Aside0.mk ((by rw [hg]; exact (below_size (hb_ HB)) : w.heap.size ≤ gb301)); have n3_ := Aside0.mk ((by rw [hg]; exact (below_size (hb_ HB)) : w.heap.size ≤ gb301)); clear HB; have HB := n0_; have BK301 := n1_; have GW301 := n2_; have GE301 := n3_; clear n0_ n1_ n2_ n3_; clear hb hbox hg) | ((with_reducible refine gate_dst (N := 5) rfl ?_); refine box_event ?hg (N := 5) ?hd (cs := #[.int .i64 a2_0, .int .i64 a2_1, .int .i64 a2_2]) (t := 23) ?hr ?_; (case hd => rfl); (case hg => first | rfl | (go_simp; done)); (case hr => first | (go_simp; done) | (go_simp; rfl)); intro gb302 hg w5 hbox hb; have n0_ := Aside0.mk (blk_below (bk_ BK301) hb); have n1_ := Aside0.mk (below_step (hb_ HB) hb); have n2_ := Aside0.mk (hbox); have n3_ := Aside0.mk ((by rw [hg]; exact (below_size (hb_ HB)) : w.heap.size ≤ gb302)); have n4_ := Aside0.mk ((by rw [hg]; exact (below_size (hb_ HB)) : w.heap.size ≤ gb302)); have n5_ := Aside0.mk ((by rw [hg]; exact Nat.ne_of_lt (blk_lt (bk_ BK301)) : gb301 ≠ gb302)); have n6_ := Aside0.mk ((by rw [hg]; exact Nat.ne_of_gt (blk_lt (bk_ BK301)) : gb302 ≠ gb301)); clear BK301; clear HB; have BK301 := n0_; have HB := n1_; have BK302 := n2_; have GW302 := n3_; have GE302 := n4_; have NB301_302 := n5_; have NB302_301 := n6_; clear n0_ n1_ n2_ n3_ n4_ n5_ n6_; clear hb hbox hg))
 go_loopg [7] k (fun kq v7 w' => ∃ (x7_1 : Int), v7 = .int .i64 x7_1 ∧ Aside0 (gangsawref44_Most.l0 kq a1 x7_1 a0_0 a0_1 a0_2 a2_0 a2_1 a2_2 = some r) ∧ Aside0 (kq ≤ k) ∧ Aside0 (w'.heap[gb301]? = some (.cells #[.int .i64 a0_0, .int .i64 a0_1, .int .i64 a0_2] 33 (0, 0))) ∧ Aside0 (w'.heap[gb302]? = some (.cells #[.int .i64 a2_0, .int .i64 a2_1, .int .i64 a2_2] 23 (0, 0))) ∧ Aside0 (Below w.heap.size w w'))
 case atStart => exact ⟨(16), (by first | rfl | (simp; done) | (simp [*]; done)), H', ⟨Nat.le_refl _⟩, ⟨bk_ BK301⟩, ⟨bk_ BK302⟩, ⟨hb_ HB⟩⟩
 case round =>
  (clear H'); (try clear c1); (try clear p2); (obtain ⟨x7_1, rfl, HA, HK1, BK301, BK302, HB⟩ := hrel)
  cases gk with
  | zero => exact absurd HA.out (by simp [gangsawref44_Most.l0])
  | succ k1 =>
   (have H := HA.out); (clear HA); (simp only [gangsawref44_Most.l0] at H); (by_cases c6 : x7_1 > 0)
   ·rw [if_pos c6] at H
    (have c6b0 := decide_eq_true c6); (clear c6); (replace H := Option.bind_eq_some_iff.mp H); (obtain ⟨t303, A70, H⟩ := H); (replace H : ((gangsawref44_Check.f k1 a0_0 a0_1 a0_2 t303 a2_0 a2_1 a2_2).bind fun t306 => (if t306 = 0 then (some x7_1) else (gangsawref44_Most.l0 k1 a1 (wrap64 (x7_1 - 1)) a0_0 a0_1 a0_2 a2_0 a2_1 a2_2))) = some r := H); (have A7 := Aside0.mk A70); (clear A70); (replace H := Option.bind_eq_some_iff.mp H); (obtain ⟨t306, A80, H⟩ := H); (replace H : (if t306 = 0 then (some x7_1) else (gangsawref44_Most.l0 k1 a1 (wrap64 (x7_1 - 1)) a0_0 a0_1 a0_2 a2_0 a2_1 a2_2)) = some r := H); (have A8 := Aside0.mk A80); (clear A80); (by_cases c9 : t306 = 0)
    ·rw [if_pos c9] at H
     (have c9b0 := beq_iff_eq.mpr c9); (have c9b1 := bne_eq_false_iff_eq.mpr c9); (clear c9); (obtain rfl := Option.some.inj H); (try go_wp2); (have n0_ := Aside0.mk (blk_drew BK301.out)); (have n1_ := Aside0.mk (blk_drew BK302.out)); (have n2_ := Aside0.mk (below_drew1 HB.out)); (clear BK301); (clear BK302); (clear HB); (have BK301 := n0_); (have BK302 := n1_); (have HB := n2_); (clear n0_ n1_ n2_); (refine start_ (n := 9) (S := fun w' => w'.cell? ⟨gb301, 0, none⟩ = some (.int .i64 a0_0) ∧ w'.cell? ⟨gb301, 1, none⟩ = some (.int .i64 a0_1) ∧ w'.cell? ⟨gb301, 2, none⟩ = some (.int .i64 a0_2) ∧ w'.cell? ⟨gb302, 0, none⟩ = some (.int .i64 a2_0) ∧ w'.cell? ⟨gb302, 1, none⟩ = some (.int .i64 a2_1) ∧ w'.cell? ⟨gb302, 2, none⟩ = some (.int .i64 a2_2)) (ds := []) (bm 9 0) (by kernel_rfl) rfl rfl ⟨(blk_cell BK301.out 0).trans rfl, (blk_cell BK301.out 1).trans rfl, (blk_cell BK301.out 2).trans rfl, (blk_cell BK302.out 0).trans rfl, (blk_cell BK302.out 1).trans rfl, (blk_cell BK302.out 2).trans rfl⟩ (fun hHeld => ?_); refine with_tabW gangsawref44_Most.tab4 gangsawref44_Most.bits4 (fun HT_ HW_ => ?_)); (generalize wr.drew = w10 at BK301 BK302 HB hHeld ⊢); (refine pv_ 2 HT_ ?_); (refine pv_ 3 HT_ ?_); (refine tv_ 0 HT_ HW_ hHeld ?_); (refine tv_ 1 HT_ HW_ hHeld ?_); (refine tv_ 4 HT_ HW_ hHeld ?_); (refine tv_ 6 HT_ HW_ hHeld ?_); (refine one_ (i := 5) (N := some 17) (bm 9 127) rfl rfl (one_of HT_.out (by kernel_rfl)) (by decide) (fun K hK => ?_)); (refine goes_ Try.func19 (by kernel_rfl) rfl #[.agg #[.int .i64 a0_0, .int .i64 a0_1, .int .i64 a0_2], .int .i64 a1, .int .i64 x7_1, .agg #[.int .i64 a2_0, .int .i64 a2_1, .int .i64 a2_2]] (by rfl) rfl rfl (by (try simp only [List.map_toArray, List.map_cons, List.map_nil]); first | done | rfl | (simp only [List.length_drop, List.length_take]; rfl)) ?_); (with_reducible refine (gangsawref44_Row.calls k1 a0_0 a0_1 a0_2 a1 x7_1 a2_0 a2_1 a2_2 t303 _ A7.out).mono ?_); (rintro e w11 ⟨v304, rfl, ho0, hb⟩); (refine ⟨_, rfl, ?_⟩); (have n0_ := Aside0.mk (Kd.R_lower ho0 (below_size (hb_ HB)))); (have n1_ := Aside0.mk (blk_below (bk_ BK301) hb)); (have n2_ := Aside0.mk (blk_below (bk_ BK302) hb)); (have n3_ := Aside0.mk (below_step (hb_ HB) hb)); (clear BK301); (clear BK302); (clear HB); (have HO305 := n0_); (have BK301 := n1_); (have BK302 := n2_); (have HB := n3_); (clear n0_ n1_ n2_ n3_); ((try clear hb)); ((try clear hb2)); ((try clear hk)); ((try clear hi)); ((try clear ho0)); (obtain ⟨Ao12, co12, eo12⟩ := Kd.R_slice HO305.out); ((first | subst eo12 | (injection eo12 with f1_ f2_ f3_; have f4_ := f1_.symm; have f5_ := f3_.symm; clear f1_ f2_ f3_; subst f4_; subst f5_))); (refine hK.out _ _ ⟨(blk_cell BK301.out 0).trans rfl, (blk_cell BK301.out 1).trans rfl, (blk_cell BK301.out 2).trans rfl, (blk_cell BK302.out 0).trans rfl, (blk_cell BK302.out 1).trans rfl, (blk_cell BK302.out 2).trans rfl⟩ (fun hHeld => ?_)); (clear hK K); (refine nv_ ?_); (refine one_ (i := 7) (N := some 19) (bm 9 255) rfl rfl (one_of HT_.out (by kernel_rfl)) (by decide) (fun K hK => ?_)); (refine goes_ Try.func20 (by kernel_rfl) rfl #[.agg #[.int .i64 a0_0, .int .i64 a0_1, .int .i64 a0_2], .slice Ao12 t303.length co12, .agg #[.int .i64 a2_0, .int .i64 a2_1, .int .i64 a2_2]] (by rfl) rfl rfl (by (try simp only [List.map_toArray, List.map_cons, List.map_nil]); first | done | rfl | (simp only [List.length_drop, List.length_take]; rfl)) ?_)
     (with_reducible refine (gangsawref44_Check.calls k1 a0_0 a0_1 a0_2 _ _ t303 a2_0 a2_1 a2_2 t306 _ ?side1 ?side2 A8.out).mono ?_); ((case side1 => repeat (first | exact (Kd.R_reads' HO305.out).2.2 | (with_reducible refine Kd.C_alloc ?_ _) | (with_reducible refine Kd.C_drewN ?_ _) | (with_reducible refine Kd.C_drew ?_)))); ((case side2 => exact (Kd.R_reads' HO305.out).2.1)); (rintro e w13 ⟨rfl, hb⟩); (refine ⟨_, rfl, ?_⟩); (have n0_ := Aside0.mk (Kd.R_below (by (with_reducible repeat (first | apply Kd.R_alloc | apply Kd.R_drewN | apply Kd.R_drew)); exact HO305.out) hb)); (have n1_ := Aside0.mk (blk_below (bk_ BK301) hb)); (have n2_ := Aside0.mk (blk_below (bk_ BK302) hb)); (have n3_ := Aside0.mk (below_step (hb_ HB) hb)); (clear HO305); (clear BK301); (clear BK302); (clear HB); (have HO305 := n0_); (have BK301 := n1_); (have BK302 := n2_); (have HB := n3_); (clear n0_ n1_ n2_ n3_); ((try clear hb)); ((try clear hb2)); ((try clear hk)); ((try clear hi)); (refine hK.out _ _ ⟨(blk_cell BK301.out 0).trans rfl, (blk_cell BK301.out 1).trans rfl, (blk_cell BK301.out 2).trans rfl, (blk_cell BK302.out 0).trans rfl, (blk_cell BK302.out 1).trans rfl, (blk_cell BK302.out 2).trans rfl⟩ (fun hHeld => ?_)); (clear hK K); (refine nv_ ?_); (refine pv_ 8 HT_ ?_); (refine done_ (done_of HT_.out (by kernel_rfl)) ?_); (try go_wp2); (go_ret); (exact ⟨by first | rfl | (simp [errW_none, errW_some] <;> rfl) | (simp [*, errW_none, errW_some] <;> rfl), hb_ HB⟩)
    ·rw [if_neg c9] at H
     (have c9b0 := beq_eq_false_iff_ne.mpr c9); (have c9b1 := bne_iff_ne.mpr c9); (have H' := Aside0.mk H); (clear H); (try go_wp2); (have n0_ := Aside0.mk (blk_drew BK301.out)); (have n1_ := Aside0.mk (blk_drew BK302.out)); (have n2_ := Aside0.mk (below_drew1 HB.out)); (clear BK301); (clear BK302); (clear HB); (have BK301 := n0_); (have BK302 := n1_); (have HB := n2_); (clear n0_ n1_ n2_); (refine start_ (n := 9) (S := fun w' => w'.cell? ⟨gb301, 0, none⟩ = some (.int .i64 a0_0) ∧ w'.cell? ⟨gb301, 1, none⟩ = some (.int .i64 a0_1) ∧ w'.cell? ⟨gb301, 2, none⟩ = some (.int .i64 a0_2) ∧ w'.cell? ⟨gb302, 0, none⟩ = some (.int .i64 a2_0) ∧ w'.cell? ⟨gb302, 1, none⟩ = some (.int .i64 a2_1) ∧ w'.cell? ⟨gb302, 2, none⟩ = some (.int .i64 a2_2)) (ds := []) (bm 9 0) (by kernel_rfl) rfl rfl ⟨(blk_cell BK301.out 0).trans rfl, (blk_cell BK301.out 1).trans rfl, (blk_cell BK301.out 2).trans rfl, (blk_cell BK302.out 0).trans rfl, (blk_cell BK302.out 1).trans rfl, (blk_cell BK302.out 2).trans rfl⟩ (fun hHeld => ?_); refine with_tabW gangsawref44_Most.tab4 gangsawref44_Most.bits4 (fun HT_ HW_ => ?_)); (generalize wr.drew = w14 at BK301 BK302 HB hHeld ⊢); (refine pv_ 2 HT_ ?_); (refine pv_ 3 HT_ ?_); (refine tv_ 0 HT_ HW_ hHeld ?_); (refine tv_ 1 HT_ HW_ hHeld ?_); (refine tv_ 4 HT_ HW_ hHeld ?_); (refine tv_ 6 HT_ HW_ hHeld ?_); (refine one_ (i := 5) (N := some 17) (bm 9 127) rfl rfl (one_of HT_.out (by kernel_rfl)) (by decide) (fun K hK => ?_)); (refine goes_ Try.func19 (by kernel_rfl) rfl #[.agg #[.int .i64 a0_0, .int .i64 a0_1, .int .i64 a0_2], .int .i64 a1, .int .i64 x7_1, .agg #[.int .i64 a2_0, .int .i64 a2_1, .int .i64 a2_2]] (by rfl) rfl rfl (by (try simp only [List.map_toArray, List.map_cons, List.map_nil]); first | done | rfl | (simp only [List.length_drop, List.length_take]; rfl)) ?_); (with_reducible refine (gangsawref44_Row.calls k1 a0_0 a0_1 a0_2 a1 x7_1 a2_0 a2_1 a2_2 t303 _ A7.out).mono ?_); (rintro e w15 ⟨v304, rfl, ho0, hb⟩); (refine ⟨_, rfl, ?_⟩); (have n0_ := Aside0.mk (Kd.R_lower ho0 (below_size (hb_ HB)))); (have n1_ := Aside0.mk (blk_below (bk_ BK301) hb)); (have n2_ := Aside0.mk (blk_below (bk_ BK302) hb)); (have n3_ := Aside0.mk (below_step (hb_ HB) hb)); (clear BK301); (clear BK302); (clear HB); (have HO305 := n0_); (have BK301 := n1_); (have BK302 := n2_); (have HB := n3_); (clear n0_ n1_ n2_ n3_); ((try clear hb)); ((try clear hb2)); ((try clear hk)); ((try clear hi)); ((try clear ho0)); (obtain ⟨Ao16, co16, eo16⟩ := Kd.R_slice HO305.out); ((first | subst eo16 | (injection eo16 with f1_ f2_ f3_; have f4_ := f1_.symm; have f5_ := f3_.symm; clear f1_ f2_ f3_; subst f4_; subst f5_))); (refine hK.out _ _ ⟨(blk_cell BK301.out 0).trans rfl, (blk_cell BK301.out 1).trans rfl, (blk_cell BK301.out 2).trans rfl, (blk_cell BK302.out 0).trans rfl, (blk_cell BK302.out 1).trans rfl, (blk_cell BK302.out 2).trans rfl⟩ (fun hHeld => ?_)); (clear hK K); (refine nv_ ?_); (refine one_ (i := 7) (N := some 19) (bm 9 255) rfl rfl (one_of HT_.out (by kernel_rfl)) (by decide) (fun K hK => ?_)); (refine goes_ Try.func20 (by kernel_rfl) rfl #[.agg #[.int .i64 a0_0, .int .i64 a0_1, .int .i64 a0_2], .slice Ao16 t303.length co16, .agg #[.int .i64 a2_0, .int .i64 a2_1, .int .i64 a2_2]] (by rfl) rfl rfl (by (try simp only [List.map_toArray, List.map_cons, List.map_nil]); first | done | rfl | (simp only [List.length_drop, List.length_take]; rfl)) ?_)
     (with_reducible refine (gangsawref44_Check.calls k1 a0_0 a0_1 a0_2 _ _ t303 a2_0 a2_1 a2_2 t306 _ ?side1 ?side2 A8.out).mono ?_); ((case side1 => repeat (first | exact (Kd.R_reads' HO305.out).2.2 | (with_reducible refine Kd.C_alloc ?_ _) | (with_reducible refine Kd.C_drewN ?_ _) | (with_reducible refine Kd.C_drew ?_)))); ((case side2 => exact (Kd.R_reads' HO305.out).2.1)); (rintro e w17 ⟨rfl, hb⟩); (refine ⟨_, rfl, ?_⟩); (have n0_ := Aside0.mk (Kd.R_below (by (with_reducible repeat (first | apply Kd.R_alloc | apply Kd.R_drewN | apply Kd.R_drew)); exact HO305.out) hb)); (have n1_ := Aside0.mk (blk_below (bk_ BK301) hb)); (have n2_ := Aside0.mk (blk_below (bk_ BK302) hb)); (have n3_ := Aside0.mk (below_step (hb_ HB) hb)); (clear HO305); (clear BK301); (clear BK302); (clear HB); (have HO305 := n0_); (have BK301 := n1_); (have BK302 := n2_); (have HB := n3_); (clear n0_ n1_ n2_ n3_); ((try clear hb)); ((try clear hb2)); ((try clear hk)); ((try clear hi)); (refine hK.out _ _ ⟨(blk_cell BK301.out 0).trans rfl, (blk_cell BK301.out 1).trans rfl, (blk_cell BK301.out 2).trans rfl, (blk_cell BK302.out 0).trans rfl, (blk_cell BK302.out 1).trans rfl, (blk_cell BK302.out 2).trans rfl⟩ (fun hHeld => ?_)); (clear hK K); (refine nv_ ?_); (refine pv_ 8 HT_ ?_); (refine done_ (done_of HT_.out (by kernel_rfl)) ?_); (try go_wp2); (go_roundg k1)
     case measure => have := HK1.out; omega
     case rel => exact ⟨(wrap64 (x7_1 - 1)), (by first | rfl | (simp; done) | (simp [*]; done)), H', ⟨by have := HK1.out; omega⟩, ⟨bk_ BK301⟩, ⟨bk_ BK302⟩, ⟨hb_ HB⟩⟩
   ·(rw [if_neg c6] at H); (have c6b0 := decide_eq_false c6); (clear c6); (obtain rfl := Option.some.inj H); (go_wp2); (go_ret); (exact ⟨by first | rfl | (simp [errW_none, errW_some] <;> rfl) | (simp [*, errW_none, errW_some] <;> rfl), hb_ HB⟩)

end Go.Proofs.Ytmmmmgdafifpiaa.XA
