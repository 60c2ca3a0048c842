-- written by xprint.py, this project's own program (wip/), over the words of print.sh
import Derived.Test.YtjlljjnkjhdljaaXAx0
import Derived.Test.YtjlljjnkjhdljaaXAx8
import Derived.Test.YtjlljjnkjhdljaaFlat
namespace Go.Proofs.Ytjlljjnkjhdljaa.XA
open Go.Proofs.Ytjlljjnkjhdljaa.Flat Go.RowKit Go.Proofs.Ytjlljjnkjhdljaa.Opens Go.Proofs.YtjlljjnkjhdljaaW.PrintWords Go.Proofs.YtjlljjnkjhdljaaW.PrintLast Go.Proofs.YtjlljjnkjhdljaaW.PrintMore
attribute [local go_sem] max2_int min2_int max_two min_two max_three min_three max_four min_four cell_some cell_same   -- for this text's walks alone
set_option linter.unusedVariables false
set_option linter.unusedSimpArgs false

/-! ### arch_Keystone: function 12 -/
def arch_Keystone.l0 : Nat → Int → Bool → Int → List (List (S46)) → Option (Int × Int)
  | 0, _, _, _, _ => none
  | k + 1, x6, x7, x8, x156000 => if x8 < (x156000.length : Int) then ((arch_Keystone_1.f x8 x156000).bind fun t157 => ((arch_Keystone_1.f x6 x156000).bind fun t158 => (if t157 > t158 then (arch_Keystone.l0 k x8 false (wrap64 (x8 + 1)) x156000) else ((arch_Keystone_1.f x8 x156000).bind fun t159 => ((arch_Keystone_1.f x6 x156000).bind fun t160 => (if t159 = t160 then (arch_Keystone.l0 k x6 true (wrap64 (x8 + 1)) x156000) else (arch_Keystone.l0 k x6 x7 (wrap64 (x8 + 1)) x156000))))))) else (if x7 = true then (some (0, 9)) else (some (x6, 0)))
def arch_Keystone.f (k : Nat) (l0 : List (List (S46))) : Option (Int × Int) := (arch_Check.f k l0).bind fun t156 => (if t156 = 0 then (arch_Keystone.l0 k 0 false 1 l0) else (some (0, t156)))
theorem arch_Keystone.mono_l : ∀ k, (∀ y0 y1 y2 y3, LeO (arch_Keystone.l0 k y0 y1 y2 y3) (arch_Keystone.l0 (k + 1) y0 y1 y2 y3))
  | 0 => fun _ _ _ _ r h => by simp [arch_Keystone.l0] at h
  | k + 1 => by
    have ih0 := arch_Keystone.mono_l k
    · intro y0 y1 y2 y3
      unfold arch_Keystone.l0
      repeat' first
      | (with_reducible exact ih0 _ _ _ _)
      | (with_reducible exact arch_Check.mono _ _)
      | (with_reducible exact LeO.refl _)
      | (with_reducible exact LeO.none _)
      | (with_reducible refine LeO.ite ?_ ?_)
      | (with_reducible refine LeO.bind ?_ (fun _ => ?_))
      | exact ih0 _ _ _ _
      | exact arch_Check.mono _ _
      | exact LeO.none _
      | refine LeO.ite ?_ ?_
      | refine LeO.bind ?_ (fun _ => ?_)
theorem arch_Keystone.mono : ∀ a0 k, LeO (arch_Keystone.f k a0) (arch_Keystone.f (k + 1) a0) := by
  intro a0 k
  have ih0 := arch_Keystone.mono_l k
  unfold arch_Keystone.f
  repeat' first
      | (with_reducible exact ih0 _ _ _ _)
      | (with_reducible exact arch_Check.mono _ _)
      | (with_reducible exact LeO.refl _)
      | (with_reducible exact LeO.none _)
      | (with_reducible refine LeO.ite ?_ ?_)
      | (with_reducible refine LeO.bind ?_ (fun _ => ?_))
      | exact ih0 _ _ _ _
      | exact arch_Check.mono _ _
      | exact LeO.none _
      | refine LeO.ite ?_ ?_
      | refine LeO.bind ?_ (fun _ => ?_)
set_option maxHeartbeats 8000000 in
set_option maxRecDepth 100000 in
theorem arch_Keystone.calls (k : Nat) (A0 : Option Addr) (c0 : Nat) (l0 : List (List (S46))) (r1 : Int) (r2 : Int) (w : World) (hr0 : Kd.C (Kd.slice 46 k46) w A0 l0.length l0) (hc0 : l0.length ≤ c0) (h : arch_Keystone.f k l0 = some (r1, r2)) :
    Calls Try.prog 12 #[.slice A0 l0.length c0] w fun e w' => e = .returned (.tuple #[.int .i64 r1, .int .i64 r2]) ∧ Below w.heap.size w w' := by
  have hu22 := Try.underlying22
  have HR0 := Aside0.mk hr0
  have HC0 := Aside0.mk hc0
  clear hr0 hc0
  have HB := Aside0.mk (Below.refl w.heap.size w)
  have H : ((arch_Check.f k l0).bind fun t156 => (if t156 = 0 then (arch_Keystone.l0 k 0 false 1 l0) else (some (0, t156)))) = some (r1, r2) := h
  clear h
  replace H := Option.bind_eq_some_iff.mp H
  obtain ⟨t156, A20, H⟩ := H
  replace H : (if t156 = 0 then (arch_Keystone.l0 k 0 false 1 l0) else (some (0, t156))) = some (r1, r2) := H
  have A2 := Aside0.mk A20
  clear A20
  by_cases c3 : t156 = 0
  · rw [if_pos c3] at H
    have c3b0 : (t156 == 0) = true := beq_iff_eq.mpr c3
    have c3b1 : (t156 != 0) = false := bne_eq_false_iff_eq.mpr c3
    clear c3
    have H' := Aside0.mk H
    clear H
    go_enter Try.func12, Try.ntmps12
    go_wp2_with (first | ((with_reducible refine gate_dst (N := 1) rfl ?_); refine box_event ?hg (N := 1) ?hd (cs := #[.slice A0 l0.length c0]) (t := 22) ?hr ?_; (case hd => rfl); (case hg => first | rfl | (go_simp; done)); (case hr => first | (go_simp; done) | (go_simp; rfl)); intro gb155 hg w4 hbox hb; have n0_ := Aside0.mk (below_step (by repeat (first | (with_reducible first | exact HB.out | apply below_alloc | apply pw_below_drewN | apply below_drew1) | exact HB.out)) hb); have n1_ := Aside0.mk (hbox); have n2_ := Aside0.mk ((by rw [hg]; exact (below_size (by repeat (first | (with_reducible first | exact HB.out | apply below_alloc | apply pw_below_drewN | apply below_drew1) | exact HB.out))) : w.heap.size ≤ gb155)); have n3_ := Aside0.mk ((by rw [hg]; exact (below_size (by repeat (first | (with_reducible first | exact HB.out | apply below_alloc | apply pw_below_drewN | apply below_drew1) | exact HB.out))) : w.heap.size ≤ gb155)); clear HB; have HB := n0_; have BK155 := n1_; have GW155 := n2_; have GE155 := n3_; clear n0_ n1_ n2_ n3_; clear hb hbox hg; have hcz5_0 : w4.cell? ⟨gb155, 0, none⟩ = some (.slice A0 l0.length c0) := (blk_cell BK155.out 0).trans rfl; have hfz5_0 := blk_frozen BK155.out 0) | ((with_reducible refine gate_callee (f := 33) rfl ?_); refine goesL_ (some 10) rfl rfl Try.func33 (by kernel_rfl) rfl #[.slice A0 l0.length c0] rfl (by (try simp only [List.map_toArray, List.map_cons, List.map_nil]); first | done | rfl | (simp only [List.length_drop, List.length_take]; rfl)) ?_; (with_reducible refine (arch_Check.calls k _ _ l0 t156 _ ?side1 ?side2 A2.out).mono ?_); (case side1 => repeat (first | exact (Kd.C_below HR0.out HB.out) | (with_reducible refine Kd.C_alloc ?_ _) | (with_reducible refine Kd.C_drewN ?_ _) | (with_reducible refine Kd.C_drew ?_))); (case side2 => exact HC0.out); rintro e w6 ⟨rfl, hb⟩; refine ⟨_, rfl, ?_⟩; have n0_ := Aside0.mk (blk_below (g := gb155) (o := .cells #[.slice A0 l0.length c0] 22 (0, 0)) (by (with_reducible repeat (first | refine blk_drewN ?_ _ | refine blk_drew ?_ | refine blk_alloc ?_ _)); exact BK155.out) hb); have n1_ := Aside0.mk (below_step (by repeat (first | (with_reducible first | exact HB.out | apply below_alloc | apply pw_below_drewN | apply below_drew1 | refine below_set ?_ GE155.out) | exact HB.out)) hb); clear BK155; clear HB; have BK155 := n0_; have HB := n1_; clear n0_ n1_; (try clear hb); (try clear hb2); (try clear hk); (try clear hi)))
    go_loopg [6, 7, 8] k (fun kq v6 v7 v8 w' => ∃ (x6_1 : Int) (x7_1 : Bool) (x8_1 : Int), v6 = .int .i64 x6_1 ∧ v7 = .bool x7_1 ∧ v8 = .int .i64 x8_1 ∧ Aside0 (arch_Keystone.l0 kq x6_1 x7_1 x8_1 l0 = some (r1, r2)) ∧ Aside0 (kq ≤ k) ∧ Aside0 (w'.heap[gb155]? = some (.cells #[(.slice A0 l0.length c0)] 22 (0, 0))) ∧ Aside0 (Below w.heap.size w w'))
    case atStart => exact ⟨(0), (false), (1), (by first | rfl | (simp; done) | (simp [*]; done)), (by first | rfl | (simp; done) | (simp [*]; done)), (by first | rfl | (simp; done) | (simp [*]; done)), H', ⟨Nat.le_refl _⟩, ⟨by (with_reducible repeat (first | refine blk_drewN ?_ _ | refine blk_drew ?_ | refine blk_alloc ?_ _)); exact BK155.out⟩, ⟨by repeat (first | (with_reducible first | exact HB.out | apply below_alloc | apply pw_below_drewN | apply below_drew1 | refine below_set ?_ GE155.out) | exact HB.out)⟩⟩
    case round =>
      clear H'
      try clear c1
      try clear p2
      try clear c3
      try clear c3b0
      try clear c3b1
      try clear hcz5_0
      try clear hfz5_0
      obtain ⟨x6_1, x7_1, x8_1, rfl, rfl, rfl, HA, HK1, BK155, HB⟩ := hrel
      cases gk with
      | zero => exact absurd HA.out (by simp [arch_Keystone.l0])
      | succ k1 =>
        have H := HA.out
        clear HA
        simp only [arch_Keystone.l0] at H
        by_cases c7 : x8_1 < (l0.length : Int)
        · rw [if_pos c7] at H
          have c7b0 : decide (x8_1 < (l0.length : Int)) = true := decide_eq_true c7
          clear c7
          replace H := Option.bind_eq_some_iff.mp H
          obtain ⟨t157, A80, H⟩ := H
          replace H : ((arch_Keystone_1.f x6_1 l0).bind fun t158 => (if t157 > t158 then (arch_Keystone.l0 k1 x8_1 false (wrap64 (x8_1 + 1)) l0) else ((arch_Keystone_1.f x8_1 l0).bind fun t159 => ((arch_Keystone_1.f x6_1 l0).bind fun t160 => (if t159 = t160 then (arch_Keystone.l0 k1 x6_1 true (wrap64 (x8_1 + 1)) l0) else (arch_Keystone.l0 k1 x6_1 x7_1 (wrap64 (x8_1 + 1)) l0)))))) = some (r1, r2) := H
          have A8 := Aside0.mk A80
          clear A80
          replace H := Option.bind_eq_some_iff.mp H
          obtain ⟨t158, A90, H⟩ := H
          replace H : (if t157 > t158 then (arch_Keystone.l0 k1 x8_1 false (wrap64 (x8_1 + 1)) l0) else ((arch_Keystone_1.f x8_1 l0).bind fun t159 => ((arch_Keystone_1.f x6_1 l0).bind fun t160 => (if t159 = t160 then (arch_Keystone.l0 k1 x6_1 true (wrap64 (x8_1 + 1)) l0) else (arch_Keystone.l0 k1 x6_1 x7_1 (wrap64 (x8_1 + 1)) l0))))) = some (r1, r2) := H
          have A9 := Aside0.mk A90
          clear A90
          by_cases c10 : t157 > t158
          · rw [if_pos c10] at H
            have c10b0 : decide (t158 < t157) = true := decide_eq_true c10
            clear c10
            have H' := Aside0.mk H
            clear H
            have hcz11_0 : wr.cell? ⟨gb155, 0, none⟩ = some (.slice A0 l0.length c0) := (blk_cell BK155.out 0).trans rfl
            have hfz11_0 := blk_frozen BK155.out 0
            go_wp2_with (first | (go_at_call 39; (with_reducible refine (arch_Keystone_1.calls x8_1 gb155 A0 c0 l0 t157 _ ?side1 ?side2 ?side3 A8.out).mono ?_); (case side1 => exact (by (with_reducible repeat (first | refine blk_drewN ?_ _ | refine blk_drew ?_ | refine blk_alloc ?_ _)); exact BK155.out)); (case side2 => repeat (first | exact (Kd.C_below HR0.out HB.out) | (with_reducible refine Kd.C_alloc ?_ _) | (with_reducible refine Kd.C_drewN ?_ _) | (with_reducible refine Kd.C_drew ?_))); (case side3 => exact HC0.out); rintro e w' ⟨rfl, ⟨nd, rfl⟩⟩) | (go_at_call 39; (with_reducible refine (arch_Keystone_1.calls x6_1 gb155 A0 c0 l0 t158 _ ?side1 ?side2 ?side3 A9.out).mono ?_); (case side1 => exact (by (with_reducible repeat (first | refine blk_drewN ?_ _ | refine blk_drew ?_ | refine blk_alloc ?_ _)); exact BK155.out)); (case side2 => repeat (first | exact (Kd.C_below HR0.out (by repeat (first | (with_reducible first | exact HB.out | apply below_alloc | apply pw_below_drewN | apply below_drew1 | refine below_set ?_ GE155.out) | exact HB.out))) | (with_reducible refine Kd.C_alloc ?_ _) | (with_reducible refine Kd.C_drewN ?_ _) | (with_reducible refine Kd.C_drew ?_))); (case side3 => exact HC0.out); rintro e w' ⟨rfl, ⟨nd, rfl⟩⟩))
            go_roundg k1
            case measure => have := HK1.out; omega
            case rel => exact ⟨(x8_1), (false), (wrap64 (x8_1 + 1)), (by first | rfl | (simp; done) | (simp [*]; done)), (by first | rfl | (simp; done) | (simp [*]; done)), (by first | rfl | (simp; done) | (simp [*]; done)), H', ⟨by have := HK1.out; omega⟩, ⟨by (with_reducible repeat (first | refine blk_drewN ?_ _ | refine blk_drew ?_ | refine blk_alloc ?_ _)); exact BK155.out⟩, ⟨by repeat (first | (with_reducible first | exact HB.out | apply below_alloc | apply pw_below_drewN | apply below_drew1 | refine below_set ?_ GE155.out) | exact HB.out)⟩⟩
          · rw [if_neg c10] at H
            have c10b0 : decide (t158 < t157) = false := decide_eq_false c10
            clear c10
            replace H := Option.bind_eq_some_iff.mp H
            obtain ⟨t159, A120, H⟩ := H
            replace H : ((arch_Keystone_1.f x6_1 l0).bind fun t160 => (if t159 = t160 then (arch_Keystone.l0 k1 x6_1 true (wrap64 (x8_1 + 1)) l0) else (arch_Keystone.l0 k1 x6_1 x7_1 (wrap64 (x8_1 + 1)) l0))) = some (r1, r2) := H
            have A12 := Aside0.mk A120
            clear A120
            replace H := Option.bind_eq_some_iff.mp H
            obtain ⟨t160, A130, H⟩ := H
            replace H : (if t159 = t160 then (arch_Keystone.l0 k1 x6_1 true (wrap64 (x8_1 + 1)) l0) else (arch_Keystone.l0 k1 x6_1 x7_1 (wrap64 (x8_1 + 1)) l0)) = some (r1, r2) := H
            have A13 := Aside0.mk A130
            clear A130
            by_cases c14 : t159 = t160
            · rw [if_pos c14] at H
              have c14b0 : (t159 == t160) = true := beq_iff_eq.mpr c14
              have c14b1 : (t159 != t160) = false := bne_eq_false_iff_eq.mpr c14
              have q57_ : t157 = t159 := Option.some.inj (A8.out.symm.trans A12.out)
              have q58_ : t158 = t160 := Option.some.inj (A9.out.symm.trans A13.out)
              clear c14
              have H' := Aside0.mk H
              clear H
              obtain rfl := q57_
              obtain rfl := q58_
              have hcz15_0 : wr.cell? ⟨gb155, 0, none⟩ = some (.slice A0 l0.length c0) := (blk_cell BK155.out 0).trans rfl
              have hfz15_0 := blk_frozen BK155.out 0
              go_wp2_with (first | (go_at_call 39; (with_reducible refine (arch_Keystone_1.calls x8_1 gb155 A0 c0 l0 t157 _ ?side1 ?side2 ?side3 A8.out).mono ?_); (case side1 => exact (by (with_reducible repeat (first | refine blk_drewN ?_ _ | refine blk_drew ?_ | refine blk_alloc ?_ _)); exact BK155.out)); (case side2 => repeat (first | exact (Kd.C_below HR0.out HB.out) | (with_reducible refine Kd.C_alloc ?_ _) | (with_reducible refine Kd.C_drewN ?_ _) | (with_reducible refine Kd.C_drew ?_))); (case side3 => exact HC0.out); rintro e w' ⟨rfl, ⟨nd, rfl⟩⟩) | (go_at_call 39; (with_reducible refine (arch_Keystone_1.calls x6_1 gb155 A0 c0 l0 t158 _ ?side1 ?side2 ?side3 A9.out).mono ?_); (case side1 => exact (by (with_reducible repeat (first | refine blk_drewN ?_ _ | refine blk_drew ?_ | refine blk_alloc ?_ _)); exact BK155.out)); (case side2 => repeat (first | exact (Kd.C_below HR0.out (by repeat (first | (with_reducible first | exact HB.out | apply below_alloc | apply pw_below_drewN | apply below_drew1 | refine below_set ?_ GE155.out) | exact HB.out))) | (with_reducible refine Kd.C_alloc ?_ _) | (with_reducible refine Kd.C_drewN ?_ _) | (with_reducible refine Kd.C_drew ?_))); (case side3 => exact HC0.out); rintro e w' ⟨rfl, ⟨nd, rfl⟩⟩) | (go_at_call 39; (with_reducible refine (arch_Keystone_1.calls x8_1 gb155 A0 c0 l0 t159 _ ?side1 ?side2 ?side3 A12.out).mono ?_); (case side1 => exact (by (with_reducible repeat (first | refine blk_drewN ?_ _ | refine blk_drew ?_ | refine blk_alloc ?_ _)); exact BK155.out)); (case side2 => repeat (first | exact (Kd.C_below HR0.out (by repeat (first | (with_reducible first | exact HB.out | apply below_alloc | apply pw_below_drewN | apply below_drew1 | refine below_set ?_ GE155.out) | exact HB.out))) | (with_reducible refine Kd.C_alloc ?_ _) | (with_reducible refine Kd.C_drewN ?_ _) | (with_reducible refine Kd.C_drew ?_))); (case side3 => exact HC0.out); rintro e w' ⟨rfl, ⟨nd, rfl⟩⟩) | (go_at_call 39; (with_reducible refine (arch_Keystone_1.calls x6_1 gb155 A0 c0 l0 t160 _ ?side1 ?side2 ?side3 A13.out).mono ?_); (case side1 => exact (by (with_reducible repeat (first | refine blk_drewN ?_ _ | refine blk_drew ?_ | refine blk_alloc ?_ _)); exact BK155.out)); (case side2 => repeat (first | exact (Kd.C_below HR0.out (by repeat (first | (with_reducible first | exact HB.out | apply below_alloc | apply pw_below_drewN | apply below_drew1 | refine below_set ?_ GE155.out) | exact HB.out))) | (with_reducible refine Kd.C_alloc ?_ _) | (with_reducible refine Kd.C_drewN ?_ _) | (with_reducible refine Kd.C_drew ?_))); (case side3 => exact HC0.out); rintro e w' ⟨rfl, ⟨nd, rfl⟩⟩))
              go_roundg k1
              case measure => have := HK1.out; omega
              case rel => exact ⟨(x6_1), (true), (wrap64 (x8_1 + 1)), (by first | rfl | (simp; done) | (simp [*]; done)), (by first | rfl | (simp; done) | (simp [*]; done)), (by first | rfl | (simp; done) | (simp [*]; done)), H', ⟨by have := HK1.out; omega⟩, ⟨by (with_reducible repeat (first | refine blk_drewN ?_ _ | refine blk_drew ?_ | refine blk_alloc ?_ _)); exact BK155.out⟩, ⟨by repeat (first | (with_reducible first | exact HB.out | apply below_alloc | apply pw_below_drewN | apply below_drew1 | refine below_set ?_ GE155.out) | exact HB.out)⟩⟩
            · rw [if_neg c14] at H
              have c14b0 : (t159 == t160) = false := beq_eq_false_iff_ne.mpr c14
              have c14b1 : (t159 != t160) = true := bne_iff_ne.mpr c14
              have q57_ : t157 = t159 := Option.some.inj (A8.out.symm.trans A12.out)
              have q58_ : t158 = t160 := Option.some.inj (A9.out.symm.trans A13.out)
              have H' := Aside0.mk H
              clear H
              obtain rfl := q57_
              obtain rfl := q58_
              have hcz16_0 : wr.cell? ⟨gb155, 0, none⟩ = some (.slice A0 l0.length c0) := (blk_cell BK155.out 0).trans rfl
              have hfz16_0 := blk_frozen BK155.out 0
              go_wp2_with (first | (go_at_call 39; (with_reducible refine (arch_Keystone_1.calls x8_1 gb155 A0 c0 l0 t157 _ ?side1 ?side2 ?side3 A8.out).mono ?_); (case side1 => exact (by (with_reducible repeat (first | refine blk_drewN ?_ _ | refine blk_drew ?_ | refine blk_alloc ?_ _)); exact BK155.out)); (case side2 => repeat (first | exact (Kd.C_below HR0.out HB.out) | (with_reducible refine Kd.C_alloc ?_ _) | (with_reducible refine Kd.C_drewN ?_ _) | (with_reducible refine Kd.C_drew ?_))); (case side3 => exact HC0.out); rintro e w' ⟨rfl, ⟨nd, rfl⟩⟩) | (go_at_call 39; (with_reducible refine (arch_Keystone_1.calls x6_1 gb155 A0 c0 l0 t158 _ ?side1 ?side2 ?side3 A9.out).mono ?_); (case side1 => exact (by (with_reducible repeat (first | refine blk_drewN ?_ _ | refine blk_drew ?_ | refine blk_alloc ?_ _)); exact BK155.out)); (case side2 => repeat (first | exact (Kd.C_below HR0.out (by repeat (first | (with_reducible first | exact HB.out | apply below_alloc | apply pw_below_drewN | apply below_drew1 | refine below_set ?_ GE155.out) | exact HB.out))) | (with_reducible refine Kd.C_alloc ?_ _) | (with_reducible refine Kd.C_drewN ?_ _) | (with_reducible refine Kd.C_drew ?_))); (case side3 => exact HC0.out); rintro e w' ⟨rfl, ⟨nd, rfl⟩⟩) | (go_at_call 39; (with_reducible refine (arch_Keystone_1.calls x8_1 gb155 A0 c0 l0 t159 _ ?side1 ?side2 ?side3 A12.out).mono ?_); (case side1 => exact (by (with_reducible repeat (first | refine blk_drewN ?_ _ | refine blk_drew ?_ | refine blk_alloc ?_ _)); exact BK155.out)); (case side2 => repeat (first | exact (Kd.C_below HR0.out (by repeat (first | (with_reducible first | exact HB.out | apply below_alloc | apply pw_below_drewN | apply below_drew1 | refine below_set ?_ GE155.out) | exact HB.out))) | (with_reducible refine Kd.C_alloc ?_ _) | (with_reducible refine Kd.C_drewN ?_ _) | (with_reducible refine Kd.C_drew ?_))); (case side3 => exact HC0.out); rintro e w' ⟨rfl, ⟨nd, rfl⟩⟩) | (go_at_call 39; (with_reducible refine (arch_Keystone_1.calls x6_1 gb155 A0 c0 l0 t160 _ ?side1 ?side2 ?side3 A13.out).mono ?_); (case side1 => exact (by (with_reducible repeat (first | refine blk_drewN ?_ _ | refine blk_drew ?_ | refine blk_alloc ?_ _)); exact BK155.out)); (case side2 => repeat (first | exact (Kd.C_below HR0.out (by repeat (first | (with_reducible first | exact HB.out | apply below_alloc | apply pw_below_drewN | apply below_drew1 | refine below_set ?_ GE155.out) | exact HB.out))) | (with_reducible refine Kd.C_alloc ?_ _) | (with_reducible refine Kd.C_drewN ?_ _) | (with_reducible refine Kd.C_drew ?_))); (case side3 => exact HC0.out); rintro e w' ⟨rfl, ⟨nd, rfl⟩⟩))
              go_roundg k1
              case measure => have := HK1.out; omega
              case rel => exact ⟨(x6_1), (x7_1), (wrap64 (x8_1 + 1)), (by first | rfl | (simp; done) | (simp [*]; done)), (by first | rfl | (simp; done) | (simp [*]; done)), (by first | rfl | (simp; done) | (simp [*]; done)), H', ⟨by have := HK1.out; omega⟩, ⟨by (with_reducible repeat (first | refine blk_drewN ?_ _ | refine blk_drew ?_ | refine blk_alloc ?_ _)); exact BK155.out⟩, ⟨by repeat (first | (with_reducible first | exact HB.out | apply below_alloc | apply pw_below_drewN | apply below_drew1 | refine below_set ?_ GE155.out) | exact HB.out)⟩⟩
        · rw [if_neg c7] at H
          have c7b0 : decide (x8_1 < (l0.length : Int)) = false := decide_eq_false c7
          clear c7
          by_cases c17 : x7_1 = true
          · subst c17
            have H1 : (some (0, 9)) = some (r1, r2) := by rw [if_pos rfl] at H; exact H
            clear H
            have H := H1
            clear H1
            simp only [Option.some.injEq, Prod.mk.injEq] at H
            obtain ⟨rfl, rfl⟩ := H
            have hcz18_0 : wr.cell? ⟨gb155, 0, none⟩ = some (.slice A0 l0.length c0) := (blk_cell BK155.out 0).trans rfl
            have hfz18_0 := blk_frozen BK155.out 0
            go_wp2
            go_ret2
            exact ⟨by first | rfl | (simp [errW_none, errW_some] <;> rfl) | (simp [*, errW_none, errW_some] <;> rfl), by repeat (first | (with_reducible first | exact HB.out | apply below_alloc | apply pw_below_drewN | apply below_drew1 | refine below_set ?_ GE155.out) | exact HB.out)⟩
          · replace c17 := Bool.eq_false_iff.mpr c17
            subst c17
            have H1 : (some (x6_1, 0)) = some (r1, r2) := by rw [if_neg (show ¬ (false = true) by decide)] at H; exact H
            clear H
            have H := H1
            clear H1
            simp only [Option.some.injEq, Prod.mk.injEq] at H
            obtain ⟨rfl, rfl⟩ := H
            have hcz19_0 : wr.cell? ⟨gb155, 0, none⟩ = some (.slice A0 l0.length c0) := (blk_cell BK155.out 0).trans rfl
            have hfz19_0 := blk_frozen BK155.out 0
            go_wp2
            go_ret2
            exact ⟨by first | rfl | (simp [errW_none, errW_some] <;> rfl) | (simp [*, errW_none, errW_some] <;> rfl), by repeat (first | (with_reducible first | exact HB.out | apply below_alloc | apply pw_below_drewN | apply below_drew1 | refine below_set ?_ GE155.out) | exact HB.out)⟩
  · rw [if_neg c3] at H
    have c3b0 : (t156 == 0) = false := beq_eq_false_iff_ne.mpr c3
    have c3b1 : (t156 != 0) = true := bne_iff_ne.mpr c3
    simp only [Option.some.injEq, Prod.mk.injEq] at H
    obtain ⟨rfl, rfl⟩ := H
    go_enter Try.func12, Try.ntmps12
    go_wp2_with (first | ((with_reducible refine gate_dst (N := 1) rfl ?_); refine box_event ?hg (N := 1) ?hd (cs := #[.slice A0 l0.length c0]) (t := 22) ?hr ?_; (case hd => rfl); (case hg => first | rfl | (go_simp; done)); (case hr => first | (go_simp; done) | (go_simp; rfl)); intro gb155 hg w20 hbox hb; have n0_ := Aside0.mk (below_step (by repeat (first | (with_reducible first | exact HB.out | apply below_alloc | apply pw_below_drewN | apply below_drew1) | exact HB.out)) hb); have n1_ := Aside0.mk (hbox); have n2_ := Aside0.mk ((by rw [hg]; exact (below_size (by repeat (first | (with_reducible first | exact HB.out | apply below_alloc | apply pw_below_drewN | apply below_drew1) | exact HB.out))) : w.heap.size ≤ gb155)); have n3_ := Aside0.mk ((by rw [hg]; exact (below_size (by repeat (first | (with_reducible first | exact HB.out | apply below_alloc | apply pw_below_drewN | apply below_drew1) | exact HB.out))) : w.heap.size ≤ gb155)); clear HB; have HB := n0_; have BK155 := n1_; have GW155 := n2_; have GE155 := n3_; clear n0_ n1_ n2_ n3_; clear hb hbox hg; have hcz21_0 : w20.cell? ⟨gb155, 0, none⟩ = some (.slice A0 l0.length c0) := (blk_cell BK155.out 0).trans rfl; have hfz21_0 := blk_frozen BK155.out 0) | ((with_reducible refine gate_callee (f := 33) rfl ?_); refine goesL_ (some 10) rfl rfl Try.func33 (by kernel_rfl) rfl #[.slice A0 l0.length c0] rfl (by (try simp only [List.map_toArray, List.map_cons, List.map_nil]); first | done | rfl | (simp only [List.length_drop, List.length_take]; rfl)) ?_; (with_reducible refine (arch_Check.calls k _ _ l0 t156 _ ?side1 ?side2 A2.out).mono ?_); (case side1 => repeat (first | exact (Kd.C_below HR0.out HB.out) | (with_reducible refine Kd.C_alloc ?_ _) | (with_reducible refine Kd.C_drewN ?_ _) | (with_reducible refine Kd.C_drew ?_))); (case side2 => exact HC0.out); rintro e w22 ⟨rfl, hb⟩; refine ⟨_, rfl, ?_⟩; have n0_ := Aside0.mk (blk_below (g := gb155) (o := .cells #[.slice A0 l0.length c0] 22 (0, 0)) (by (with_reducible repeat (first | refine blk_drewN ?_ _ | refine blk_drew ?_ | refine blk_alloc ?_ _)); exact BK155.out) hb); have n1_ := Aside0.mk (below_step (by repeat (first | (with_reducible first | exact HB.out | apply below_alloc | apply pw_below_drewN | apply below_drew1 | refine below_set ?_ GE155.out) | exact HB.out)) hb); clear BK155; clear HB; have BK155 := n0_; have HB := n1_; clear n0_ n1_; (try clear hb); (try clear hb2); (try clear hk); (try clear hi)))
    go_ret2
    exact ⟨by first | rfl | (simp [errW_none, errW_some] <;> rfl) | (simp [*, errW_none, errW_some] <;> rfl), by repeat (first | (with_reducible first | exact HB.out | apply below_alloc | apply pw_below_drewN | apply below_drew1 | refine below_set ?_ GE155.out) | exact HB.out)⟩

-- NOT PRINTED: function 40 (api_Polygon_40)

/-! ### arch_flip: function 52 -/
def arch_flip.l0 : Nat → Int → List (S46) → Int → Int → Option ((List (S46)))
 | 0, _, _, _, _ => none
 | k + 1, x1, x5, x21, x22 => if x22 < x21 then (if 0 ≤ x22 then (if x22 < (x5.length : Int) then (arch_flip.l0 k x1 (x5.set (x22 : Int).toNat (⟨wrap64 (x1 - ((rd_T46 x5 x22).f0)), (rd_T46 x5 x22).f1⟩ : S46)) x21 (wrap64 (x22 + 1))) else (none)) else (none)) else (some x5)
def arch_flip.f (k : Nat) (l0 : List (S46)) (a1 : Int) : Option ((List (S46))) := if 1 < (l0.length : Int) then (if 0 < (l0.length : Int) then (if 3 < (l0.length : Int) then (if 2 < (l0.length : Int) then ((some (([(⟨(rd_T46 l0 1).f0, (rd_T46 l0 1).f1⟩ : S46), (⟨(rd_T46 l0 0).f0, (rd_T46 l0 0).f1⟩ : S46), (⟨(rd_T46 l0 3).f0, (rd_T46 l0 3).f1⟩ : S46), (⟨(rd_T46 l0 2).f0, (rd_T46 l0 2).f1⟩ : S46)] : List (S46)) : List (S46))).bind fun y165 => (arch_flip.l0 k a1 y165 (y165.length : Int) 0)) else (none)) else (none)) else (none)) else (none)
theorem arch_flip.mono_l : ∀ k, (∀ y0 y1 y2 y3, LeO (arch_flip.l0 k y0 y1 y2 y3) (arch_flip.l0 (k + 1) y0 y1 y2 y3))
 | 0 => fun _ _ _ _ r h => by simp [arch_flip.l0] at h
 | k + 1 => by
  have ih0 := arch_flip.mono_l k
  ·intro y0 y1 y2 y3
   unfold arch_flip.l0
   repeat' first
   | (with_reducible exact ih0 _ _ _ _)
   | (with_reducible exact LeO.refl _)
   | (with_reducible exact LeO.none _)
   | (with_reducible refine LeO.ite ?_ ?_)
   | (with_reducible refine LeO.bind ?_ (fun _ => ?_))
   | exact ih0 _ _ _ _
   | exact LeO.none _
   | refine LeO.ite ?_ ?_
   | refine LeO.bind ?_ (fun _ => ?_)
theorem arch_flip.mono : ∀ a0 a1 k, LeO (arch_flip.f k a0 a1) (arch_flip.f (k + 1) a0 a1) := by
 intro a0 a1 k
 have ih0 := arch_flip.mono_l k
 unfold arch_flip.f
 repeat' first
   | (with_reducible exact ih0 _ _ _ _)
   | (with_reducible exact LeO.refl _)
   | (with_reducible exact LeO.none _)
   | (with_reducible refine LeO.ite ?_ ?_)
   | (with_reducible refine LeO.bind ?_ (fun _ => ?_))
   | exact ih0 _ _ _ _
   | exact LeO.none _
   | refine LeO.ite ?_ ?_
   | refine LeO.bind ?_ (fun _ => ?_)
def arch_flip.T1 : Bool × List (List Nat × List Nat) := (true, [([], []), ([0], [0]), ([1], [1]), ([], []), ([3], [3]), ([4], [4]), ([], []), ([6], [6]), ([7], [7]), ([], []), ([9], [9]), ([10], [10]), ([2, 5, 8, 11], [2, 5, 8, 11]), ([12, 0, 1, 2, 3, 4, 5, 6, 7, 8, 9, 10, 11, 12], [12])])
def arch_flip.B1 : List Nat := [0, 1, 3, 0, 8, 24, 0, 64, 192, 0, 512, 1536, 4095, 8191]
theorem arch_flip.tab1 : rtab .any (opsOf Try.f52 1) = arch_flip.T1 := by kernel_rfl
theorem arch_flip.bits1 : waitsOk arch_flip.T1.2 arch_flip.B1 = true := by kernel_rfl
set_option maxHeartbeats 8000000 in
set_option maxRecDepth 100000 in
theorem arch_flip.calls (k : Nat) (A0 : Option Addr) (c0 : Nat) (l0 : List (S46)) (a1 : Int) (r : List (S46)) (w : World) (hr0 : Kd.C k46 w A0 l0.length l0) (hc0 : l0.length ≤ c0) (h : arch_flip.f k l0 a1 = some r) :
  Calls Try.prog 52 #[.slice A0 l0.length c0, .int .i64 a1] w fun e w' => ∃ v0_ : Value, e = .returned (v0_) ∧ Kd.R k46 46 w' w.heap.size (fun _ => True) v0_ r ∧ Below w.heap.size w w' := by
 have hu46 := Try.underlying46
 have HR0 := Aside0.mk hr0
 have HC0 := Aside0.mk hc0
 clear hr0 hc0
 have HB := Aside0.mk (Below.refl w.heap.size w)
 have H : (if 1 < (l0.length : Int) then (if 0 < (l0.length : Int) then (if 3 < (l0.length : Int) then (if 2 < (l0.length : Int) then ((some (([(⟨(rd_T46 l0 1).f0, (rd_T46 l0 1).f1⟩ : S46), (⟨(rd_T46 l0 0).f0, (rd_T46 l0 0).f1⟩ : S46), (⟨(rd_T46 l0 3).f0, (rd_T46 l0 3).f1⟩ : S46), (⟨(rd_T46 l0 2).f0, (rd_T46 l0 2).f1⟩ : S46)] : List (S46)) : List (S46))).bind fun y165 => (arch_flip.l0 k a1 y165 (y165.length : Int) 0)) else (none)) else (none)) else (none)) else (none)) = some r := h
 clear h
 by_cases c3 : 1 < (l0.length : Int)
 ·rw [if_pos c3] at H
  (have c3b0 := decide_eq_true c3); (have c3b1 : decide (1 < l0.length) = true := decide_eq_true (by omega)); (clear c3); (by_cases c4 : 0 < (l0.length : Int))
  ·rw [if_pos c4] at H
   (have c4b0 := decide_eq_true c4); (have c4b1 : decide (0 < l0.length) = true := decide_eq_true (by omega)); (clear c4); (by_cases c5 : 3 < (l0.length : Int))
   ·rw [if_pos c5] at H
    (have c5b0 := decide_eq_true c5); (have c5b1 : decide (3 < l0.length) = true := decide_eq_true (by omega)); (clear c5); (by_cases c6 : 2 < (l0.length : Int))
    ·rw [if_pos c6] at H
     (have c6b0 := decide_eq_true c6); (have c6b1 : decide (2 < l0.length) = true := decide_eq_true (by omega)); (clear c6); (obtain ⟨y165, hy165⟩ : ∃ y_ : List (S46), y_ = (([(⟨(rd_T46 l0 1).f0, (rd_T46 l0 1).f1⟩ : S46), (⟨(rd_T46 l0 0).f0, (rd_T46 l0 0).f1⟩ : S46), (⟨(rd_T46 l0 3).f0, (rd_T46 l0 3).f1⟩ : S46), (⟨(rd_T46 l0 2).f0, (rd_T46 l0 2).f1⟩ : S46)] : List (S46))) := ⟨_, rfl⟩); (replace H : (arch_flip.l0 k a1 y165 (y165.length : Int) 0) = some r := by first | (rw [hy165]; with_reducible exact H) | (have H2_ := (Option.bind_some _ _).symm.trans H; rw [hy165]; with_reducible exact H2_) | (have H2_ := (Option.bind_some _ _).symm.trans H; with_reducible exact H2_) | with_reducible exact H | (rw [hy165]; exact H) | exact H); (have Ny165 := Aside0.mk hy165); (clear hy165); (have H' := Aside0.mk H); (clear H); (go_enter Try.func52, Try.ntmps52); (try go_wp2); (replace HB := Aside0.mk (below_drew1 HB.out)); (have p161 : 0 ≤ (1 : Int) := (by omega)); (have q161 : 1 < (l0.length : Int) := of_decide_eq_true (by first | (with_reducible assumption) | assumption)); (obtain ⟨ad161, e161, hx161_0, hx161_1⟩ := at_T46 HR0.out 1 p161 q161); (have hw161_1 := hx161_1); ((try rw [show ((1 : Int)).toNat = 1 from rfl] at hw161_1)); ((try rw [show 1 * 2 = 2 from rfl] at hw161_1)); ((try simp only [Nat.reduceMul, Nat.reduceEqDiff, Go.Addr.add, ↓reduceIte] at hw161_1)); (have hw161_0 := hx161_0); ((try rw [show ((1 : Int)).toNat = 1 from rfl] at hw161_0)); ((try rw [show 1 * 2 = 2 from rfl] at hw161_0)); ((try simp only [Nat.reduceMul, Nat.reduceEqDiff, Go.Addr.add, ↓reduceIte] at hw161_0)); (cases e161); ((try simp only [show (1 : Int).toNat = 1 from rfl, Nat.reduceMul, Nat.reduceEqDiff, Go.Addr.add, ↓reduceIte] at hx161_0)); ((try simp only [show (1 : Int).toNat = 1 from rfl, Nat.reduceMul, Nat.reduceEqDiff, Go.Addr.add, ↓reduceIte] at hx161_1)); (have qi161 : (1 < l0.length) = True := eq_true (by omega)); ((try rw [show ((1 : Int)).toNat = 1 from rfl] at hx161_0)); ((try rw [show 1 * 2 = 2 from rfl] at hx161_0)); ((try rw [show ((1 : Int)).toNat = 1 from rfl] at hx161_1)); ((try rw [show 1 * 2 = 2 from rfl] at hx161_1)); (replace hx161_0 := (HB.out.cell (World.block_lt_of_cell? w _ hx161_0)).trans hx161_0); (replace hx161_1 := (HB.out.cell (World.block_lt_of_cell? w _ hx161_1)).trans hx161_1); (replace p161 := eq_true p161); (replace q161 := eq_true q161); (have p162 : 0 ≤ (0 : Int) := (by omega)); (have q162 : 0 < (l0.length : Int) := of_decide_eq_true (by first | (with_reducible assumption) | assumption)); (obtain ⟨ad162, e162, hx162_0, hx162_1⟩ := at_T46 HR0.out 0 p162 q162); (have hw162_1 := hx162_1); ((try rw [show ((0 : Int)).toNat = 0 from rfl] at hw162_1)); ((try rw [show 0 * 2 = 0 from rfl] at hw162_1)); ((try rw [Addr.add_zero'] at hw162_1)); (have hw162_0 := hx162_0); ((try rw [show ((0 : Int)).toNat = 0 from rfl] at hw162_0)); ((try rw [show 0 * 2 = 0 from rfl] at hw162_0)); ((try rw [Addr.add_zero'] at hw162_0)); (obtain rfl : ad161 = ad162 := (by injection e162)); (have qi162 : (0 < l0.length) = True := eq_true (by omega)); ((try rw [show ((0 : Int)).toNat = 0 from rfl] at hx162_0)); ((try rw [show 0 * 2 = 0 from rfl] at hx162_0)); ((try rw [Addr.add_zero'] at hx162_0))
     ((try rw [show ((0 : Int)).toNat = 0 from rfl] at hx162_1)); ((try rw [show 0 * 2 = 0 from rfl] at hx162_1)); ((try rw [Addr.add_zero'] at hx162_1)); (replace hx162_0 := (HB.out.cell (World.block_lt_of_cell? w _ hx162_0)).trans hx162_0); (replace hx162_1 := (HB.out.cell (World.block_lt_of_cell? w _ hx162_1)).trans hx162_1); (replace p162 := eq_true p162); (replace q162 := eq_true q162); (have p163 : 0 ≤ (3 : Int) := (by omega)); (have q163 : 3 < (l0.length : Int) := of_decide_eq_true (by first | (with_reducible assumption) | assumption)); (obtain ⟨ad163, e163, hx163_0, hx163_1⟩ := at_T46 HR0.out 3 p163 q163); (have hw163_1 := hx163_1); ((try rw [show ((3 : Int)).toNat = 3 from rfl] at hw163_1)); ((try rw [show 3 * 2 = 6 from rfl] at hw163_1)); ((try simp only [Nat.reduceMul, Nat.reduceEqDiff, Go.Addr.add, ↓reduceIte] at hw163_1)); (have hw163_0 := hx163_0); ((try rw [show ((3 : Int)).toNat = 3 from rfl] at hw163_0)); ((try rw [show 3 * 2 = 6 from rfl] at hw163_0)); ((try simp only [Nat.reduceMul, Nat.reduceEqDiff, Go.Addr.add, ↓reduceIte] at hw163_0)); (obtain rfl : ad161 = ad163 := (by injection e163)); ((try simp only [show (3 : Int).toNat = 3 from rfl, Nat.reduceMul, Nat.reduceEqDiff, Go.Addr.add, ↓reduceIte] at hx163_0)); ((try simp only [show (3 : Int).toNat = 3 from rfl, Nat.reduceMul, Nat.reduceEqDiff, Go.Addr.add, ↓reduceIte] at hx163_1)); (have qi163 : (3 < l0.length) = True := eq_true (by omega)); ((try rw [show ((3 : Int)).toNat = 3 from rfl] at hx163_0)); ((try rw [show 3 * 2 = 6 from rfl] at hx163_0)); ((try rw [show ((3 : Int)).toNat = 3 from rfl] at hx163_1)); ((try rw [show 3 * 2 = 6 from rfl] at hx163_1)); (replace hx163_0 := (HB.out.cell (World.block_lt_of_cell? w _ hx163_0)).trans hx163_0); (replace hx163_1 := (HB.out.cell (World.block_lt_of_cell? w _ hx163_1)).trans hx163_1); (replace p163 := eq_true p163); (replace q163 := eq_true q163); (have p164 : 0 ≤ (2 : Int) := (by omega)); (have q164 : 2 < (l0.length : Int) := of_decide_eq_true (by first | (with_reducible assumption) | assumption)); (obtain ⟨ad164, e164, hx164_0, hx164_1⟩ := at_T46 HR0.out 2 p164 q164); (have hw164_1 := hx164_1); ((try rw [show ((2 : Int)).toNat = 2 from rfl] at hw164_1)); ((try rw [show 2 * 2 = 4 from rfl] at hw164_1)); ((try simp only [Nat.reduceMul, Nat.reduceEqDiff, Go.Addr.add, ↓reduceIte] at hw164_1)); (have hw164_0 := hx164_0); ((try rw [show ((2 : Int)).toNat = 2 from rfl] at hw164_0)); ((try rw [show 2 * 2 = 4 from rfl] at hw164_0)); ((try simp only [Nat.reduceMul, Nat.reduceEqDiff, Go.Addr.add, ↓reduceIte] at hw164_0)); (obtain rfl : ad161 = ad164 := (by injection e164)); ((try simp only [show (2 : Int).toNat = 2 from rfl, Nat.reduceMul, Nat.reduceEqDiff, Go.Addr.add, ↓reduceIte] at hx164_0)); ((try simp only [show (2 : Int).toNat = 2 from rfl, Nat.reduceMul, Nat.reduceEqDiff, Go.Addr.add, ↓reduceIte] at hx164_1)); (have qi164 : (2 < l0.length) = True := eq_true (by omega)); ((try rw [show ((2 : Int)).toNat = 2 from rfl] at hx164_0)); ((try rw [show 2 * 2 = 4 from rfl] at hx164_0)); ((try rw [show ((2 : Int)).toNat = 2 from rfl] at hx164_1)); ((try rw [show 2 * 2 = 4 from rfl] at hx164_1)); (replace hx164_0 := (HB.out.cell (World.block_lt_of_cell? w _ hx164_0)).trans hx164_0)
     (replace hx164_1 := (HB.out.cell (World.block_lt_of_cell? w _ hx164_1)).trans hx164_1); (replace p164 := eq_true p164); (replace q164 := eq_true q164); (refine start_ (n := 14) (S := fun w' => w'.cell? ⟨ad161.block, ad161.off + 2, none⟩ = some (.int .i64 ((rd_T46 l0 1).f0)) ∧ w'.cell? ⟨ad161.block, ad161.off + 2 + 1, none⟩ = some (.int .i64 ((rd_T46 l0 1).f1)) ∧ w'.cell? ad161 = some (.int .i64 ((rd_T46 l0 0).f0)) ∧ w'.cell? ⟨ad161.block, ad161.off + 1, none⟩ = some (.int .i64 ((rd_T46 l0 0).f1)) ∧ w'.cell? ⟨ad161.block, ad161.off + 6, none⟩ = some (.int .i64 ((rd_T46 l0 3).f0)) ∧ w'.cell? ⟨ad161.block, ad161.off + 6 + 1, none⟩ = some (.int .i64 ((rd_T46 l0 3).f1)) ∧ w'.cell? ⟨ad161.block, ad161.off + 4, none⟩ = some (.int .i64 ((rd_T46 l0 2).f0)) ∧ w'.cell? ⟨ad161.block, ad161.off + 4 + 1, none⟩ = some (.int .i64 ((rd_T46 l0 2).f1))) (ds := []) (bm 14 0) (by kernel_rfl) rfl rfl ⟨((HB.out.cell (World.block_lt_of_cell? w _ hw161_0)).trans hw161_0), ((HB.out.cell (World.block_lt_of_cell? w _ hw161_1)).trans hw161_1), ((HB.out.cell (World.block_lt_of_cell? w _ hw162_0)).trans hw162_0), ((HB.out.cell (World.block_lt_of_cell? w _ hw162_1)).trans hw162_1), ((HB.out.cell (World.block_lt_of_cell? w _ hw163_0)).trans hw163_0), ((HB.out.cell (World.block_lt_of_cell? w _ hw163_1)).trans hw163_1), ((HB.out.cell (World.block_lt_of_cell? w _ hw164_0)).trans hw164_0), ((HB.out.cell (World.block_lt_of_cell? w _ hw164_1)).trans hw164_1)⟩ (fun hHeld => ?_); refine with_tabW arch_flip.tab1 arch_flip.bits1 (fun HT_ HW_ => ?_)); (generalize w.drew = w7 at HB hx161_0 hx161_1 hx162_0 hx162_1 hx163_0 hx163_1 hx164_0 hx164_1 hHeld ⊢); (refine pv_ 0 HT_ ?_); (refine pv_ 1 HT_ ?_); (refine pv_ 3 HT_ ?_); (refine pv_ 4 HT_ ?_); (refine pv_ 6 HT_ ?_); (refine pv_ 7 HT_ ?_); (refine pv_ 9 HT_ ?_); (refine pv_ 10 HT_ ?_); (refine tv_ 2 HT_ HW_ hHeld ?_); (refine tv_ 5 HT_ HW_ hHeld ?_); (refine tv_ 8 HT_ HW_ hHeld ?_); (refine tv_ 11 HT_ HW_ hHeld ?_); (refine one_ (i := 12) (N := some 19) (bm 14 8191) rfl rfl (one_of HT_.out (by kernel_rfl)) (by decide) (fun K hK => ?_)); (refine Kd.R_lit_step k46 _ 46 ?hg (N := 19) ?hd (xs := ([(⟨(rd_T46 l0 1).f0, (rd_T46 l0 1).f1⟩ : S46), (⟨(rd_T46 l0 0).f0, (rd_T46 l0 0).f1⟩ : S46), (⟨(rd_T46 l0 3).f0, (rd_T46 l0 3).f1⟩ : S46), (⟨(rd_T46 l0 2).f0, (rd_T46 l0 2).f1⟩ : S46)] : List (S46))) (inner := [.int .i64 ((rd_T46 l0 1).f0), .int .i64 ((rd_T46 l0 1).f1), .int .i64 ((rd_T46 l0 0).f0), .int .i64 ((rd_T46 l0 0).f1), .int .i64 ((rd_T46 l0 3).f0), .int .i64 ((rd_T46 l0 3).f1), .int .i64 ((rd_T46 l0 2).f0), .int .i64 ((rd_T46 l0 2).f1)]) (ok := fun _ => True) (okp := fun _ => True) ?hr ?hp (fun _ hk => hk) trivial (Below.refl _ _) (Nat.le_refl _) (by simp) ?_; (case hd => rfl); (case hg => first | rfl | (go_simp; done)); (case hr => first | (go_simp; done) | (go_simp; rfl)); (case hp => exact (Reps.c2 (show Kd.M k46 _ _ _ (⟨(rd_T46 l0 1).f0, (rd_T46 l0 1).f1⟩ : S46) [.int .i64 ((rd_T46 l0 1).f0), .int .i64 ((rd_T46 l0 1).f1)] from (k46_mkM _ _ _ (⟨(rd_T46 l0 1).f0, (rd_T46 l0 1).f1⟩ : S46) )) (Reps.c2 (show Kd.M k46 _ _ _ (⟨(rd_T46 l0 0).f0, (rd_T46 l0 0).f1⟩ : S46) [.int .i64 ((rd_T46 l0 0).f0), .int .i64 ((rd_T46 l0 0).f1)] from (k46_mkM _ _ _ (⟨(rd_T46 l0 0).f0, (rd_T46 l0 0).f1⟩ : S46) )) (Reps.c2 (show Kd.M k46 _ _ _ (⟨(rd_T46 l0 3).f0, (rd_T46 l0 3).f1⟩ : S46) [.int .i64 ((rd_T46 l0 3).f0), .int .i64 ((rd_T46 l0 3).f1)] from (k46_mkM _ _ _ (⟨(rd_T46 l0 3).f0, (rd_T46 l0 3).f1⟩ : S46) )) (Reps.c2 (show Kd.M k46 _ _ _ (⟨(rd_T46 l0 2).f0, (rd_T46 l0 2).f1⟩ : S46) [.int .i64 ((rd_T46 l0 2).f0), .int .i64 ((rd_T46 l0 2).f1)] from (k46_mkM _ _ _ (⟨(rd_T46 l0 2).f0, (rd_T46 l0 2).f1⟩ : S46) )) (Reps.none _ _)))))))
     (intro v166 w8 ho9 hb hg_ hnew_); (clear hg_ hnew_); ((first | rw [← Ny165.out] at ho9 | (simp only [Int.reduceToNat] at ho9; rw [← Ny165.out] at ho9))); (have HO167 := Aside0.mk (Kd.R_lower ho9 (below_size (hb_ HB)))); (replace HB := hs_ HB hb); (clear hb ho9); (refine hK.out _ _ ⟨((HB.out.cell (World.block_lt_of_cell? w _ hw161_0)).trans hw161_0), ((HB.out.cell (World.block_lt_of_cell? w _ hw161_1)).trans hw161_1), ((HB.out.cell (World.block_lt_of_cell? w _ hw162_0)).trans hw162_0), ((HB.out.cell (World.block_lt_of_cell? w _ hw162_1)).trans hw162_1), ((HB.out.cell (World.block_lt_of_cell? w _ hw163_0)).trans hw163_0), ((HB.out.cell (World.block_lt_of_cell? w _ hw163_1)).trans hw163_1), ((HB.out.cell (World.block_lt_of_cell? w _ hw164_0)).trans hw164_0), ((HB.out.cell (World.block_lt_of_cell? w _ hw164_1)).trans hw164_1)⟩ (fun hHeld => ?_)); (clear hK K); (refine nv_ ?_); (refine pv_ 13 HT_ ?_); (refine done_ (done_of HT_.out (by kernel_rfl)) ?_); (obtain ⟨Ao10, co10, eo10⟩ := Kd.R_slice HO167.out); (subst eo10); (try go_wp2); (go_loopg [22] k (fun kq v22 w' => ∃ (x5_1 : List (S46)) (x22_1 : Int), v22 = .int .i64 x22_1 ∧ Aside0 (arch_flip.l0 kq a1 x5_1 (y165.length : Int) x22_1 = some r) ∧ Aside0 (kq ≤ k) ∧ Aside0 (Kd.R k46 46 w' w.heap.size (fun _ => True) (.slice Ao10 y165.length co10) x5_1) ∧ Aside0 (Below w.heap.size w w')))
     case atStart => exact ⟨(y165), (0), (by first | rfl | (simp; done) | (simp [*]; done)), H', ⟨Nat.le_refl _⟩, ⟨by (with_reducible repeat (first | apply Kd.R_alloc | apply Kd.R_drewN | apply Kd.R_drew)); exact HO167.out⟩, ⟨hb_ HB⟩⟩
     case round =>
      (clear H'); (try clear p1); (try clear q1); (try clear hx1); (try clear qi1); (try clear c2); (try clear p2); (try clear c3); (try clear c3b0); (try clear c3b1); (try clear c4); (try clear c4b0); (try clear c4b1); (try clear c5); (try clear c5b0); (try clear c5b1); (try clear c6); (try clear c6b0); (try clear c6b1); (try clear hx161_0); (try clear hx161_1); (try clear hx162_0); (try clear hx162_1); (try clear hx163_0); (try clear hx163_1); (try clear hx164_0); (try clear hx164_1); (try clear p161); (try clear p162); (try clear p163); (try clear p164); (try clear q161); (try clear q162); (try clear q163); (try clear q164); (obtain ⟨x5_1, x22_1, rfl, HA, HK1, HO_5, HB⟩ := hrel); (have hl5_1 := (Kd.R_reads' HO_5.out).1); (rw [hl5_1] at HO_5); ((try simp only [hl5_1]))
      cases gk with
      | zero => exact absurd HA.out (by simp [arch_flip.l0])
      | succ k1 =>
       (have H := HA.out); (clear HA); (simp only [arch_flip.l0] at H); (by_cases c11 : x22_1 < (y165.length : Int))
       ·rw [if_pos c11] at H
        (have c11b0 := decide_eq_true c11); (clear c11); (by_cases c12 : 0 ≤ x22_1)
        ·rw [if_pos c12] at H
         (have c12b0 := decide_eq_true c12); (clear c12); (by_cases c13 : x22_1 < (x5_1.length : Int))
         ·rw [if_pos c13] at H
          (have c13b0 := decide_eq_true c13); (clear c13); (obtain ⟨y169, hy169⟩ : ∃ y_ : List (S46), y_ = (x5_1.set (x22_1 : Int).toNat (⟨wrap64 (a1 - ((rd_T46 x5_1 x22_1).f0)), (rd_T46 x5_1 x22_1).f1⟩ : S46)) := ⟨_, rfl⟩); (replace H : (arch_flip.l0 k1 a1 y169 (y165.length : Int) (wrap64 (x22_1 + 1))) = some r := by first | (rw [hy169]; with_reducible exact H) | (have H2_ := (Option.bind_some _ _).symm.trans H; rw [hy169]; with_reducible exact H2_) | (have H2_ := (Option.bind_some _ _).symm.trans H; with_reducible exact H2_) | with_reducible exact H | (rw [hy169]; exact H) | exact H); (have Ny169 := Aside0.mk hy169); (clear hy169); (have H' := Aside0.mk H); (clear H); (have p168 : 0 ≤ (x22_1 : Int) := of_decide_eq_true (by first | (with_reducible assumption) | assumption)); (have q168 : x22_1 < (x5_1.length : Int) := of_decide_eq_true (by first | (with_reducible assumption) | assumption)); (obtain ⟨ad168, e168, hx168_0, hx168_1⟩ := at_T46 (Kd.R_reads' HO_5.out).2.2 x22_1 p168 q168); (cases e168); (replace p168 := eq_true p168); (replace q168 := eq_true q168); (have p14 : 0 ≤ (x22_1 : Int) := of_decide_eq_true (by first | (with_reducible assumption) | assumption)); (have q14 : (x22_1 : Int) < ((x5_1.length : Int) : Int) := of_decide_eq_true (by first | (with_reducible assumption) | assumption)); (obtain ⟨go14, co14, eo14, gb14, gl14, cl14, HG14⟩ := Kd.R_form HO_5.out (by omega)); ((first | cases eo14 | (injection eo14 with ea_ en_ ec_; (first | subst ea_ | (injection ea_ with ea_; subst ea_)); subst ec_; clear en_))); (have GB14 := Aside0.mk gb14); (have GG14 := Aside0.mk HG14); (clear gb14 gl14 HG14); ((first | simp only [add_plain] at hx168_0 | skip)); ((first | simp only [add_plain] at hx168_1 | skip)); (obtain ⟨ce14, hcl14, hM14, hcc14, hfr14⟩ := Kd.R_elem HO_5.out z46 (x22_1 : Int) p14 q14); (obtain rfl := k46_openM hM14); (have hx14_0 : wr.cell? ⟨go14, (x22_1 : Int).toNat * 2, none⟩ = some (.int .i64 ((rd_T46 x5_1 x22_1).f0)) := hcc14 0 _ rfl); (have hx14_1 : wr.cell? ⟨go14, (x22_1 : Int).toNat * 2 + 1, none⟩ = some (.int .i64 ((rd_T46 x5_1 x22_1).f1)) := hcc14 1 _ rfl); (have hf14_0 : wr.frozen? ⟨go14, (x22_1 : Int).toNat * 2, none⟩ = false := hfr14 0); (have hf14_1 : wr.frozen? ⟨go14, (x22_1 : Int).toNat * 2 + 1, none⟩ = false := hfr14 1); (clear hcl14 hcc14 hfr14 hM14); (replace p14 := eq_true p14); (replace q14 := eq_true q14); (have HX15 := Aside0.mk (show Kd.R k46 46 wr w.heap.size (fun _ => True) (.slice (some ⟨go14, 0, none⟩) x5_1.length co10) x5_1 from (rk_ HO_5))); (obtain ⟨ce15, hcl15, hM15, hcc15, hfr15⟩ := Kd.R_elem HX15.out z46 (x22_1 : Int) (of_decide_eq_true (by first | (with_reducible assumption) | assumption)) (by have h_ : (x22_1 : Int) < ((x5_1.length : Int) : Int) := of_decide_eq_true (by first | (with_reducible assumption) | assumption); first | exact h_ | (have e_ := (Kd.R_reads' HO_5.out).1; omega) | simpa using h_)); (obtain rfl := k46_openM hM15); (have HP15 := Kd.R_seg HX15.out (x22_1 : Int) (of_decide_eq_true (by first | (with_reducible assumption) | assumption)) (by have h_ : (x22_1 : Int) < ((x5_1.length : Int) : Int) := of_decide_eq_true (by first | (with_reducible assumption) | assumption); first | exact h_ | (have e_ := (Kd.R_reads' HO_5.out).1; omega) | simpa using h_) (seg := [.int .i64 (wrap64 (a1 - ((rd_T46 x5_1 x22_1).f0)))]) (j := 0) hcl15 hcc15 (show 1 ≤ 2 from by decide) (x' := (⟨wrap64 (a1 - ((rd_T46 x5_1 x22_1).f0)), (rd_T46 x5_1 x22_1).f1⟩ : S46)) (k46_mkM _ _ _ (⟨wrap64 (a1 - ((rd_T46 x5_1 x22_1).f0)), (rd_T46 x5_1 x22_1).f1⟩ : S46) ) (fun _ hk => hk))
          (have hx15_0 := hcc15 0 _ rfl); ((try simp only [show (k46).sz = 2 from rfl, Nat.mul_one, Nat.add_zero] at hx15_0)); (have hf15_0 := hfr15 0); ((try simp only [show (k46).sz = 2 from rfl, Nat.mul_one, Nat.add_zero] at hf15_0)); (clear hcl15 hcc15 hfr15 hM15); (go_wp2_with (first | ((with_reducible refine gate_store (t := 3) (p := 35) rfl ?_); refine store_event (t := 3) (p := 35) (v := ?vo_w16) (w1 := (wr.setCell ⟨go14, (x22_1 : Int).toNat * 2, none⟩ (.int .i64 (wrap64 (a1 - ((rd_T46 x5_1 x22_1).f0)))))) ?hg ?ho ?hn ?hr ?_; (case ho => rfl); (case hg => first | rfl | (go_simp; done)); (case hn => rfl); (case hr => first | (go_simp; done) | (go_simp; rfl)); intro w16 hw; have hg : wr.grownBy w16 (some go14) := (by rw [hw]; exact HP15.2); have hp_ : Kd.R k46 46 w16 w.heap.size (fun _ => True) (.slice (some ⟨go14, 0, none⟩) x5_1.length co10) y169 := (by rw [hw, Ny169.out]; exact HP15.1); clear HP15; replace HO_5 := Aside0.mk (hp_); replace HB := Aside0.mk ((by rw [hw]; exact below_set (HB.out) GB14.out : Below w.heap.size w w16)); clear hg hw hp_))); ((try simp only [← hl5_1])); (go_roundg k1)
          case measure => have := HK1.out; omega
          case rel => exact ⟨(y169), (wrap64 (x22_1 + 1)), (by first | rfl | (simp; done) | (simp [*]; done)), H', ⟨by have := HK1.out; omega⟩, ⟨by (try simp only [hl5_1]); (with_reducible repeat (first | apply Kd.R_alloc | apply Kd.R_drewN | apply Kd.R_drew)); exact HO_5.out⟩, ⟨hb_ HB⟩⟩
         ·(rw [if_neg c13] at H); (exact absurd H (by simp))
        ·(rw [if_neg c12] at H); (exact absurd H (by simp))
       ·(rw [if_neg c11] at H); (have c11b0 := decide_eq_false c11); (have c11b1 := c11b0); (simp only [hl5_1] at c11b1); (clear c11); (obtain rfl := Option.some.inj H); (go_wp2); (go_ret); (exact ⟨_, by first | rfl | (simp [errW_none, errW_some] <;> rfl) | (simp [*, errW_none, errW_some] <;> rfl), by (with_reducible repeat (first | apply Kd.R_alloc | apply Kd.R_drewN | apply Kd.R_drew)); exact HO_5.out, hb_ HB⟩)
    ·(rw [if_neg c6] at H); (exact absurd H (by simp))
   ·(rw [if_neg c5] at H); (exact absurd H (by simp))
  ·(rw [if_neg c4] at H); (exact absurd H (by simp))
 ·rw [if_neg c3] at H
  exact absurd H (by simp)

-- NOT PRINTED: function 71 (api_Polygon_1)

-- NOT PRINTED: function 64 (api_Polygon_64)

end Go.Proofs.Ytjlljjnkjhdljaa.XA
