-- written by xprint.py, this project's own program (wip/), over the words of print.sh
import Derived.Test.YthogemdknlpnpaaXAx0
import Derived.Test.YthogemdknlpnpaaXAx2
import Derived.Test.YthogemdknlpnpaaFlat
namespace Go.Proofs.Ythogemdknlpnpaa.XA
open Go.Proofs.Ythogemdknlpnpaa.Flat Go.RowKit Go.Proofs.Ythogemdknlpnpaa.Opens Go.Proofs.YthogemdknlpnpaaW.PrintWords Go.Proofs.YthogemdknlpnpaaW.PrintLast Go.Proofs.YthogemdknlpnpaaW.PrintMore
attribute [local go_sem] max2_int min2_int max_two min_two max_three min_three max_four min_four cell_some cell_same   -- for this text's walks alone
set_option linter.unusedVariables false
set_option linter.unusedSimpArgs false

attribute [local go_sem high] eqA60
/-! ### gangsawref08_Same: function 31 -/
mutual
def gangsawref08_Same.j0 : Nat → Bool → List (S60) → Int → Int → List (S60) → Int → Int → Option (Bool)
 | 0, _, _, _, _, _, _, _ => none
 | k + 1, x26, x515000, x515001, x515002, x516000, x516001, x516002 => if x26 = true then (some false) else (gangsawref08_Same.l0 k 0 x515000 x515001 x515002 x516000 x516001 x516002)
def gangsawref08_Same.l0 : Nat → Int → List (S60) → Int → Int → List (S60) → Int → Int → Option (Bool)
 | 0, _, _, _, _, _, _, _ => none
 | k + 1, x5, x515000, x515001, x515002, x516000, x516001, x516002 => if x5 < (x515000.length : Int) then (if 0 ≤ x5 then (if x5 < (x516000.length : Int) then (if (!(((rd_T60 x515000 x5).f0) == ((rd_T60 x516000 x5).f0)) || (!(((rd_T60 x515000 x5).f1) == ((rd_T60 x516000 x5).f1)))) = true then (some false) else (gangsawref08_Same.l0 k (wrap64 (x5 + 1)) x515000 x515001 x515002 x516000 x516001 x516002)) else (none)) else (none)) else (some true)
end
def gangsawref08_Same.f (k : Nat) (l0_0 : List (S60)) (a0_1 : Int) (a0_2 : Int) (l1_0 : List (S60)) (a1_1 : Int) (a1_2 : Int) : Option (Bool) := if a0_1 = a1_1 then (if a0_2 = a1_2 then (gangsawref08_Same.j0 k ((l0_0.length : Int) != (l1_0.length : Int)) l0_0 a0_1 a0_2 l1_0 a1_1 a1_2) else (gangsawref08_Same.j0 k true l0_0 a0_1 a0_2 l1_0 a1_1 a1_2)) else (gangsawref08_Same.j0 k true l0_0 a0_1 a0_2 l1_0 a1_1 a1_2)
theorem gangsawref08_Same.mono_l : ∀ k, (∀ y0 y1 y2 y3 y4 y5 y6, LeO (gangsawref08_Same.j0 k y0 y1 y2 y3 y4 y5 y6) (gangsawref08_Same.j0 (k + 1) y0 y1 y2 y3 y4 y5 y6)) ∧ (∀ y0 y1 y2 y3 y4 y5 y6, LeO (gangsawref08_Same.l0 k y0 y1 y2 y3 y4 y5 y6) (gangsawref08_Same.l0 (k + 1) y0 y1 y2 y3 y4 y5 y6))
 | 0 => ⟨fun _ _ _ _ _ _ _ r h => by simp [gangsawref08_Same.j0] at h, fun _ _ _ _ _ _ _ r h => by simp [gangsawref08_Same.l0] at h⟩
 | k + 1 => by
  (obtain ⟨ih0, ih1⟩ := gangsawref08_Same.mono_l k); (refine ⟨?_, ?_⟩)
  ·intro y0 y1 y2 y3 y4 y5 y6
   unfold gangsawref08_Same.j0
   repeat' first
   | (with_reducible exact ih0 _ _ _ _ _ _ _)
   | (with_reducible exact ih1 _ _ _ _ _ _ _)
   | (with_reducible exact LeO.refl _)
   | (with_reducible exact LeO.none _)
   | (with_reducible refine LeO.ite ?_ ?_)
   | (with_reducible refine LeO.bind ?_ (fun _ => ?_))
   | exact ih0 _ _ _ _ _ _ _
   | exact ih1 _ _ _ _ _ _ _
   | exact LeO.none _
   | refine LeO.ite ?_ ?_
   | refine LeO.bind ?_ (fun _ => ?_)
  ·intro y0 y1 y2 y3 y4 y5 y6
   unfold gangsawref08_Same.l0
   repeat' first
   | (with_reducible exact ih0 _ _ _ _ _ _ _)
   | (with_reducible exact ih1 _ _ _ _ _ _ _)
   | (with_reducible exact LeO.refl _)
   | (with_reducible exact LeO.none _)
   | (with_reducible refine LeO.ite ?_ ?_)
   | (with_reducible refine LeO.bind ?_ (fun _ => ?_))
   | exact ih0 _ _ _ _ _ _ _
   | exact ih1 _ _ _ _ _ _ _
   | exact LeO.none _
   | refine LeO.ite ?_ ?_
   | refine LeO.bind ?_ (fun _ => ?_)
theorem gangsawref08_Same.mono : ∀ a0 a1 a2 a3 a4 a5 k, LeO (gangsawref08_Same.f k a0 a1 a2 a3 a4 a5) (gangsawref08_Same.f (k + 1) a0 a1 a2 a3 a4 a5) := by
 intro a0 a1 a2 a3 a4 a5 k
 obtain ⟨ih0, ih1⟩ := gangsawref08_Same.mono_l k
 unfold gangsawref08_Same.f
 repeat' first
   | (with_reducible exact ih0 _ _ _ _ _ _ _)
   | (with_reducible exact ih1 _ _ _ _ _ _ _)
   | (with_reducible exact LeO.refl _)
   | (with_reducible exact LeO.none _)
   | (with_reducible refine LeO.ite ?_ ?_)
   | (with_reducible refine LeO.bind ?_ (fun _ => ?_))
   | exact ih0 _ _ _ _ _ _ _
   | exact ih1 _ _ _ _ _ _ _
   | exact LeO.none _
   | refine LeO.ite ?_ ?_
   | refine LeO.bind ?_ (fun _ => ?_)
set_option maxHeartbeats 8000000 in
set_option maxRecDepth 100000 in
theorem gangsawref08_Same.calls (k : Nat) (A0_0 : Option Addr) (c0_0 : Nat) (l0_0 : List (S60)) (a0_1 : Int) (a0_2 : Int) (A1_0 : Option Addr) (c1_0 : Nat) (l1_0 : List (S60)) (a1_1 : Int) (a1_2 : Int) (r : Bool) (w : World) (hr0_0 : Kd.C k60 w A0_0 l0_0.length l0_0) (hc0_0 : l0_0.length ≤ c0_0) (hr1_0 : Kd.C k60 w A1_0 l1_0.length l1_0) (hc1_0 : l1_0.length ≤ c1_0) (h : gangsawref08_Same.f k l0_0 a0_1 a0_2 l1_0 a1_1 a1_2 = some r) :
  Calls Try.prog 31 #[.agg #[.slice A0_0 l0_0.length c0_0, .int .i64 a0_1, .int .i64 a0_2], .agg #[.slice A1_0 l1_0.length c1_0, .int .i64 a1_1, .int .i64 a1_2]] w fun e w' => e = .returned (.bool r) ∧ Below w.heap.size w w' := by
 have hu25 := Try.underlying25
 have hu60 := Try.underlying60
 have HR0_0 := Aside0.mk hr0_0
 have HC0_0 := Aside0.mk hc0_0
 clear hr0_0 hc0_0
 have HR1_0 := Aside0.mk hr1_0
 have HC1_0 := Aside0.mk hc1_0
 clear hr1_0 hc1_0
 have HB := Aside0.mk (Below.refl w.heap.size w)
 have H : (if a0_1 = a1_1 then (if a0_2 = a1_2 then (gangsawref08_Same.j0 k ((l0_0.length : Int) != (l1_0.length : Int)) l0_0 a0_1 a0_2 l1_0 a1_1 a1_2) else (gangsawref08_Same.j0 k true l0_0 a0_1 a0_2 l1_0 a1_1 a1_2)) else (gangsawref08_Same.j0 k true l0_0 a0_1 a0_2 l1_0 a1_1 a1_2)) = some r := h
 clear h
 have HC3 := Aside0.mk H
 clear H
 go_enter Try.func31, Try.ntmps31
 go_upto_region 1 with (first | ((with_reducible refine gate_dst (N := 2) rfl ?_); refine box_event ?hg (N := 2) ?hd (cs := #[.slice A0_0 l0_0.length c0_0, .int .i64 a0_1, .int .i64 a0_2]) (t := 25) ?hr ?_; (case hd => rfl); (case hg => first | rfl | (go_simp; done)); (case hr => first | (go_simp; done) | (go_simp; rfl)); intro gb514 hg w4 hbox hb; have BK514 := Aside0.mk (hbox); have GW514 := gw_ HB hg; have GE514 := gw_ HB hg; replace HB := hs_ HB hb; clear hb hbox hg) | ((with_reducible refine gate_dst (N := 3) rfl ?_); refine box_event ?hg (N := 3) ?hd (cs := #[.slice A1_0 l1_0.length c1_0, .int .i64 a1_1, .int .i64 a1_2]) (t := 25) ?hr ?_; (case hd => rfl); (case hg => first | rfl | (go_simp; done)); (case hr => first | (go_simp; done) | (go_simp; rfl)); intro gb515 hg w5 hbox hb; have BK515 := Aside0.mk (hbox); have GW515 := gw_ HB hg; have GE515 := gw_ HB hg; replace HB := hs_ HB hb; have NB514_515 := nl_ BK514 hg; have NB515_514 := nr_ BK514 hg; replace BK514 := bb_ BK514 hb; clear hb hbox hg))
 repeat (go_quiet (first | ((with_reducible refine gate_dst (N := 2) rfl ?_); refine box_event ?hg (N := 2) ?hd (cs := #[.slice A0_0 l0_0.length c0_0, .int .i64 a0_1, .int .i64 a0_2]) (t := 25) ?hr ?_; (case hd => rfl); (case hg => first | rfl | (go_simp; done)); (case hr => first | (go_simp; done) | (go_simp; rfl)); intro gb514 hg w4 hbox hb; have BK514 := Aside0.mk (hbox); have GW514 := gw_ HB hg; have GE514 := gw_ HB hg; replace HB := hs_ HB hb; clear hb hbox hg) | ((with_reducible refine gate_dst (N := 3) rfl ?_); refine box_event ?hg (N := 3) ?hd (cs := #[.slice A1_0 l1_0.length c1_0, .int .i64 a1_1, .int .i64 a1_2]) (t := 25) ?hr ?_; (case hd => rfl); (case hg => first | rfl | (go_simp; done)); (case hr => first | (go_simp; done) | (go_simp; rfl)); intro gb515 hg w5 hbox hb; have BK515 := Aside0.mk (hbox); have GW515 := gw_ HB hg; have GE515 := gw_ HB hg; replace HB := hs_ HB hb; have NB514_515 := nl_ BK514 hg; have NB515_514 := nr_ BK514 hg; replace BK514 := bb_ BK514 hb; clear hb hbox hg)); go_upto_region 1 with (first | ((with_reducible refine gate_dst (N := 2) rfl ?_); refine box_event ?hg (N := 2) ?hd (cs := #[.slice A0_0 l0_0.length c0_0, .int .i64 a0_1, .int .i64 a0_2]) (t := 25) ?hr ?_; (case hd => rfl); (case hg => first | rfl | (go_simp; done)); (case hr => first | (go_simp; done) | (go_simp; rfl)); intro gb514 hg w4 hbox hb; have BK514 := Aside0.mk (hbox); have GW514 := gw_ HB hg; have GE514 := gw_ HB hg; replace HB := hs_ HB hb; clear hb hbox hg) | ((with_reducible refine gate_dst (N := 3) rfl ?_); refine box_event ?hg (N := 3) ?hd (cs := #[.slice A1_0 l1_0.length c1_0, .int .i64 a1_1, .int .i64 a1_2]) (t := 25) ?hr ?_; (case hd => rfl); (case hg => first | rfl | (go_simp; done)); (case hr => first | (go_simp; done) | (go_simp; rfl)); intro gb515 hg w5 hbox hb; have BK515 := Aside0.mk (hbox); have GW515 := gw_ HB hg; have GE515 := gw_ HB hg; replace HB := hs_ HB hb; have NB514_515 := nl_ BK514 hg; have NB515_514 := nr_ BK514 hg; replace BK514 := bb_ BK514 hb; clear hb hbox hg)))
 (try simp only [Act.put, List.setIfInBounds_toArray, List.set_cons_zero, List.set_cons_succ])
 go_cut [26] (fun v26 wc => ∃ (kq : Nat) (x26_2 : Bool), v26 = .bool x26_2 ∧ Aside0 (gangsawref08_Same.j0 kq x26_2 l0_0 a0_1 a0_2 l1_0 a1_1 a1_2 = some r) ∧ Aside0 (kq ≤ k) ∧ Aside0 (wc.heap[gb514]? = some (.cells #[(.slice A0_0 l0_0.length c0_0), .int .i64 a0_1, .int .i64 a0_2] 25 (0, 0))) ∧ Aside0 (wc.heap[gb515]? = some (.cells #[(.slice A1_0 l1_0.length c1_0), .int .i64 a1_1, .int .i64 a1_2] 25 (0, 0))) ∧ Aside0 (Below w.heap.size w wc))
 case first =>
  (have H := HC3.out); (clear HC3); (by_cases c6 : a0_1 = a1_1)
  ·rw [if_pos c6] at H
   (have c6b0 := beq_iff_eq.mpr c6); (have c6b1 := bne_eq_false_iff_eq.mpr c6); (clear c6); ((first | rw [c6b0] | (simp only [i64_w, i32_w]; rw [c6b0]) | skip)); (by_cases c7 : a0_2 = a1_2)
   ·rw [if_pos c7] at H
    (have c7b0 := beq_iff_eq.mpr c7); (have c7b1 := bne_eq_false_iff_eq.mpr c7); (clear c7); (have H' := Aside0.mk H); (clear H); (have hnb8 := NB514_515.out); (have hnc8 := NB515_514.out); (obtain ⟨hcz9_0, hcz9_1, hcz9_2, hfz9_0, hfz9_1, hfz9_2⟩ := cz3_ BK514); (obtain ⟨hcz10_0, hcz10_1, hcz10_2, hfz10_0, hfz10_1, hfz10_2⟩ := cz3_ BK515); (go_wp2); (repeat (go_quiet (fail); try go_wp2)); (go_meet)
    case rel => exact ⟨_, (((l0_0.length : Int) != (l1_0.length : Int))), (by first | rfl | (simp; done) | (simp [*]; done)), H', ⟨by first | omega | exact Nat.le_refl _⟩, ⟨bk_ BK514⟩, ⟨bk_ BK515⟩, ⟨hb_ HB⟩⟩
   ·rw [if_neg c7] at H
    (have c7b0 := beq_eq_false_iff_ne.mpr c7); (have c7b1 := bne_iff_ne.mpr c7); (have H' := Aside0.mk H); (clear H); (have hnb11 := NB514_515.out); (have hnc11 := NB515_514.out); (obtain ⟨hcz12_0, hcz12_1, hcz12_2, hfz12_0, hfz12_1, hfz12_2⟩ := cz3_ BK514); (obtain ⟨hcz13_0, hcz13_1, hcz13_2, hfz13_0, hfz13_1, hfz13_2⟩ := cz3_ BK515); (go_wp2); (repeat (go_quiet (fail); try go_wp2)); (go_meet)
    case rel => exact ⟨_, (true), (by first | rfl | (simp; done) | (simp [*]; done)), H', ⟨by first | omega | exact Nat.le_refl _⟩, ⟨bk_ BK514⟩, ⟨bk_ BK515⟩, ⟨hb_ HB⟩⟩
  ·rw [if_neg c6] at H
   (have c6b0 := beq_eq_false_iff_ne.mpr c6); (have c6b1 := bne_iff_ne.mpr c6); ((first | rw [c6b0] | (simp only [i64_w, i32_w]; rw [c6b0]) | skip)); (have H' := Aside0.mk H); (clear H); (have hnb14 := NB514_515.out); (have hnc14 := NB515_514.out); (obtain ⟨hcz15_0, hcz15_1, hcz15_2, hfz15_0, hfz15_1, hfz15_2⟩ := cz3_ BK514); (obtain ⟨hcz16_0, hcz16_1, hcz16_2, hfz16_0, hfz16_1, hfz16_2⟩ := cz3_ BK515); (go_wp2); (repeat (go_quiet (fail); try go_wp2)); (go_meet)
   case rel => exact ⟨_, (true), (by first | rfl | (simp; done) | (simp [*]; done)), H', ⟨by first | omega | exact Nat.le_refl _⟩, ⟨bk_ BK514⟩, ⟨bk_ BK515⟩, ⟨hb_ HB⟩⟩
 case rest =>
  (clear HC3); (try clear c1); (try clear p2); (try clear c3); (try clear c6); (try clear c6b0); (try clear c6b1); (try clear c7); (try clear c7b0); (try clear c7b1); (try clear c8); (try clear c11); (try clear c14); (try clear hcz10_0); (try clear hcz10_1); (try clear hcz10_2); (try clear hcz12_0); (try clear hcz12_1); (try clear hcz12_2); (try clear hcz13_0); (try clear hcz13_1); (try clear hcz13_2); (try clear hcz15_0); (try clear hcz15_1); (try clear hcz15_2); (try clear hcz16_0); (try clear hcz16_1); (try clear hcz16_2); (try clear hcz9_0); (try clear hcz9_1); (try clear hcz9_2); (try clear hfz10_0); (try clear hfz10_1); (try clear hfz10_2); (try clear hfz12_0); (try clear hfz12_1); (try clear hfz12_2); (try clear hfz13_0); (try clear hfz13_1); (try clear hfz13_2); (try clear hfz15_0); (try clear hfz15_1); (try clear hfz15_2); (try clear hfz16_0); (try clear hfz16_1); (try clear hfz16_2); (try clear hfz9_0); (try clear hfz9_1); (try clear hfz9_2); (obtain ⟨kq, x26_2, rfl, HA, HJ2, BK514, BK515, HB⟩ := hcut)
  cases kq with
  | zero => exact absurd HA.out (by simp [gangsawref08_Same.j0])
  | succ kj2 =>
   (have H := HA.out); (clear HA); (simp only [gangsawref08_Same.j0] at H); (by_cases c17 : x26_2 = true)
   ·(subst c17); (have H1 : (some false) = some r := by rw [if_pos rfl] at H; exact H); (clear H); (have H := H1); (clear H1); (obtain rfl := Option.some.inj H); (go_wp2); (repeat (go_quiet (fail); try go_wp2)); (go_ret); (exact ⟨by first | rfl | (simp [errW_none, errW_some] <;> rfl) | (simp [*, errW_none, errW_some] <;> rfl), hb_ HB⟩)
   ·replace c17 := Bool.eq_false_iff.mpr c17
    (subst c17); (have H1 : (gangsawref08_Same.l0 kj2 0 l0_0 a0_1 a0_2 l1_0 a1_1 a1_2) = some r := by rw [if_neg (show ¬ (false = true) by decide)] at H; exact H); (clear H); (have H := H1); (clear H1); (have H' := Aside0.mk H); (clear H); (go_wp2); (repeat (go_quiet (fail); try go_wp2)); (go_loopg [5] kj2 (fun kq v5 w' => ∃ (x5_2 : Int), v5 = .int .i64 x5_2 ∧ Aside0 (gangsawref08_Same.l0 kq x5_2 l0_0 a0_1 a0_2 l1_0 a1_1 a1_2 = some r) ∧ Aside0 (kq ≤ kj2) ∧ Aside0 (w'.heap[gb514]? = some (.cells #[(.slice A0_0 l0_0.length c0_0), .int .i64 a0_1, .int .i64 a0_2] 25 (0, 0))) ∧ Aside0 (w'.heap[gb515]? = some (.cells #[(.slice A1_0 l1_0.length c1_0), .int .i64 a1_1, .int .i64 a1_2] 25 (0, 0))) ∧ Aside0 (Below w.heap.size w w')))
    case atStart => exact ⟨(0), (by first | rfl | (simp; done) | (simp [*]; done)), H', ⟨Nat.le_refl _⟩, ⟨bk_ BK514⟩, ⟨bk_ BK515⟩, ⟨hb_ HB⟩⟩
    case round =>
     (clear H'); (try clear c1); (try clear p2); (try clear c3); (try clear c6); (try clear c6b0); (try clear c6b1); (try clear c7); (try clear c7b0); (try clear c7b1); (try clear c8); (try clear c11); (try clear c14); (try clear c17); (try clear hcz10_0); (try clear hcz10_1); (try clear hcz10_2); (try clear hcz12_0); (try clear hcz12_1); (try clear hcz12_2); (try clear hcz13_0); (try clear hcz13_1); (try clear hcz13_2); (try clear hcz15_0); (try clear hcz15_1); (try clear hcz15_2); (try clear hcz16_0); (try clear hcz16_1); (try clear hcz16_2); (try clear hcz9_0); (try clear hcz9_1); (try clear hcz9_2); (try clear hfz10_0); (try clear hfz10_1); (try clear hfz10_2); (try clear hfz12_0); (try clear hfz12_1); (try clear hfz12_2); (try clear hfz13_0); (try clear hfz13_1); (try clear hfz13_2); (try clear hfz15_0); (try clear hfz15_1); (try clear hfz15_2); (try clear hfz16_0); (try clear hfz16_1); (try clear hfz16_2); (try clear hfz9_0); (try clear hfz9_1); (try clear hfz9_2); (try clear p2); (obtain ⟨x5_2, rfl, HA, HK2, BK514, BK515, HB⟩ := hrel)
     cases gk with
     | zero => exact absurd HA.out (by simp [gangsawref08_Same.l0])
     | succ k2 =>
      (have H := HA.out); (clear HA); (simp only [gangsawref08_Same.l0] at H); (by_cases c18 : x5_2 < (l0_0.length : Int))
      ·rw [if_pos c18] at H
       (have c18b0 := decide_eq_true c18); (clear c18); (by_cases c19 : 0 ≤ x5_2)
       ·rw [if_pos c19] at H
        (have c19b0 := decide_eq_true c19); (clear c19); (by_cases c20 : x5_2 < (l1_0.length : Int))
        ·rw [if_pos c20] at H
         (have c20b0 := decide_eq_true c20); (clear c20); (by_cases c21 : (!(((rd_T60 l0_0 x5_2).f0) == ((rd_T60 l1_0 x5_2).f0)) || (!(((rd_T60 l0_0 x5_2).f1) == ((rd_T60 l1_0 x5_2).f1)))) = true)
         ·rw [if_pos c21] at H
          (have c21b0 : (!(((rd_T60 l0_0 x5_2).f0) == ((rd_T60 l1_0 x5_2).f0)) || (!(((rd_T60 l0_0 x5_2).f1) == ((rd_T60 l1_0 x5_2).f1)))) = true := c21); (clear c21); (obtain rfl := Option.some.inj H); (have hnb22 := NB514_515.out); (have hnc22 := NB515_514.out); (obtain ⟨hcz23_0, hcz23_1, hcz23_2, hfz23_0, hfz23_1, hfz23_2⟩ := cz3_ BK514); (have p516 : 0 ≤ (x5_2 : Int) := of_decide_eq_true (by first | (with_reducible assumption) | assumption)); (have q516 : x5_2 < (l0_0.length : Int) := of_decide_eq_true (by first | (with_reducible assumption) | assumption)); (obtain ⟨ad516, e516, hx516_0, hx516_1⟩ := at_T60 HR0_0.out x5_2 p516 q516); (cases e516); (replace hx516_0 := (HB.out.cell (World.block_lt_of_cell? w _ hx516_0)).trans hx516_0); (replace hx516_1 := (HB.out.cell (World.block_lt_of_cell? w _ hx516_1)).trans hx516_1); (replace p516 := eq_true p516); (replace q516 := eq_true q516); (obtain ⟨hcz24_0, hcz24_1, hcz24_2, hfz24_0, hfz24_1, hfz24_2⟩ := cz3_ BK515); (have p517 : 0 ≤ (x5_2 : Int) := of_decide_eq_true (by first | (with_reducible assumption) | assumption)); (have q517 : x5_2 < (l1_0.length : Int) := of_decide_eq_true (by first | (with_reducible assumption) | assumption)); (obtain ⟨ad517, e517, hx517_0, hx517_1⟩ := at_T60 HR1_0.out x5_2 p517 q517); (cases e517); (replace hx517_0 := (HB.out.cell (World.block_lt_of_cell? w _ hx517_0)).trans hx517_0); (replace hx517_1 := (HB.out.cell (World.block_lt_of_cell? w _ hx517_1)).trans hx517_1); (replace p517 := eq_true p517); (replace q517 := eq_true q517); (go_wp2); (repeat (go_quiet (fail); try go_wp2)); (go_ret); (exact ⟨by first | rfl | (simp [errW_none, errW_some] <;> rfl) | (simp [*, errW_none, errW_some] <;> rfl), hb_ HB⟩)
         ·rw [if_neg c21] at H
          (have c21b0 : (!(((rd_T60 l0_0 x5_2).f0) == ((rd_T60 l1_0 x5_2).f0)) || (!(((rd_T60 l0_0 x5_2).f1) == ((rd_T60 l1_0 x5_2).f1)))) = false := by simpa using c21); (clear c21); (have H' := Aside0.mk H); (clear H); (have hnb25 := NB514_515.out); (have hnc25 := NB515_514.out); (obtain ⟨hcz26_0, hcz26_1, hcz26_2, hfz26_0, hfz26_1, hfz26_2⟩ := cz3_ BK514); (have p516 : 0 ≤ (x5_2 : Int) := of_decide_eq_true (by first | (with_reducible assumption) | assumption)); (have q516 : x5_2 < (l0_0.length : Int) := of_decide_eq_true (by first | (with_reducible assumption) | assumption)); (obtain ⟨ad516, e516, hx516_0, hx516_1⟩ := at_T60 HR0_0.out x5_2 p516 q516); (cases e516); (replace hx516_0 := (HB.out.cell (World.block_lt_of_cell? w _ hx516_0)).trans hx516_0); (replace hx516_1 := (HB.out.cell (World.block_lt_of_cell? w _ hx516_1)).trans hx516_1); (replace p516 := eq_true p516); (replace q516 := eq_true q516); (obtain ⟨hcz27_0, hcz27_1, hcz27_2, hfz27_0, hfz27_1, hfz27_2⟩ := cz3_ BK515); (have p517 : 0 ≤ (x5_2 : Int) := of_decide_eq_true (by first | (with_reducible assumption) | assumption)); (have q517 : x5_2 < (l1_0.length : Int) := of_decide_eq_true (by first | (with_reducible assumption) | assumption)); (obtain ⟨ad517, e517, hx517_0, hx517_1⟩ := at_T60 HR1_0.out x5_2 p517 q517); (cases e517); (replace hx517_0 := (HB.out.cell (World.block_lt_of_cell? w _ hx517_0)).trans hx517_0); (replace hx517_1 := (HB.out.cell (World.block_lt_of_cell? w _ hx517_1)).trans hx517_1); (replace p517 := eq_true p517); (replace q517 := eq_true q517); (go_wp2); (repeat (go_quiet (fail); try go_wp2)); (go_roundg k2)
          case measure => have := HJ2.out; have := HK2.out; omega
          case rel => exact ⟨(wrap64 (x5_2 + 1)), (by first | rfl | (simp; done) | (simp [*]; done)), H', ⟨by have := HJ2.out; have := HK2.out; omega⟩, ⟨bk_ BK514⟩, ⟨bk_ BK515⟩, ⟨hb_ HB⟩⟩
        ·(rw [if_neg c20] at H); (exact absurd H (by simp))
       ·(rw [if_neg c19] at H); (exact absurd H (by simp))
      ·(rw [if_neg c18] at H); (have c18b0 := decide_eq_false c18); (clear c18); (obtain rfl := Option.some.inj H); (have hnb28 := NB514_515.out); (have hnc28 := NB515_514.out); (obtain ⟨hcz29_0, hcz29_1, hcz29_2, hfz29_0, hfz29_1, hfz29_2⟩ := cz3_ BK514); (go_wp2); (repeat (go_quiet (fail); try go_wp2)); (go_ret); (exact ⟨by first | rfl | (simp [errW_none, errW_some] <;> rfl) | (simp [*, errW_none, errW_some] <;> rfl), hb_ HB⟩)

end Go.Proofs.Ythogemdknlpnpaa.XA
