-- written by xprint.py, this project's own program (wip/), over the words of print.sh
import Derived.Test.YthogemdknlpnpaaXAx0
import Derived.Test.YthogemdknlpnpaaXAx20
import Derived.Test.YthogemdknlpnpaaXAx21
import Derived.Test.YthogemdknlpnpaaFlat
namespace Go.Proofs.Ythogemdknlpnpaa.XA
open Go.Proofs.Ythogemdknlpnpaa.Flat Go.RowKit Go.Proofs.Ythogemdknlpnpaa.Opens Go.Proofs.YthogemdknlpnpaaW.PrintWords Go.Proofs.YthogemdknlpnpaaW.PrintLast Go.Proofs.YthogemdknlpnpaaW.PrintMore
attribute [local go_sem] max2_int min2_int max_two min_two max_three min_three max_four min_four cell_some cell_same   -- for this text's walks alone
set_option linter.unusedVariables false
set_option linter.unusedSimpArgs false

/-! ### gangsawref08_Check: function 11 -/
mutual
def gangsawref08_Check.l0 : Nat → Int → List (S60) → Int → Int → Option (Int)
 | 0, _, _, _, _ => none
 | k + 1, x3, x258000, x258001, x258002 => if x3 < (x258000.length : Int) then (if 0 ≤ x3 then ((gangsawref08_near.f ((rd_T60 x258000 x3).f0)).bind fun t259 => (if t259 = true then ((gangsawref08_near.f ((rd_T60 x258000 x3).f1)).bind fun t261 => (if t261 = true then (gangsawref08_Check.l0 k (wrap64 (x3 + 1)) x258000 x258001 x258002) else (some 6))) else (some 6))) else (none)) else ((gangsawref08_near.f x258001).bind fun t262 => (if t262 = true then ((gangsawref08_near.f x258002).bind fun t263 => (gangsawref08_Check.j1 k (!t263) x258000 x258001 x258002)) else (gangsawref08_Check.j1 k true x258000 x258001 x258002)))
def gangsawref08_Check.j1 : Nat → Bool → List (S60) → Int → Int → Option (Int)
 | 0, _, _, _, _ => none
 | k + 1, x46, x258000, x258001, x258002 => if x46 = true then (some 6) else (if x258001 ≥ x258002 then (some 1) else ((gangsawref08_convex.f k x258000).bind fun t264 => (if t264 = true then (some 0) else (some 1))))
end
def gangsawref08_Check.f (k : Nat) (l0_0 : List (S60)) (a0_1 : Int) (a0_2 : Int) : Option (Int) := if (l0_0.length : Int) > 64 then (some 7) else (if (l0_0.length : Int) < 3 then (some 1) else (gangsawref08_Check.l0 k 0 l0_0 a0_1 a0_2))
theorem gangsawref08_Check.mono_l : ∀ k, (∀ y0 y1 y2 y3, LeO (gangsawref08_Check.l0 k y0 y1 y2 y3) (gangsawref08_Check.l0 (k + 1) y0 y1 y2 y3)) ∧ (∀ y0 y1 y2 y3, LeO (gangsawref08_Check.j1 k y0 y1 y2 y3) (gangsawref08_Check.j1 (k + 1) y0 y1 y2 y3))
 | 0 => ⟨fun _ _ _ _ r h => by simp [gangsawref08_Check.l0] at h, fun _ _ _ _ r h => by simp [gangsawref08_Check.j1] at h⟩
 | k + 1 => by
  (obtain ⟨ih0, ih1⟩ := gangsawref08_Check.mono_l k); (refine ⟨?_, ?_⟩)
  ·intro y0 y1 y2 y3
   unfold gangsawref08_Check.l0
   repeat' first
   | (with_reducible exact ih0 _ _ _ _)
   | (with_reducible exact ih1 _ _ _ _)
   | (with_reducible exact gangsawref08_convex.mono _ _)
   | (with_reducible exact LeO.refl _)
   | (with_reducible exact LeO.none _)
   | (with_reducible refine LeO.ite ?_ ?_)
   | (with_reducible refine LeO.bind ?_ (fun _ => ?_))
   | exact ih0 _ _ _ _
   | exact ih1 _ _ _ _
   | exact gangsawref08_convex.mono _ _
   | exact LeO.none _
   | refine LeO.ite ?_ ?_
   | refine LeO.bind ?_ (fun _ => ?_)
  ·intro y0 y1 y2 y3
   unfold gangsawref08_Check.j1
   repeat' first
   | (with_reducible exact ih0 _ _ _ _)
   | (with_reducible exact ih1 _ _ _ _)
   | (with_reducible exact gangsawref08_convex.mono _ _)
   | (with_reducible exact LeO.refl _)
   | (with_reducible exact LeO.none _)
   | (with_reducible refine LeO.ite ?_ ?_)
   | (with_reducible refine LeO.bind ?_ (fun _ => ?_))
   | exact ih0 _ _ _ _
   | exact ih1 _ _ _ _
   | exact gangsawref08_convex.mono _ _
   | exact LeO.none _
   | refine LeO.ite ?_ ?_
   | refine LeO.bind ?_ (fun _ => ?_)
theorem gangsawref08_Check.mono : ∀ a0 a1 a2 k, LeO (gangsawref08_Check.f k a0 a1 a2) (gangsawref08_Check.f (k + 1) a0 a1 a2) := by
 intro a0 a1 a2 k
 obtain ⟨ih0, ih1⟩ := gangsawref08_Check.mono_l k
 unfold gangsawref08_Check.f
 repeat' first
   | (with_reducible exact ih0 _ _ _ _)
   | (with_reducible exact ih1 _ _ _ _)
   | (with_reducible exact gangsawref08_convex.mono _ _)
   | (with_reducible exact LeO.refl _)
   | (with_reducible exact LeO.none _)
   | (with_reducible refine LeO.ite ?_ ?_)
   | (with_reducible refine LeO.bind ?_ (fun _ => ?_))
   | exact ih0 _ _ _ _
   | exact ih1 _ _ _ _
   | exact gangsawref08_convex.mono _ _
   | exact LeO.none _
   | refine LeO.ite ?_ ?_
   | refine LeO.bind ?_ (fun _ => ?_)
set_option maxHeartbeats 8000000 in
set_option maxRecDepth 100000 in
theorem gangsawref08_Check.calls (k : Nat) (A0_0 : Option Addr) (c0_0 : Nat) (l0_0 : List (S60)) (a0_1 : Int) (a0_2 : Int) (r : Int) (w : World) (hr0_0 : Kd.C k60 w A0_0 l0_0.length l0_0) (hc0_0 : l0_0.length ≤ c0_0) (h : gangsawref08_Check.f k l0_0 a0_1 a0_2 = some r) :
  Calls Try.prog 11 #[.agg #[.slice A0_0 l0_0.length c0_0, .int .i64 a0_1, .int .i64 a0_2]] w fun e w' => e = .returned (.int .i64 r) ∧ Below w.heap.size w w' := by
 have hu25 := Try.underlying25
 have HR0_0 := Aside0.mk hr0_0
 have HC0_0 := Aside0.mk hc0_0
 clear hr0_0 hc0_0
 have HB := Aside0.mk (Below.refl w.heap.size w)
 have H : (if (l0_0.length : Int) > 64 then (some 7) else (if (l0_0.length : Int) < 3 then (some 1) else (gangsawref08_Check.l0 k 0 l0_0 a0_1 a0_2))) = some r := h
 clear h
 by_cases c2 : (l0_0.length : Int) > 64
 ·rw [if_pos c2] at H
  (have c2b0 := decide_eq_true c2); (have c2b1 : decide (64 < l0_0.length) = true := decide_eq_true (by omega)); (clear c2); (obtain rfl := Option.some.inj H); (go_enter Try.func11, Try.ntmps11); (go_wp2_with (first | ((with_reducible refine gate_dst (N := 1) rfl ?_); refine box_event ?hg (N := 1) ?hd (cs := #[.slice A0_0 l0_0.length c0_0, .int .i64 a0_1, .int .i64 a0_2]) (t := 25) ?hr ?_; (case hd => rfl); (case hg => first | rfl | (go_simp; done)); (case hr => first | (go_simp; done) | (go_simp; rfl)); intro gb257 hg w3 hbox hb; have BK257 := Aside0.mk (hbox); have GW257 := gw_ HB hg; have GE257 := gw_ HB hg; replace HB := hs_ HB hb; clear hb hbox hg; obtain ⟨hcz4_0, hcz4_1, hcz4_2, hfz4_0, hfz4_1, hfz4_2⟩ := cz3_ BK257))); (go_ret); (exact ⟨by first | rfl | (simp [errW_none, errW_some] <;> rfl) | (simp [*, errW_none, errW_some] <;> rfl), hb_ HB⟩)
 ·rw [if_neg c2] at H
  (have c2b0 := decide_eq_false c2); (have c2b1 : decide (64 < l0_0.length) = false := decide_eq_false (by omega)); (clear c2); (by_cases c5 : (l0_0.length : Int) < 3)
  ·(rw [if_pos c5] at H); (have c5b0 := decide_eq_true c5); (have c5b1 : decide (l0_0.length < 3) = true := decide_eq_true (by omega)); (clear c5); (obtain rfl := Option.some.inj H); (go_enter Try.func11, Try.ntmps11); (go_wp2_with (first | ((with_reducible refine gate_dst (N := 1) rfl ?_); refine box_event ?hg (N := 1) ?hd (cs := #[.slice A0_0 l0_0.length c0_0, .int .i64 a0_1, .int .i64 a0_2]) (t := 25) ?hr ?_; (case hd => rfl); (case hg => first | rfl | (go_simp; done)); (case hr => first | (go_simp; done) | (go_simp; rfl)); intro gb257 hg w6 hbox hb; have BK257 := Aside0.mk (hbox); have GW257 := gw_ HB hg; have GE257 := gw_ HB hg; replace HB := hs_ HB hb; clear hb hbox hg; obtain ⟨hcz7_0, hcz7_1, hcz7_2, hfz7_0, hfz7_1, hfz7_2⟩ := cz3_ BK257))); (go_ret); (exact ⟨by first | rfl | (simp [errW_none, errW_some] <;> rfl) | (simp [*, errW_none, errW_some] <;> rfl), hb_ HB⟩)
  ·rw [if_neg c5] at H
   (have c5b0 := decide_eq_false c5); (have c5b1 : decide (l0_0.length < 3) = false := decide_eq_false (by omega)); (clear c5); (have H' := Aside0.mk H); (clear H); (go_enter Try.func11, Try.ntmps11); (go_wp2_with (first | ((with_reducible refine gate_dst (N := 1) rfl ?_); refine box_event ?hg (N := 1) ?hd (cs := #[.slice A0_0 l0_0.length c0_0, .int .i64 a0_1, .int .i64 a0_2]) (t := 25) ?hr ?_; (case hd => rfl); (case hg => first | rfl | (go_simp; done)); (case hr => first | (go_simp; done) | (go_simp; rfl)); intro gb257 hg w8 hbox hb; have BK257 := Aside0.mk (hbox); have GW257 := gw_ HB hg; have GE257 := gw_ HB hg; replace HB := hs_ HB hb; clear hb hbox hg; obtain ⟨hcz9_0, hcz9_1, hcz9_2, hfz9_0, hfz9_1, hfz9_2⟩ := cz3_ BK257))); (go_loopg [3] k (fun kq v3 w' => ∃ (x3_1 : Int), v3 = .int .i64 x3_1 ∧ Aside0 (gangsawref08_Check.l0 kq x3_1 l0_0 a0_1 a0_2 = some r) ∧ Aside0 (kq ≤ k) ∧ Aside0 (w'.heap[gb257]? = some (.cells #[(.slice A0_0 l0_0.length c0_0), .int .i64 a0_1, .int .i64 a0_2] 25 (0, 0))) ∧ Aside0 (Below w.heap.size w w')))
   case atStart => exact ⟨(0), (by first | rfl | (simp; done) | (simp [*]; done)), H', ⟨Nat.le_refl _⟩, ⟨bk_ BK257⟩, ⟨hb_ HB⟩⟩
   case round =>
    (clear H'); (try clear c1); (try clear c2); (try clear c2b0); (try clear c2b1); (try clear p2); (try clear c5); (try clear c5b0); (try clear c5b1); (try clear hcz4_0); (try clear hcz4_1); (try clear hcz4_2); (try clear hcz7_0); (try clear hcz7_1); (try clear hcz7_2); (try clear hcz9_0); (try clear hcz9_1); (try clear hcz9_2); (try clear hfz4_0); (try clear hfz4_1); (try clear hfz4_2); (try clear hfz7_0); (try clear hfz7_1); (try clear hfz7_2); (try clear hfz9_0); (try clear hfz9_1); (try clear hfz9_2); (obtain ⟨x3_1, rfl, HA, HK1, BK257, HB⟩ := hrel)
    cases gk with
    | zero => exact absurd HA.out (by simp [gangsawref08_Check.l0])
    | succ k1 =>
     (have H := HA.out); (clear HA); (simp only [gangsawref08_Check.l0] at H); (by_cases c10 : x3_1 < (l0_0.length : Int))
     ·rw [if_pos c10] at H
      (have c10b0 := decide_eq_true c10); (clear c10); (by_cases c11 : 0 ≤ x3_1)
      ·rw [if_pos c11] at H
       (have c11b0 := decide_eq_true c11); (clear c11); (replace H := Option.bind_eq_some_iff.mp H); (obtain ⟨t259, A120, H⟩ := H); (replace H : (if t259 = true then ((gangsawref08_near.f ((rd_T60 l0_0 x3_1).f1)).bind fun t261 => (if t261 = true then (gangsawref08_Check.l0 k1 (wrap64 (x3_1 + 1)) l0_0 a0_1 a0_2) else (some 6))) else (some 6)) = some r := H); (have A12 := Aside0.mk A120); (clear A120); (by_cases c13 : t259 = true)
       ·subst c13
        (have H1 : ((gangsawref08_near.f ((rd_T60 l0_0 x3_1).f1)).bind fun t261 => (if t261 = true then (gangsawref08_Check.l0 k1 (wrap64 (x3_1 + 1)) l0_0 a0_1 a0_2) else (some 6))) = some r := by rw [if_pos rfl] at H; exact H); (clear H); (have H := H1); (clear H1); (replace H := Option.bind_eq_some_iff.mp H); (obtain ⟨t261, A140, H⟩ := H); (replace H : (if t261 = true then (gangsawref08_Check.l0 k1 (wrap64 (x3_1 + 1)) l0_0 a0_1 a0_2) else (some 6)) = some r := H); (have A14 := Aside0.mk A140); (clear A140); (by_cases c15 : t261 = true)
        ·subst c15
         (have H1 : (gangsawref08_Check.l0 k1 (wrap64 (x3_1 + 1)) l0_0 a0_1 a0_2) = some r := by rw [if_pos rfl] at H; exact H); (clear H); (have H := H1); (clear H1); (have H' := Aside0.mk H); (clear H); (obtain ⟨hcz16_0, hcz16_1, hcz16_2, hfz16_0, hfz16_1, hfz16_2⟩ := cz3_ BK257); (have p258 : 0 ≤ (x3_1 : Int) := of_decide_eq_true (by first | (with_reducible assumption) | assumption)); (have q258 : x3_1 < (l0_0.length : Int) := of_decide_eq_true (by first | (with_reducible assumption) | assumption)); (obtain ⟨ad258, e258, hx258_0, hx258_1⟩ := at_T60 HR0_0.out x3_1 p258 q258); (cases e258); (replace hx258_0 := (HB.out.cell (World.block_lt_of_cell? w _ hx258_0)).trans hx258_0); (replace hx258_1 := (HB.out.cell (World.block_lt_of_cell? w _ hx258_1)).trans hx258_1); (replace p258 := eq_true p258); (replace q258 := eq_true q258); (go_wp2_with (first | ((with_reducible refine gate_callee (f := 34) rfl ?_); refine goesL_ (some 25) rfl rfl Try.func34 (by kernel_rfl) rfl #[.int .i64 ((rd_T60 l0_0 x3_1).f0)] rfl (by (try simp only [List.map_toArray, List.map_cons, List.map_nil]); first | done | rfl | (simp only [List.length_drop, List.length_take]; rfl)) ?_; (with_reducible refine (gangsawref08_near.calls ((rd_T60 l0_0 x3_1).f0) true _ A12.out).mono ?_); rintro e w' ⟨rfl, ⟨nd, rfl⟩⟩; refine ⟨_, rfl, ?_⟩; have p260 : 0 ≤ (x3_1 : Int) := of_decide_eq_true (by first | (with_reducible assumption) | assumption); have q260 : x3_1 < (l0_0.length : Int) := of_decide_eq_true (by first | (with_reducible assumption) | assumption); obtain ⟨ad260, e260, hx260_0, hx260_1⟩ := at_T60 HR0_0.out x3_1 p260 q260; obtain rfl : ad258 = ad260 := (by injection e260); replace hx260_0 := (HB.out.cell (World.block_lt_of_cell? w _ hx260_0)).trans hx260_0; replace hx260_1 := (HB.out.cell (World.block_lt_of_cell? w _ hx260_1)).trans hx260_1; replace p260 := eq_true p260; replace q260 := eq_true q260) | (go_at_call 34; (with_reducible refine (gangsawref08_near.calls ((rd_T60 l0_0 x3_1).f1) true _ A14.out).mono ?_); rintro e w' ⟨rfl, ⟨nd, rfl⟩⟩))); (go_roundg k1)
         case measure => have := HK1.out; omega
         case rel => exact ⟨(wrap64 (x3_1 + 1)), (by first | rfl | (simp; done) | (simp [*]; done)), H', ⟨by have := HK1.out; omega⟩, ⟨bk_ BK257⟩, ⟨hb_ HB⟩⟩
        ·replace c15 := Bool.eq_false_iff.mpr c15
         (subst c15); (have H1 : (some 6) = some r := by rw [if_neg (show ¬ (false = true) by decide)] at H; exact H); (clear H); (have H := H1); (clear H1); (obtain rfl := Option.some.inj H); (obtain ⟨hcz17_0, hcz17_1, hcz17_2, hfz17_0, hfz17_1, hfz17_2⟩ := cz3_ BK257); (have p258 : 0 ≤ (x3_1 : Int) := of_decide_eq_true (by first | (with_reducible assumption) | assumption)); (have q258 : x3_1 < (l0_0.length : Int) := of_decide_eq_true (by first | (with_reducible assumption) | assumption)); (obtain ⟨ad258, e258, hx258_0, hx258_1⟩ := at_T60 HR0_0.out x3_1 p258 q258); (cases e258); (replace hx258_0 := (HB.out.cell (World.block_lt_of_cell? w _ hx258_0)).trans hx258_0); (replace hx258_1 := (HB.out.cell (World.block_lt_of_cell? w _ hx258_1)).trans hx258_1); (replace p258 := eq_true p258); (replace q258 := eq_true q258); (go_wp2_with (first | ((with_reducible refine gate_callee (f := 34) rfl ?_); refine goesL_ (some 25) rfl rfl Try.func34 (by kernel_rfl) rfl #[.int .i64 ((rd_T60 l0_0 x3_1).f0)] rfl (by (try simp only [List.map_toArray, List.map_cons, List.map_nil]); first | done | rfl | (simp only [List.length_drop, List.length_take]; rfl)) ?_; (with_reducible refine (gangsawref08_near.calls ((rd_T60 l0_0 x3_1).f0) true _ A12.out).mono ?_); rintro e w' ⟨rfl, ⟨nd, rfl⟩⟩; refine ⟨_, rfl, ?_⟩; have p260 : 0 ≤ (x3_1 : Int) := of_decide_eq_true (by first | (with_reducible assumption) | assumption); have q260 : x3_1 < (l0_0.length : Int) := of_decide_eq_true (by first | (with_reducible assumption) | assumption); obtain ⟨ad260, e260, hx260_0, hx260_1⟩ := at_T60 HR0_0.out x3_1 p260 q260; obtain rfl : ad258 = ad260 := (by injection e260); replace hx260_0 := (HB.out.cell (World.block_lt_of_cell? w _ hx260_0)).trans hx260_0; replace hx260_1 := (HB.out.cell (World.block_lt_of_cell? w _ hx260_1)).trans hx260_1; replace p260 := eq_true p260; replace q260 := eq_true q260) | (go_at_call 34; (with_reducible refine (gangsawref08_near.calls ((rd_T60 l0_0 x3_1).f1) false _ A14.out).mono ?_); rintro e w' ⟨rfl, ⟨nd, rfl⟩⟩))); (go_ret); (exact ⟨by first | rfl | (simp [errW_none, errW_some] <;> rfl) | (simp [*, errW_none, errW_some] <;> rfl), hb_ HB⟩)
       ·(replace c13 := Bool.eq_false_iff.mpr c13); (subst c13); (have H1 : (some 6) = some r := by rw [if_neg (show ¬ (false = true) by decide)] at H; exact H); (clear H); (have H := H1); (clear H1); (obtain rfl := Option.some.inj H); (obtain ⟨hcz18_0, hcz18_1, hcz18_2, hfz18_0, hfz18_1, hfz18_2⟩ := cz3_ BK257); (have p258 : 0 ≤ (x3_1 : Int) := of_decide_eq_true (by first | (with_reducible assumption) | assumption)); (have q258 : x3_1 < (l0_0.length : Int) := of_decide_eq_true (by first | (with_reducible assumption) | assumption)); (obtain ⟨ad258, e258, hx258_0, hx258_1⟩ := at_T60 HR0_0.out x3_1 p258 q258); (cases e258); (replace hx258_0 := (HB.out.cell (World.block_lt_of_cell? w _ hx258_0)).trans hx258_0); (replace hx258_1 := (HB.out.cell (World.block_lt_of_cell? w _ hx258_1)).trans hx258_1); (replace p258 := eq_true p258); (replace q258 := eq_true q258); (go_wp2_with (first | ((with_reducible refine gate_callee (f := 34) rfl ?_); refine goesL_ (some 25) rfl rfl Try.func34 (by kernel_rfl) rfl #[.int .i64 ((rd_T60 l0_0 x3_1).f0)] rfl (by (try simp only [List.map_toArray, List.map_cons, List.map_nil]); first | done | rfl | (simp only [List.length_drop, List.length_take]; rfl)) ?_; (with_reducible refine (gangsawref08_near.calls ((rd_T60 l0_0 x3_1).f0) false _ A12.out).mono ?_); rintro e w' ⟨rfl, ⟨nd, rfl⟩⟩; refine ⟨_, rfl, ?_⟩))); (go_ret); (exact ⟨by first | rfl | (simp [errW_none, errW_some] <;> rfl) | (simp [*, errW_none, errW_some] <;> rfl), hb_ HB⟩)
      ·(rw [if_neg c11] at H); (exact absurd H (by simp))
     ·rw [if_neg c10] at H
      (have c10b0 := decide_eq_false c10); (clear c10); (have HC19 := Aside0.mk H); (clear H); (obtain ⟨hcz20_0, hcz20_1, hcz20_2, hfz20_0, hfz20_1, hfz20_2⟩ := cz3_ BK257); (go_upto_region 10 with (fail)); (go_cut [46] (fun v46 wc => ∃ (kq : Nat) (x46_18 : Bool), v46 = .bool x46_18 ∧ Aside0 (gangsawref08_Check.j1 kq x46_18 l0_0 a0_1 a0_2 = some r) ∧ Aside0 (kq ≤ k1) ∧ Aside0 (wc.heap[gb257]? = some (.cells #[(.slice A0_0 l0_0.length c0_0), .int .i64 a0_1, .int .i64 a0_2] 25 (0, 0))) ∧ Aside0 (Below w.heap.size w wc)))
      case first =>
       (have H := HC19.out); (clear HC19); (replace H := Option.bind_eq_some_iff.mp H); (obtain ⟨t262, A210, H⟩ := H); (replace H : (if t262 = true then ((gangsawref08_near.f a0_2).bind fun t263 => (gangsawref08_Check.j1 k1 (!t263) l0_0 a0_1 a0_2)) else (gangsawref08_Check.j1 k1 true l0_0 a0_1 a0_2)) = some r := H); (have A21 := Aside0.mk A210); (clear A210); (by_cases c22 : t262 = true)
       ·subst c22
        (have H1 : ((gangsawref08_near.f a0_2).bind fun t263 => (gangsawref08_Check.j1 k1 (!t263) l0_0 a0_1 a0_2)) = some r := by rw [if_pos rfl] at H; exact H); (clear H); (have H := H1); (clear H1); (replace H := Option.bind_eq_some_iff.mp H); (obtain ⟨t263, A230, H⟩ := H); (replace H : (gangsawref08_Check.j1 k1 (!t263) l0_0 a0_1 a0_2) = some r := H); (have A23 := Aside0.mk A230); (clear A230); (have H' := Aside0.mk H); (clear H); (obtain ⟨hcz24_0, hcz24_1, hcz24_2, hfz24_0, hfz24_1, hfz24_2⟩ := cz3_ BK257); (go_wp2_with (first | ((with_reducible refine gate_callee (f := 34) rfl ?_); refine goesL_ (some 39) rfl rfl Try.func34 (by kernel_rfl) rfl #[.int .i64 a0_1] rfl (by (try simp only [List.map_toArray, List.map_cons, List.map_nil]); first | done | rfl | (simp only [List.length_drop, List.length_take]; rfl)) ?_; (with_reducible refine (gangsawref08_near.calls a0_1 true _ A21.out).mono ?_); rintro e w' ⟨rfl, ⟨nd, rfl⟩⟩; refine ⟨_, rfl, ?_⟩) | (go_at_call 34; (with_reducible refine (gangsawref08_near.calls a0_2 t263 _ A23.out).mono ?_); rintro e w' ⟨rfl, ⟨nd, rfl⟩⟩))); (go_meet)
        case rel => exact ⟨_, (!t263), (by first | rfl | (simp; done) | (simp [*]; done)), H', ⟨by have := HK1.out; first | omega | exact Nat.le_refl _⟩, ⟨bk_ BK257⟩, ⟨hb_ HB⟩⟩
       ·replace c22 := Bool.eq_false_iff.mpr c22
        (subst c22); (have H1 : (gangsawref08_Check.j1 k1 true l0_0 a0_1 a0_2) = some r := by rw [if_neg (show ¬ (false = true) by decide)] at H; exact H); (clear H); (have H := H1); (clear H1); (have H' := Aside0.mk H); (clear H); (obtain ⟨hcz25_0, hcz25_1, hcz25_2, hfz25_0, hfz25_1, hfz25_2⟩ := cz3_ BK257); (go_wp2_with (first | ((with_reducible refine gate_callee (f := 34) rfl ?_); refine goesL_ (some 39) rfl rfl Try.func34 (by kernel_rfl) rfl #[.int .i64 a0_1] rfl (by (try simp only [List.map_toArray, List.map_cons, List.map_nil]); first | done | rfl | (simp only [List.length_drop, List.length_take]; rfl)) ?_; (with_reducible refine (gangsawref08_near.calls a0_1 false _ A21.out).mono ?_); rintro e w' ⟨rfl, ⟨nd, rfl⟩⟩; refine ⟨_, rfl, ?_⟩))); (go_meet)
        case rel => exact ⟨_, (true), (by first | rfl | (simp; done) | (simp [*]; done)), H', ⟨by have := HK1.out; first | omega | exact Nat.le_refl _⟩, ⟨bk_ BK257⟩, ⟨hb_ HB⟩⟩
      case rest =>
       (clear HC19); (try clear c1); (try clear c2); (try clear c2b0); (try clear c2b1); (try clear p2); (try clear q2); (try clear hx2); (try clear c3); (try clear c5); (try clear c5b0); (try clear c5b1); (try clear p6); (try clear c10); (try clear c10b0); (try clear c11); (try clear c11b0); (try clear c13); (try clear c15); (try clear c22); (try clear p25); (try clear q25); (try clear hx25); (try clear hcz16_0); (try clear hcz16_1); (try clear hcz16_2); (try clear hcz17_0); (try clear hcz17_1); (try clear hcz17_2); (try clear hcz18_0); (try clear hcz18_1); (try clear hcz18_2); (try clear hcz20_0); (try clear hcz20_1); (try clear hcz20_2); (try clear hcz24_0); (try clear hcz24_1); (try clear hcz24_2); (try clear hcz25_0); (try clear hcz25_1); (try clear hcz25_2); (try clear hcz4_0); (try clear hcz4_1); (try clear hcz4_2); (try clear hcz7_0); (try clear hcz7_1); (try clear hcz7_2); (try clear hcz9_0); (try clear hcz9_1); (try clear hcz9_2); (try clear hfz16_0); (try clear hfz16_1); (try clear hfz16_2); (try clear hfz17_0); (try clear hfz17_1); (try clear hfz17_2); (try clear hfz18_0); (try clear hfz18_1); (try clear hfz18_2); (try clear hfz20_0); (try clear hfz20_1); (try clear hfz20_2); (try clear hfz24_0); (try clear hfz24_1); (try clear hfz24_2); (try clear hfz25_0); (try clear hfz25_1); (try clear hfz25_2); (try clear hfz4_0); (try clear hfz4_1); (try clear hfz4_2); (try clear hfz7_0); (try clear hfz7_1); (try clear hfz7_2); (try clear hfz9_0); (try clear hfz9_1); (try clear hfz9_2); (try clear hx258_0); (try clear hx258_1); (try clear hx260_0); (try clear hx260_1); (try clear p2); (try clear p258); (try clear p260); (try clear q258); (try clear q260); (obtain ⟨kq, x46_18, rfl, HA, HJ18, BK257, HB⟩ := hcut)
       cases kq with
       | zero => exact absurd HA.out (by simp [gangsawref08_Check.j1])
       | succ kj18 =>
        (have H := HA.out); (clear HA); (simp only [gangsawref08_Check.j1] at H); (by_cases c26 : x46_18 = true)
        ·(subst c26); (have H1 : (some 6) = some r := by rw [if_pos rfl] at H; exact H); (clear H); (have H := H1); (clear H1); (obtain rfl := Option.some.inj H); (go_wp2); (go_ret); (exact ⟨by first | rfl | (simp [errW_none, errW_some] <;> rfl) | (simp [*, errW_none, errW_some] <;> rfl), hb_ HB⟩)
        ·replace c26 := Bool.eq_false_iff.mpr c26
         (subst c26); (have H1 : (if a0_1 ≥ a0_2 then (some 1) else ((gangsawref08_convex.f kj18 l0_0).bind fun t264 => (if t264 = true then (some 0) else (some 1)))) = some r := by rw [if_neg (show ¬ (false = true) by decide)] at H; exact H); (clear H); (have H := H1); (clear H1); (by_cases c27 : a0_1 ≥ a0_2)
         ·(rw [if_pos c27] at H); (have c27b0 := decide_eq_true c27); (clear c27); (obtain rfl := Option.some.inj H); (obtain ⟨hcz28_0, hcz28_1, hcz28_2, hfz28_0, hfz28_1, hfz28_2⟩ := cz3_ BK257); (go_wp2); (go_ret); (exact ⟨by first | rfl | (simp [errW_none, errW_some] <;> rfl) | (simp [*, errW_none, errW_some] <;> rfl), hb_ HB⟩)
         ·rw [if_neg c27] at H
          (have c27b0 := decide_eq_false c27); (clear c27); (replace H := Option.bind_eq_some_iff.mp H); (obtain ⟨t264, A290, H⟩ := H); (replace H : (if t264 = true then (some 0) else (some 1)) = some r := H); (have A29 := Aside0.mk A290); (clear A290); (by_cases c30 : t264 = true)
          ·(subst c30); (have H1 : (some 0) = some r := by rw [if_pos rfl] at H; exact H); (clear H); (have H := H1); (clear H1); (obtain rfl := Option.some.inj H); (obtain ⟨hcz31_0, hcz31_1, hcz31_2, hfz31_0, hfz31_1, hfz31_2⟩ := cz3_ BK257); (go_wp2_with (first | (go_at_call 35; (with_reducible refine (gangsawref08_convex.calls kj18 _ _ l0_0 true _ ?side1 ?side2 A29.out).mono ?_); (case side1 => repeat (first | exact (Kd.C_below HR0_0.out HB.out) | (with_reducible refine Kd.C_alloc ?_ _) | (with_reducible refine Kd.C_drewN ?_ _) | (with_reducible refine Kd.C_drew ?_))); (case side2 => exact HC0_0.out); rintro e w32 ⟨rfl, hb⟩; replace BK257 := bb_ BK257 hb; replace HB := hs_ HB hb; (try clear hb); (try clear hb2); (try clear hk); (try clear hi)))); (go_ret); (exact ⟨by first | rfl | (simp [errW_none, errW_some] <;> rfl) | (simp [*, errW_none, errW_some] <;> rfl), hb_ HB⟩)
          ·(replace c30 := Bool.eq_false_iff.mpr c30); (subst c30); (have H1 : (some 1) = some r := by rw [if_neg (show ¬ (false = true) by decide)] at H; exact H); (clear H); (have H := H1); (clear H1); (obtain rfl := Option.some.inj H); (obtain ⟨hcz33_0, hcz33_1, hcz33_2, hfz33_0, hfz33_1, hfz33_2⟩ := cz3_ BK257); (go_wp2_with (first | (go_at_call 35; (with_reducible refine (gangsawref08_convex.calls kj18 _ _ l0_0 false _ ?side1 ?side2 A29.out).mono ?_); (case side1 => repeat (first | exact (Kd.C_below HR0_0.out HB.out) | (with_reducible refine Kd.C_alloc ?_ _) | (with_reducible refine Kd.C_drewN ?_ _) | (with_reducible refine Kd.C_drew ?_))); (case side2 => exact HC0_0.out); rintro e w34 ⟨rfl, hb⟩; replace BK257 := bb_ BK257 hb; replace HB := hs_ HB hb; (try clear hb); (try clear hb2); (try clear hk); (try clear hi)))); (go_ret); (exact ⟨by first | rfl | (simp [errW_none, errW_some] <;> rfl) | (simp [*, errW_none, errW_some] <;> rfl), hb_ HB⟩)

end Go.Proofs.Ythogemdknlpnpaa.XA
