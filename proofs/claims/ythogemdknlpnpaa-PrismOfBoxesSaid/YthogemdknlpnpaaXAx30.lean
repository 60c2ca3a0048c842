-- written by xprint.py, this project's own program (wip/), over the words of print.sh
import Derived.Test.YthogemdknlpnpaaXAx0
import Derived.Test.YthogemdknlpnpaaXAx20
import Derived.Test.YthogemdknlpnpaaXAx29
import Derived.Test.YthogemdknlpnpaaFlat
namespace Go.Proofs.Ythogemdknlpnpaa.XA
open Go.Proofs.Ythogemdknlpnpaa.Flat Go.RowKit Go.Proofs.Ythogemdknlpnpaa.Opens Go.Proofs.YthogemdknlpnpaaW.PrintWords Go.Proofs.YthogemdknlpnpaaW.PrintLast Go.Proofs.YthogemdknlpnpaaW.PrintMore
attribute [local go_sem] max2_int min2_int max_two min_two max_three min_three max_four min_four cell_some cell_same   -- for this text's walks alone
set_option linter.unusedVariables false
set_option linter.unusedSimpArgs false

/-! ### gangsawref08_Covers: function 23 -/
mutual
def gangsawref08_Covers.j0 : Nat → Bool → List (S60) → Int → Int → Int → Int → Int → Int → Int → Int → Option (Bool)
 | 0, _, _, _, _, _, _, _, _, _, _ => none
 | k + 1, x21, x330000, x330001, x330002, x331000, x331001, x331002, x331003, x331004, x331005 => if x21 = true then (some false) else ((gangsawref08_Of.f x331000 x331001 x331002 x331003 x331004 x331005).bind fun bt331 => (gangsawref08_Covers.l0 k bt331.1 0 x330000 x330001 x330002))
def gangsawref08_Covers.l0 : Nat → List (S60) → Int → List (S60) → Int → Int → Option (Bool)
 | 0, _, _, _, _, _ => none
 | k + 1, x5, x6, x330000, x330001, x330002 => if x6 < (x330000.length : Int) then (gangsawref08_Covers.l1 k x5 x6 0 x330000 x330001 x330002) else (some true)
def gangsawref08_Covers.l1 : Nat → List (S60) → Int → Int → List (S60) → Int → Int → Option (Bool)
 | 0, _, _, _, _, _, _ => none
 | k + 1, x5, x6, x7, x330000, x330001, x330002 => if x7 < (x5.length : Int) then (if 0 ≤ x6 then (if x6 < (x330000.length : Int) then (if (x330000.length : Int) = 0 then (none) else (if 0 ≤ (Int.tmod (wrap64 (x6 + 1)) (x330000.length : Int)) then (if (Int.tmod (wrap64 (x6 + 1)) (x330000.length : Int)) < (x330000.length : Int) then (if 0 ≤ x7 then ((gangsawref08_Cross.f ((rd_T60 x330000 x6).f0) ((rd_T60 x330000 x6).f1) ((rd_T60 x330000 (Int.tmod (wrap64 (x6 + 1)) (x330000.length : Int))).f0) ((rd_T60 x330000 (Int.tmod (wrap64 (x6 + 1)) (x330000.length : Int))).f1) ((rd_T60 x5 x7).f0) ((rd_T60 x5 x7).f1)).bind fun t339 => (if t339 < 0 then (some false) else (gangsawref08_Covers.l1 k x5 x6 (wrap64 (x7 + 1)) x330000 x330001 x330002))) else (none)) else (none)) else (none))) else (none)) else (none)) else (gangsawref08_Covers.l0 k x5 (wrap64 (x6 + 1)) x330000 x330001 x330002)
end
def gangsawref08_Covers.f (k : Nat) (l0_0 : List (S60)) (a0_1 : Int) (a0_2 : Int) (a1_0 : Int) (a1_1 : Int) (a1_2 : Int) (a1_3 : Int) (a1_4 : Int) (a1_5 : Int) : Option (Bool) := if a1_2 < a0_1 then (gangsawref08_Covers.j0 k true l0_0 a0_1 a0_2 a1_0 a1_1 a1_2 a1_3 a1_4 a1_5) else (gangsawref08_Covers.j0 k (decide (a1_5 > a0_2)) l0_0 a0_1 a0_2 a1_0 a1_1 a1_2 a1_3 a1_4 a1_5)
theorem gangsawref08_Covers.mono_l : ∀ k, (∀ y0 y1 y2 y3 y4 y5 y6 y7 y8 y9, LeO (gangsawref08_Covers.j0 k y0 y1 y2 y3 y4 y5 y6 y7 y8 y9) (gangsawref08_Covers.j0 (k + 1) y0 y1 y2 y3 y4 y5 y6 y7 y8 y9)) ∧ (∀ y0 y1 y2 y3 y4, LeO (gangsawref08_Covers.l0 k y0 y1 y2 y3 y4) (gangsawref08_Covers.l0 (k + 1) y0 y1 y2 y3 y4)) ∧ (∀ y0 y1 y2 y3 y4 y5, LeO (gangsawref08_Covers.l1 k y0 y1 y2 y3 y4 y5) (gangsawref08_Covers.l1 (k + 1) y0 y1 y2 y3 y4 y5))
 | 0 => ⟨fun _ _ _ _ _ _ _ _ _ _ r h => by simp [gangsawref08_Covers.j0] at h, fun _ _ _ _ _ r h => by simp [gangsawref08_Covers.l0] at h, fun _ _ _ _ _ _ r h => by simp [gangsawref08_Covers.l1] at h⟩
 | k + 1 => by
  (obtain ⟨ih0, ih1, ih2⟩ := gangsawref08_Covers.mono_l k); (refine ⟨?_, ?_, ?_⟩)
  ·intro y0 y1 y2 y3 y4 y5 y6 y7 y8 y9
   unfold gangsawref08_Covers.j0
   repeat' first
   | (with_reducible exact ih0 _ _ _ _ _ _ _ _ _ _)
   | (with_reducible exact ih1 _ _ _ _ _)
   | (with_reducible exact ih2 _ _ _ _ _ _)
   | (with_reducible exact LeO.refl _)
   | (with_reducible exact LeO.none _)
   | (with_reducible refine LeO.ite ?_ ?_)
   | (with_reducible refine LeO.bind ?_ (fun _ => ?_))
   | exact ih0 _ _ _ _ _ _ _ _ _ _
   | exact ih1 _ _ _ _ _
   | exact ih2 _ _ _ _ _ _
   | exact LeO.none _
   | refine LeO.ite ?_ ?_
   | refine LeO.bind ?_ (fun _ => ?_)
  ·intro y0 y1 y2 y3 y4
   unfold gangsawref08_Covers.l0
   repeat' first
   | (with_reducible exact ih0 _ _ _ _ _ _ _ _ _ _)
   | (with_reducible exact ih1 _ _ _ _ _)
   | (with_reducible exact ih2 _ _ _ _ _ _)
   | (with_reducible exact LeO.refl _)
   | (with_reducible exact LeO.none _)
   | (with_reducible refine LeO.ite ?_ ?_)
   | (with_reducible refine LeO.bind ?_ (fun _ => ?_))
   | exact ih0 _ _ _ _ _ _ _ _ _ _
   | exact ih1 _ _ _ _ _
   | exact ih2 _ _ _ _ _ _
   | exact LeO.none _
   | refine LeO.ite ?_ ?_
   | refine LeO.bind ?_ (fun _ => ?_)
  ·intro y0 y1 y2 y3 y4 y5
   unfold gangsawref08_Covers.l1
   repeat' first
   | (with_reducible exact ih0 _ _ _ _ _ _ _ _ _ _)
   | (with_reducible exact ih1 _ _ _ _ _)
   | (with_reducible exact ih2 _ _ _ _ _ _)
   | (with_reducible exact LeO.refl _)
   | (with_reducible exact LeO.none _)
   | (with_reducible refine LeO.ite ?_ ?_)
   | (with_reducible refine LeO.bind ?_ (fun _ => ?_))
   | exact ih0 _ _ _ _ _ _ _ _ _ _
   | exact ih1 _ _ _ _ _
   | exact ih2 _ _ _ _ _ _
   | exact LeO.none _
   | refine LeO.ite ?_ ?_
   | refine LeO.bind ?_ (fun _ => ?_)
theorem gangsawref08_Covers.mono : ∀ a0 a1 a2 a3 a4 a5 a6 a7 a8 k, LeO (gangsawref08_Covers.f k a0 a1 a2 a3 a4 a5 a6 a7 a8) (gangsawref08_Covers.f (k + 1) a0 a1 a2 a3 a4 a5 a6 a7 a8) := by
 intro a0 a1 a2 a3 a4 a5 a6 a7 a8 k
 obtain ⟨ih0, ih1, ih2⟩ := gangsawref08_Covers.mono_l k
 unfold gangsawref08_Covers.f
 repeat' first
   | (with_reducible exact ih0 _ _ _ _ _ _ _ _ _ _)
   | (with_reducible exact ih1 _ _ _ _ _)
   | (with_reducible exact ih2 _ _ _ _ _ _)
   | (with_reducible exact LeO.refl _)
   | (with_reducible exact LeO.none _)
   | (with_reducible refine LeO.ite ?_ ?_)
   | (with_reducible refine LeO.bind ?_ (fun _ => ?_))
   | exact ih0 _ _ _ _ _ _ _ _ _ _
   | exact ih1 _ _ _ _ _
   | exact ih2 _ _ _ _ _ _
   | exact LeO.none _
   | refine LeO.ite ?_ ?_
   | refine LeO.bind ?_ (fun _ => ?_)
theorem gangsawref08_Covers.fix25_0 (a0 a1 a2 : Value) (w : World) : (Instr.field 25 (.agg #[a0, a1, a2]) 0).run Try.prog w = .ok a0 w := by kernel_rfl

def gangsawref08_Covers.T10 : Bool × List (List Nat × List Nat) := (true, [([], []), ([0], [0]), ([], []), ([1, 2], [1, 2]), ([3], [3]), ([], []), ([5], [5]), ([], []), ([7], [7]), ([], []), ([9], [9]), ([10], [10]), ([8, 11], [8, 11]), ([6, 12], [6, 12]), ([13], [13]), ([], []), ([], []), ([15, 16], [15, 16]), ([17], [17]), ([4, 14, 18], [4, 14, 18]), ([19], [19])])
def gangsawref08_Covers.B10 : List Nat := [0, 1, 0, 7, 15, 0, 32, 0, 128, 0, 512, 1536, 3968, 8160, 16352, 0, 0, 98304, 229376, 524287, 1048575]
theorem gangsawref08_Covers.tab10 : rtab .any (opsOf Try.f23 10) = gangsawref08_Covers.T10 := by kernel_rfl
theorem gangsawref08_Covers.bits10 : waitsOk gangsawref08_Covers.T10.2 gangsawref08_Covers.B10 = true := by kernel_rfl
set_option maxHeartbeats 8000000 in
set_option maxRecDepth 100000 in
theorem gangsawref08_Covers.calls (k : Nat) (A0_0 : Option Addr) (c0_0 : Nat) (l0_0 : List (S60)) (a0_1 : Int) (a0_2 : Int) (a1_0 : Int) (a1_1 : Int) (a1_2 : Int) (a1_3 : Int) (a1_4 : Int) (a1_5 : Int) (r : Bool) (w : World) (hr0_0 : Kd.C k60 w A0_0 l0_0.length l0_0) (hc0_0 : l0_0.length ≤ c0_0) (h : gangsawref08_Covers.f k l0_0 a0_1 a0_2 a1_0 a1_1 a1_2 a1_3 a1_4 a1_5 = some r) :
  Calls Try.prog 23 #[.agg #[.slice A0_0 l0_0.length c0_0, .int .i64 a0_1, .int .i64 a0_2], .agg #[.int .i64 a1_0, .int .i64 a1_1, .int .i64 a1_2, .int .i64 a1_3, .int .i64 a1_4, .int .i64 a1_5]] w fun e w' => e = .returned (.bool r) ∧ Below w.heap.size w w' := by
 have hu25 := Try.underlying25
 have hu32 := Try.underlying32
 have hu60 := Try.underlying60
 have hfx25_0 := gangsawref08_Covers.fix25_0
 have HR0_0 := Aside0.mk hr0_0
 have HC0_0 := Aside0.mk hc0_0
 clear hr0_0 hc0_0
 have HB := Aside0.mk (Below.refl w.heap.size w)
 have H : (if a1_2 < a0_1 then (gangsawref08_Covers.j0 k true l0_0 a0_1 a0_2 a1_0 a1_1 a1_2 a1_3 a1_4 a1_5) else (gangsawref08_Covers.j0 k (decide (a1_5 > a0_2)) l0_0 a0_1 a0_2 a1_0 a1_1 a1_2 a1_3 a1_4 a1_5)) = some r := h
 clear h
 have HC3 := Aside0.mk H
 clear H
 go_enter Try.func23, Try.ntmps23
 go_upto_region 1 with (first | ((with_reducible refine gate_dst (N := 2) rfl ?_); refine box_event ?hg (N := 2) ?hd (cs := #[.slice A0_0 l0_0.length c0_0, .int .i64 a0_1, .int .i64 a0_2]) (t := 25) ?hr ?_; (case hd => rfl); (case hg => first | rfl | (go_simp; done)); (case hr => first | (go_simp; done) | (go_simp; rfl)); intro gb329 hg w4 hbox hb; have BK329 := Aside0.mk (hbox); have GW329 := gw_ HB hg; have GE329 := gw_ HB hg; replace HB := hs_ HB hb; clear hb hbox hg) | ((with_reducible refine gate_dst (N := 3) rfl ?_); refine box_event ?hg (N := 3) ?hd (cs := #[.int .i64 a1_0, .int .i64 a1_1, .int .i64 a1_2, .int .i64 a1_3, .int .i64 a1_4, .int .i64 a1_5]) (t := 32) ?hr ?_; (case hd => rfl); (case hg => first | rfl | (go_simp; done)); (case hr => first | (go_simp; done) | (go_simp; rfl)); intro gb330 hg w5 hbox hb; have BK330 := Aside0.mk (hbox); have GW330 := gw_ HB hg; have GE330 := gw_ HB hg; replace HB := hs_ HB hb; have NB329_330 := nl_ BK329 hg; have NB330_329 := nr_ BK329 hg; replace BK329 := bb_ BK329 hb; clear hb hbox hg))
 (try simp only [Act.put, List.setIfInBounds_toArray, List.set_cons_zero, List.set_cons_succ])
 go_cut [21] (fun v21 wc => ∃ (kq : Nat) (x21_2 : Bool), v21 = .bool x21_2 ∧ Aside0 (gangsawref08_Covers.j0 kq x21_2 l0_0 a0_1 a0_2 a1_0 a1_1 a1_2 a1_3 a1_4 a1_5 = some r) ∧ Aside0 (kq ≤ k) ∧ Aside0 (wc.heap[gb329]? = some (.cells #[(.slice A0_0 l0_0.length c0_0), .int .i64 a0_1, .int .i64 a0_2] 25 (0, 0))) ∧ Aside0 (wc.heap[gb330]? = some (.cells #[.int .i64 a1_0, .int .i64 a1_1, .int .i64 a1_2, .int .i64 a1_3, .int .i64 a1_4, .int .i64 a1_5] 32 (0, 0))) ∧ Aside0 (Below w.heap.size w wc))
 case first =>
  (have H := HC3.out); (clear HC3); (by_cases c6 : a1_2 < a0_1)
  ·rw [if_pos c6] at H
   (have c6b0 := decide_eq_true c6); (clear c6); ((first | rw [c6b0] | (simp only [i64_w, i32_w]; rw [c6b0]) | skip)); (have H' := Aside0.mk H); (clear H); (have hnb7 := NB330_329.out); (have hnc7 := NB329_330.out); (obtain ⟨hcz8_0, hcz8_1, hcz8_2, hcz8_3, hcz8_4, hcz8_5, hfz8_0, hfz8_1, hfz8_2, hfz8_3, hfz8_4, hfz8_5⟩ := cz6_ BK330); (obtain ⟨hcz9_0, hcz9_1, hcz9_2, hfz9_0, hfz9_1, hfz9_2⟩ := cz3_ BK329); (go_wp2); (go_meet)
   case rel => exact ⟨_, (true), (by first | rfl | (simp; done) | (simp [*]; done)), H', ⟨by first | omega | exact Nat.le_refl _⟩, ⟨bk_ BK329⟩, ⟨bk_ BK330⟩, ⟨hb_ HB⟩⟩
  ·rw [if_neg c6] at H
   (have c6b0 := decide_eq_false c6); (clear c6); ((first | rw [c6b0] | (simp only [i64_w, i32_w]; rw [c6b0]) | skip)); (have H' := Aside0.mk H); (clear H); (have hnb10 := NB330_329.out); (have hnc10 := NB329_330.out); (obtain ⟨hcz11_0, hcz11_1, hcz11_2, hcz11_3, hcz11_4, hcz11_5, hfz11_0, hfz11_1, hfz11_2, hfz11_3, hfz11_4, hfz11_5⟩ := cz6_ BK330); (obtain ⟨hcz12_0, hcz12_1, hcz12_2, hfz12_0, hfz12_1, hfz12_2⟩ := cz3_ BK329); (go_wp2); (go_meet)
   case rel => exact ⟨_, (decide (a1_5 > a0_2)), (by first | rfl | (simp; done) | (simp [*]; done)), H', ⟨by first | omega | exact Nat.le_refl _⟩, ⟨bk_ BK329⟩, ⟨bk_ BK330⟩, ⟨hb_ HB⟩⟩
 case rest =>
  (clear HC3); (try clear c1); (try clear c2); (try clear p2); (try clear c6); (try clear c6b0); (try clear c7); (try clear c10); (try clear hcz11_0); (try clear hcz11_1); (try clear hcz11_2); (try clear hcz11_3); (try clear hcz11_4); (try clear hcz11_5); (try clear hcz12_0); (try clear hcz12_1); (try clear hcz12_2); (try clear hcz8_0); (try clear hcz8_1); (try clear hcz8_2); (try clear hcz8_3); (try clear hcz8_4); (try clear hcz8_5); (try clear hcz9_0); (try clear hcz9_1); (try clear hcz9_2); (try clear hfz11_0); (try clear hfz11_1); (try clear hfz11_2); (try clear hfz11_3); (try clear hfz11_4); (try clear hfz11_5); (try clear hfz12_0); (try clear hfz12_1); (try clear hfz12_2); (try clear hfz8_0); (try clear hfz8_1); (try clear hfz8_2); (try clear hfz8_3); (try clear hfz8_4); (try clear hfz8_5); (try clear hfz9_0); (try clear hfz9_1); (try clear hfz9_2); (obtain ⟨kq, x21_2, rfl, HA, HJ2, BK329, BK330, HB⟩ := hcut)
  cases kq with
  | zero => exact absurd HA.out (by simp [gangsawref08_Covers.j0])
  | succ kj2 =>
   (have H := HA.out); (clear HA); (simp only [gangsawref08_Covers.j0] at H); (by_cases c13 : x21_2 = true)
   ·(subst c13); (have H1 : (some false) = some r := by rw [if_pos rfl] at H; exact H); (clear H); (have H := H1); (clear H1); (obtain rfl := Option.some.inj H); (go_wp2); (go_ret); (exact ⟨by first | rfl | (simp [errW_none, errW_some] <;> rfl) | (simp [*, errW_none, errW_some] <;> rfl), hb_ HB⟩)
   ·replace c13 := Bool.eq_false_iff.mpr c13
    (subst c13); (have H1 : ((gangsawref08_Of.f a1_0 a1_1 a1_2 a1_3 a1_4 a1_5).bind fun bt331 => (gangsawref08_Covers.l0 kj2 bt331.1 0 l0_0 a0_1 a0_2)) = some r := by rw [if_neg (show ¬ (false = true) by decide)] at H; exact H); (clear H); (have H := H1); (clear H1); (replace H := Option.bind_eq_some_iff.mp H); (obtain ⟨⟨t331, t334, t335⟩, A140, H⟩ := H); (replace H : (gangsawref08_Covers.l0 kj2 t331 0 l0_0 a0_1 a0_2) = some r := H); (have A14 := Aside0.mk A140); (clear A140); (have H' := Aside0.mk H); (clear H); (have hnb15 := NB330_329.out); (have hnc15 := NB329_330.out); (obtain ⟨hcz16_0, hcz16_1, hcz16_2, hcz16_3, hcz16_4, hcz16_5, hfz16_0, hfz16_1, hfz16_2, hfz16_3, hfz16_4, hfz16_5⟩ := cz6_ BK330); (go_wp2_with (first | ((with_reducible refine gate_callee (f := 22) rfl ?_); refine goesL_ (some 23) rfl rfl Try.func22 (by kernel_rfl) rfl #[.agg #[.int .i64 a1_0, .int .i64 a1_1, .int .i64 a1_2, .int .i64 a1_3, .int .i64 a1_4, .int .i64 a1_5]] rfl (by (try simp only [List.map_toArray, List.map_cons, List.map_nil]); first | done | rfl | (simp only [List.length_drop, List.length_take]; rfl)) ?_; (with_reducible refine (gangsawref08_Of.calls a1_0 a1_1 a1_2 a1_3 a1_4 a1_5 t331 t334 t335 _ A14.out).mono ?_); rintro e w17 ⟨v332, rfl, ho0, hb⟩; refine ⟨_, rfl, ?_⟩; have HO333 := Aside0.mk (Kd.R_lower ho0 (below_size (hb_ HB))); replace BK329 := bb_ BK329 hb; replace BK330 := bb_ BK330 hb; replace HB := hs_ HB hb; (try clear hb); (try clear hb2); (try clear hk); (try clear hi); (try clear ho0)))); (go_loopg [6] kj2 (fun kq v6 w' => ∃ (x6_2 : Int), v6 = .int .i64 x6_2 ∧ Aside0 (gangsawref08_Covers.l0 kq t331 x6_2 l0_0 a0_1 a0_2 = some r) ∧ Aside0 (kq ≤ kj2) ∧ Aside0 (Kd.R k60 60 w' w.heap.size (fun _ => True) v332 t331) ∧ Aside0 (w'.heap[gb329]? = some (.cells #[(.slice A0_0 l0_0.length c0_0), .int .i64 a0_1, .int .i64 a0_2] 25 (0, 0))) ∧ Aside0 (w'.heap[gb330]? = some (.cells #[.int .i64 a1_0, .int .i64 a1_1, .int .i64 a1_2, .int .i64 a1_3, .int .i64 a1_4, .int .i64 a1_5] 32 (0, 0))) ∧ Aside0 (Below w.heap.size w w')))
    case atStart => exact ⟨(0), (by first | rfl | (simp; done) | (simp [*]; done)), H', ⟨Nat.le_refl _⟩, ⟨by (with_reducible repeat (first | apply Kd.R_alloc | apply Kd.R_drewN | apply Kd.R_drew)); exact HO333.out⟩, ⟨bk_ BK329⟩, ⟨bk_ BK330⟩, ⟨hb_ HB⟩⟩
    case round =>
     (clear H'); (try clear c1); (try clear c2); (try clear p2); (try clear c6); (try clear c6b0); (try clear c7); (try clear c10); (try clear c13); (try clear c15); (try clear hcz11_0); (try clear hcz11_1); (try clear hcz11_2); (try clear hcz11_3); (try clear hcz11_4); (try clear hcz11_5); (try clear hcz12_0); (try clear hcz12_1); (try clear hcz12_2); (try clear hcz16_0); (try clear hcz16_1); (try clear hcz16_2); (try clear hcz16_3); (try clear hcz16_4); (try clear hcz16_5); (try clear hcz8_0); (try clear hcz8_1); (try clear hcz8_2); (try clear hcz8_3); (try clear hcz8_4); (try clear hcz8_5); (try clear hcz9_0); (try clear hcz9_1); (try clear hcz9_2); (try clear hfz11_0); (try clear hfz11_1); (try clear hfz11_2); (try clear hfz11_3); (try clear hfz11_4); (try clear hfz11_5); (try clear hfz12_0); (try clear hfz12_1); (try clear hfz12_2); (try clear hfz16_0); (try clear hfz16_1); (try clear hfz16_2); (try clear hfz16_3); (try clear hfz16_4); (try clear hfz16_5); (try clear hfz8_0); (try clear hfz8_1); (try clear hfz8_2); (try clear hfz8_3); (try clear hfz8_4); (try clear hfz8_5); (try clear hfz9_0); (try clear hfz9_1); (try clear hfz9_2); (try clear p2); (obtain ⟨x6_2, rfl, HA, HK2, HO_5, BK329, BK330, HB⟩ := hrel)
     cases gk with
     | zero => exact absurd HA.out (by simp [gangsawref08_Covers.l0])
     | succ k2 =>
      (have H := HA.out); (clear HA); (simp only [gangsawref08_Covers.l0] at H); (by_cases c18 : x6_2 < (l0_0.length : Int))
      ·rw [if_pos c18] at H
       (have c18b0 := decide_eq_true c18); (clear c18); (have H' := Aside0.mk H); (clear H); (have hnb19 := NB329_330.out); (have hnc19 := NB330_329.out); (obtain ⟨hcz20_0, hcz20_1, hcz20_2, hfz20_0, hfz20_1, hfz20_2⟩ := cz3_ BK329); (go_wp2); (go_loopg [7] k2 (fun kq v7 w' => ∃ (x7_3 : Int), v7 = .int .i64 x7_3 ∧ Aside0 (gangsawref08_Covers.l1 kq t331 x6_2 x7_3 l0_0 a0_1 a0_2 = some r) ∧ Aside0 (kq ≤ k2) ∧ Aside0 (Kd.R k60 60 w' w.heap.size (fun _ => True) v332 t331) ∧ Aside0 (w'.heap[gb329]? = some (.cells #[(.slice A0_0 l0_0.length c0_0), .int .i64 a0_1, .int .i64 a0_2] 25 (0, 0))) ∧ Aside0 (w'.heap[gb330]? = some (.cells #[.int .i64 a1_0, .int .i64 a1_1, .int .i64 a1_2, .int .i64 a1_3, .int .i64 a1_4, .int .i64 a1_5] 32 (0, 0))) ∧ Aside0 (Below w.heap.size w w')))
       case atStart => exact ⟨(0), (by first | rfl | (simp; done) | (simp [*]; done)), H', ⟨Nat.le_refl _⟩, ⟨by (with_reducible repeat (first | apply Kd.R_alloc | apply Kd.R_drewN | apply Kd.R_drew)); exact HO_5.out⟩, ⟨bk_ BK329⟩, ⟨bk_ BK330⟩, ⟨hb_ HB⟩⟩
       case round =>
        (clear H'); (try clear c1); (try clear c2); (try clear p2); (try clear c6); (try clear c6b0); (try clear c7); (try clear c10); (try clear c13); (try clear c15); (try clear c18); (try clear c18b0); (try clear c19); (try clear hcz11_0); (try clear hcz11_1); (try clear hcz11_2); (try clear hcz11_3); (try clear hcz11_4); (try clear hcz11_5); (try clear hcz12_0); (try clear hcz12_1); (try clear hcz12_2); (try clear hcz16_0); (try clear hcz16_1); (try clear hcz16_2); (try clear hcz16_3); (try clear hcz16_4); (try clear hcz16_5); (try clear hcz20_0); (try clear hcz20_1); (try clear hcz20_2); (try clear hcz8_0); (try clear hcz8_1); (try clear hcz8_2); (try clear hcz8_3); (try clear hcz8_4); (try clear hcz8_5); (try clear hcz9_0); (try clear hcz9_1); (try clear hcz9_2); (try clear hfz11_0); (try clear hfz11_1); (try clear hfz11_2); (try clear hfz11_3); (try clear hfz11_4); (try clear hfz11_5); (try clear hfz12_0); (try clear hfz12_1); (try clear hfz12_2); (try clear hfz16_0); (try clear hfz16_1); (try clear hfz16_2); (try clear hfz16_3); (try clear hfz16_4); (try clear hfz16_5); (try clear hfz20_0); (try clear hfz20_1); (try clear hfz20_2); (try clear hfz8_0); (try clear hfz8_1); (try clear hfz8_2); (try clear hfz8_3); (try clear hfz8_4); (try clear hfz8_5); (try clear hfz9_0); (try clear hfz9_1); (try clear hfz9_2); (try clear p2); (obtain ⟨x7_3, rfl, HA, HK3, HO_5, BK329, BK330, HB⟩ := hrel)
        cases gk with
        | zero => exact absurd HA.out (by simp [gangsawref08_Covers.l1])
        | succ k3 =>
         (have H := HA.out); (clear HA); (simp only [gangsawref08_Covers.l1] at H); (by_cases c21 : x7_3 < (t331.length : Int))
         ·rw [if_pos c21] at H
          (have c21b0 := decide_eq_true c21); (clear c21); (by_cases c22 : 0 ≤ x6_2)
          ·rw [if_pos c22] at H
           (have c22b0 := decide_eq_true c22); (clear c22); (by_cases c23 : x6_2 < (l0_0.length : Int))
           ·rw [if_pos c23] at H
            (have c23b0 := decide_eq_true c23); (clear c23); (by_cases c24 : (l0_0.length : Int) = 0)
            ·(rw [if_pos c24] at H); (exact absurd H (by simp))
            ·rw [if_neg c24] at H
             (have c24b0 := beq_eq_false_iff_ne.mpr c24); (have c24b1 := bne_iff_ne.mpr c24); (have c24b2 : ¬ (l0_0 = []) := fun h_ => c24 (by rw [h_]; rfl)); (obtain ⟨ji25, hji25⟩ : ∃ j_ : Int, (Int.tmod (wrap64 (x6_2 + 1)) (l0_0.length : Int)) = j_ := ⟨_, rfl⟩); (replace H : (if 0 ≤ (ji25) then (if (ji25) < (l0_0.length : Int) then (if 0 ≤ x7_3 then ((gangsawref08_Cross.f ((rd_T60 l0_0 x6_2).f0) ((rd_T60 l0_0 x6_2).f1) ((rd_T60 l0_0 (ji25)).f0) ((rd_T60 l0_0 (ji25)).f1) ((rd_T60 t331 x7_3).f0) ((rd_T60 t331 x7_3).f1)).bind fun t339 => (if t339 < 0 then (some false) else (gangsawref08_Covers.l1 k3 t331 x6_2 (wrap64 (x7_3 + 1)) l0_0 a0_1 a0_2))) else (none)) else (none)) else (none)) = some r := by first | (rw [hji25] at H; exact H) | (simp only [hji25] at H ⊢; exact H)); (by_cases c26 : 0 ≤ (ji25))
             ·rw [if_pos c26] at H
              (have c26b0 := decide_eq_true c26); (clear c26); (by_cases c27 : (ji25) < (l0_0.length : Int))
              ·rw [if_pos c27] at H
               (have c27b0 := decide_eq_true c27); (clear c27); (by_cases c28 : 0 ≤ x7_3)
               ·rw [if_pos c28] at H
                (have c28b0 := decide_eq_true c28); (clear c28); (replace H := Option.bind_eq_some_iff.mp H); (obtain ⟨t339, A290, H⟩ := H); (replace H : (if t339 < 0 then (some false) else (gangsawref08_Covers.l1 k3 t331 x6_2 (wrap64 (x7_3 + 1)) l0_0 a0_1 a0_2)) = some r := H); (have A29 := Aside0.mk A290); (clear A290); (by_cases c30 : t339 < 0)
                ·rw [if_pos c30] at H
                 (have c30b0 := decide_eq_true c30); (clear c30); (obtain rfl := Option.some.inj H); (obtain ⟨Ao31, co31, eo31⟩ := Kd.R_slice HO_5.out); (subst eo31); (try go_wp2); (replace HO_5 := Aside0.mk (Kd.R_drew HO_5.out)); (replace BK329 := Aside0.mk (blk_drew BK329.out)); (replace BK330 := Aside0.mk (blk_drew BK330.out)); (replace HB := Aside0.mk (below_drew1 HB.out)); (have p336 : 0 ≤ (x6_2 : Int) := of_decide_eq_true (by first | (with_reducible assumption) | assumption)); (have q336 : x6_2 < (l0_0.length : Int) := of_decide_eq_true (by first | (with_reducible assumption) | assumption)); (obtain ⟨ad336, e336, hx336_0, hx336_1⟩ := at_T60 HR0_0.out x6_2 p336 q336); (have hw336_1 := hx336_1); (have hw336_0 := hx336_0); (cases e336); (replace hx336_0 := (HB.out.cell (World.block_lt_of_cell? w _ hx336_0)).trans hx336_0); (replace hx336_1 := (HB.out.cell (World.block_lt_of_cell? w _ hx336_1)).trans hx336_1); (replace p336 := eq_true p336); (replace q336 := eq_true q336); (have p337 : 0 ≤ ((ji25) : Int) := of_decide_eq_true (by first | (with_reducible assumption) | assumption)); (have q337 : (ji25) < (l0_0.length : Int) := of_decide_eq_true (by first | (with_reducible assumption) | assumption)); (obtain ⟨ad337, e337, hx337_0, hx337_1⟩ := at_T60 HR0_0.out (ji25) p337 q337); (have hw337_1 := hx337_1); (have hw337_0 := hx337_0); (obtain rfl : ad336 = ad337 := (by injection e337)); (replace hx337_0 := (HB.out.cell (World.block_lt_of_cell? w _ hx337_0)).trans hx337_0); (replace hx337_1 := (HB.out.cell (World.block_lt_of_cell? w _ hx337_1)).trans hx337_1); (replace p337 := eq_true p337); (replace q337 := eq_true q337); (have p338 : 0 ≤ (x7_3 : Int) := of_decide_eq_true (by first | (with_reducible assumption) | assumption)); (have q338 : x7_3 < (t331.length : Int) := of_decide_eq_true (by first | (with_reducible assumption) | assumption)); (obtain ⟨ad338, e338, hx338_0, hx338_1⟩ := at_T60 (Kd.R_reads' HO_5.out).2.2 x7_3 p338 q338); (cases e338); (replace p338 := eq_true p338); (replace q338 := eq_true q338); (refine start_ (n := 21) (S := fun w' => w'.cell? ⟨gb329, 0, none⟩ = some (.slice (some ad336) l0_0.length c0_0) ∧ w'.cell? ⟨gb329, 1, none⟩ = some (.int .i64 a0_1) ∧ w'.cell? ⟨gb329, 2, none⟩ = some (.int .i64 a0_2) ∧ w'.cell? (ad336.add ((x6_2).toNat * 2)) = some (.int .i64 ((rd_T60 l0_0 x6_2).f0)) ∧ w'.cell? ⟨(ad336.add ((x6_2).toNat * 2)).block, (ad336.add ((x6_2).toNat * 2)).off + 1, none⟩ = some (.int .i64 ((rd_T60 l0_0 x6_2).f1)) ∧ w'.cell? (ad336.add (((ji25)).toNat * 2)) = some (.int .i64 ((rd_T60 l0_0 (ji25)).f0)) ∧ w'.cell? ⟨(ad336.add (((ji25)).toNat * 2)).block, (ad336.add (((ji25)).toNat * 2)).off + 1, none⟩ = some (.int .i64 ((rd_T60 l0_0 (ji25)).f1)) ∧ w'.cell? (ad338.add ((x7_3).toNat * 2)) = some (.int .i64 ((rd_T60 t331 x7_3).f0)) ∧ w'.cell? ⟨(ad338.add ((x7_3).toNat * 2)).block, (ad338.add ((x7_3).toNat * 2)).off + 1, none⟩ = some (.int .i64 ((rd_T60 t331 x7_3).f1))) (ds := []) (bm 21 0) (by kernel_rfl) rfl rfl ⟨(blk_cell BK329.out 0).trans rfl, (blk_cell BK329.out 1).trans rfl, (blk_cell BK329.out 2).trans rfl, ((HB.out.cell (World.block_lt_of_cell? w _ hw336_0)).trans hw336_0), ((HB.out.cell (World.block_lt_of_cell? w _ hw336_1)).trans hw336_1), ((HB.out.cell (World.block_lt_of_cell? w _ hw337_0)).trans hw337_0), ((HB.out.cell (World.block_lt_of_cell? w _ hw337_1)).trans hw337_1), hx338_0, hx338_1⟩ (fun hHeld => ?_); refine with_tabW gangsawref08_Covers.tab10 gangsawref08_Covers.bits10 (fun HT_ HW_ => ?_))
                 (generalize wr.drew = w32 at HO_5 BK329 BK330 HB hx336_0 hx336_1 hx337_0 hx337_1 hx338_0 hx338_1 hHeld ⊢); (refine pv_ 0 HT_ ?_); (refine pv_ 2 HT_ ?_); (refine pv_ 5 HT_ ?_); (refine pv_ 7 HT_ ?_); (refine pv_ 8 HT_ ?_); (refine pv_ 9 HT_ ?_); (refine pv_ 15 HT_ ?_); (refine pv_ 16 HT_ ?_); (refine pv_ 17 HT_ ?_); (refine tv_ 1 HT_ HW_ hHeld ?_); (refine pv_ 3 HT_ ?_); (refine tv_ 4 HT_ HW_ hHeld ?_); (refine tv_ 6 HT_ HW_ hHeld ?_); (refine tv_ 10 HT_ HW_ hHeld ?_); (refine pv_ 11 HT_ ?_); (refine pv_ 12 HT_ ?_); (refine pv_ 13 HT_ ?_); (refine tv_ 14 HT_ HW_ hHeld ?_); (refine tv_ 18 HT_ HW_ hHeld ?_); (refine one_ (i := 19) (N := some 57) (bm 21 1048575) rfl rfl (one_of HT_.out (by kernel_rfl)) (by decide) (fun K hK => ?_)); (refine goes_ Try.func40 (by kernel_rfl) rfl #[.agg #[.int .i64 ((rd_T60 l0_0 x6_2).f0), .int .i64 ((rd_T60 l0_0 x6_2).f1)], .agg #[.int .i64 ((rd_T60 l0_0 (ji25)).f0), .int .i64 ((rd_T60 l0_0 (ji25)).f1)], .agg #[.int .i64 ((rd_T60 t331 x7_3).f0), .int .i64 ((rd_T60 t331 x7_3).f1)]] (by rfl) rfl rfl (by (try simp only [List.map_toArray, List.map_cons, List.map_nil]); first | done | (simp only [hji25]; rfl) | rfl | (simp only [List.length_drop, List.length_take]; rfl)) ?_); (with_reducible refine (gangsawref08_Cross.calls ((rd_T60 l0_0 x6_2).f0) ((rd_T60 l0_0 x6_2).f1) ((rd_T60 l0_0 (ji25)).f0) ((rd_T60 l0_0 (ji25)).f1) ((rd_T60 t331 x7_3).f0) ((rd_T60 t331 x7_3).f1) t339 _ A29.out).mono ?_); (rintro e w33 ⟨rfl, hb⟩); (have HS7_ := (hb.cell (World.block_lt_of_cell? _ _ (hHeld.2.2.2.2.2.2.2.1))).trans (hHeld.2.2.2.2.2.2.2.1)); (have HS8_ := (hb.cell (World.block_lt_of_cell? _ _ (hHeld.2.2.2.2.2.2.2.2))).trans (hHeld.2.2.2.2.2.2.2.2)); (refine ⟨_, rfl, ?_⟩); (replace HO_5 := rb_ HO_5 hb); (replace BK329 := bb_ BK329 hb); (replace BK330 := bb_ BK330 hb); (replace HB := hs_ HB hb); ((try clear hb)); ((try clear hb2)); ((try clear hk)); ((try clear hi)); (refine hK.out _ _ ⟨(blk_cell BK329.out 0).trans rfl, (blk_cell BK329.out 1).trans rfl, (blk_cell BK329.out 2).trans rfl, ((HB.out.cell (World.block_lt_of_cell? w _ hw336_0)).trans hw336_0), ((HB.out.cell (World.block_lt_of_cell? w _ hw336_1)).trans hw336_1), ((HB.out.cell (World.block_lt_of_cell? w _ hw337_0)).trans hw337_0), ((HB.out.cell (World.block_lt_of_cell? w _ hw337_1)).trans hw337_1), HS7_, HS8_⟩ (fun hHeld => ?_)); (clear hK K); (refine nv_ ?_); (refine pv_ 20 HT_ ?_); (refine done_ (done_of HT_.out (by kernel_rfl)) ?_); (try go_wp2); (go_ret); (exact ⟨by first | rfl | (simp [errW_none, errW_some] <;> rfl) | (simp only [← hji25]; first | rfl | (simp [errW_none, errW_some] <;> rfl)) | (simp [*, errW_none, errW_some] <;> rfl), hb_ HB⟩)
                ·rw [if_neg c30] at H
                 (have c30b0 := decide_eq_false c30); (clear c30); (have H' := Aside0.mk H); (clear H); (obtain ⟨Ao34, co34, eo34⟩ := Kd.R_slice HO_5.out); (subst eo34); (try go_wp2); (replace HO_5 := Aside0.mk (Kd.R_drew HO_5.out)); (replace BK329 := Aside0.mk (blk_drew BK329.out)); (replace BK330 := Aside0.mk (blk_drew BK330.out)); (replace HB := Aside0.mk (below_drew1 HB.out)); (have p336 : 0 ≤ (x6_2 : Int) := of_decide_eq_true (by first | (with_reducible assumption) | assumption)); (have q336 : x6_2 < (l0_0.length : Int) := of_decide_eq_true (by first | (with_reducible assumption) | assumption)); (obtain ⟨ad336, e336, hx336_0, hx336_1⟩ := at_T60 HR0_0.out x6_2 p336 q336); (have hw336_1 := hx336_1); (have hw336_0 := hx336_0); (cases e336); (replace hx336_0 := (HB.out.cell (World.block_lt_of_cell? w _ hx336_0)).trans hx336_0); (replace hx336_1 := (HB.out.cell (World.block_lt_of_cell? w _ hx336_1)).trans hx336_1); (replace p336 := eq_true p336); (replace q336 := eq_true q336); (have p337 : 0 ≤ ((ji25) : Int) := of_decide_eq_true (by first | (with_reducible assumption) | assumption)); (have q337 : (ji25) < (l0_0.length : Int) := of_decide_eq_true (by first | (with_reducible assumption) | assumption)); (obtain ⟨ad337, e337, hx337_0, hx337_1⟩ := at_T60 HR0_0.out (ji25) p337 q337); (have hw337_1 := hx337_1); (have hw337_0 := hx337_0); (obtain rfl : ad336 = ad337 := (by injection e337)); (replace hx337_0 := (HB.out.cell (World.block_lt_of_cell? w _ hx337_0)).trans hx337_0); (replace hx337_1 := (HB.out.cell (World.block_lt_of_cell? w _ hx337_1)).trans hx337_1); (replace p337 := eq_true p337); (replace q337 := eq_true q337); (have p338 : 0 ≤ (x7_3 : Int) := of_decide_eq_true (by first | (with_reducible assumption) | assumption)); (have q338 : x7_3 < (t331.length : Int) := of_decide_eq_true (by first | (with_reducible assumption) | assumption)); (obtain ⟨ad338, e338, hx338_0, hx338_1⟩ := at_T60 (Kd.R_reads' HO_5.out).2.2 x7_3 p338 q338); (cases e338); (replace p338 := eq_true p338); (replace q338 := eq_true q338); (refine start_ (n := 21) (S := fun w' => w'.cell? ⟨gb329, 0, none⟩ = some (.slice (some ad336) l0_0.length c0_0) ∧ w'.cell? ⟨gb329, 1, none⟩ = some (.int .i64 a0_1) ∧ w'.cell? ⟨gb329, 2, none⟩ = some (.int .i64 a0_2) ∧ w'.cell? (ad336.add ((x6_2).toNat * 2)) = some (.int .i64 ((rd_T60 l0_0 x6_2).f0)) ∧ w'.cell? ⟨(ad336.add ((x6_2).toNat * 2)).block, (ad336.add ((x6_2).toNat * 2)).off + 1, none⟩ = some (.int .i64 ((rd_T60 l0_0 x6_2).f1)) ∧ w'.cell? (ad336.add (((ji25)).toNat * 2)) = some (.int .i64 ((rd_T60 l0_0 (ji25)).f0)) ∧ w'.cell? ⟨(ad336.add (((ji25)).toNat * 2)).block, (ad336.add (((ji25)).toNat * 2)).off + 1, none⟩ = some (.int .i64 ((rd_T60 l0_0 (ji25)).f1)) ∧ w'.cell? (ad338.add ((x7_3).toNat * 2)) = some (.int .i64 ((rd_T60 t331 x7_3).f0)) ∧ w'.cell? ⟨(ad338.add ((x7_3).toNat * 2)).block, (ad338.add ((x7_3).toNat * 2)).off + 1, none⟩ = some (.int .i64 ((rd_T60 t331 x7_3).f1))) (ds := []) (bm 21 0) (by kernel_rfl) rfl rfl ⟨(blk_cell BK329.out 0).trans rfl, (blk_cell BK329.out 1).trans rfl, (blk_cell BK329.out 2).trans rfl, ((HB.out.cell (World.block_lt_of_cell? w _ hw336_0)).trans hw336_0), ((HB.out.cell (World.block_lt_of_cell? w _ hw336_1)).trans hw336_1), ((HB.out.cell (World.block_lt_of_cell? w _ hw337_0)).trans hw337_0), ((HB.out.cell (World.block_lt_of_cell? w _ hw337_1)).trans hw337_1), hx338_0, hx338_1⟩ (fun hHeld => ?_); refine with_tabW gangsawref08_Covers.tab10 gangsawref08_Covers.bits10 (fun HT_ HW_ => ?_))
                 (generalize wr.drew = w35 at HO_5 BK329 BK330 HB hx336_0 hx336_1 hx337_0 hx337_1 hx338_0 hx338_1 hHeld ⊢); (refine pv_ 0 HT_ ?_); (refine pv_ 2 HT_ ?_); (refine pv_ 5 HT_ ?_); (refine pv_ 7 HT_ ?_); (refine pv_ 8 HT_ ?_); (refine pv_ 9 HT_ ?_); (refine pv_ 15 HT_ ?_); (refine pv_ 16 HT_ ?_); (refine pv_ 17 HT_ ?_); (refine tv_ 1 HT_ HW_ hHeld ?_); (refine pv_ 3 HT_ ?_); (refine tv_ 4 HT_ HW_ hHeld ?_); (refine tv_ 6 HT_ HW_ hHeld ?_); (refine tv_ 10 HT_ HW_ hHeld ?_); (refine pv_ 11 HT_ ?_); (refine pv_ 12 HT_ ?_); (refine pv_ 13 HT_ ?_); (refine tv_ 14 HT_ HW_ hHeld ?_); (refine tv_ 18 HT_ HW_ hHeld ?_); (refine one_ (i := 19) (N := some 57) (bm 21 1048575) rfl rfl (one_of HT_.out (by kernel_rfl)) (by decide) (fun K hK => ?_)); (refine goes_ Try.func40 (by kernel_rfl) rfl #[.agg #[.int .i64 ((rd_T60 l0_0 x6_2).f0), .int .i64 ((rd_T60 l0_0 x6_2).f1)], .agg #[.int .i64 ((rd_T60 l0_0 (ji25)).f0), .int .i64 ((rd_T60 l0_0 (ji25)).f1)], .agg #[.int .i64 ((rd_T60 t331 x7_3).f0), .int .i64 ((rd_T60 t331 x7_3).f1)]] (by rfl) rfl rfl (by (try simp only [List.map_toArray, List.map_cons, List.map_nil]); first | done | (simp only [hji25]; rfl) | rfl | (simp only [List.length_drop, List.length_take]; rfl)) ?_); (with_reducible refine (gangsawref08_Cross.calls ((rd_T60 l0_0 x6_2).f0) ((rd_T60 l0_0 x6_2).f1) ((rd_T60 l0_0 (ji25)).f0) ((rd_T60 l0_0 (ji25)).f1) ((rd_T60 t331 x7_3).f0) ((rd_T60 t331 x7_3).f1) t339 _ A29.out).mono ?_); (rintro e w36 ⟨rfl, hb⟩); (have HS7_ := (hb.cell (World.block_lt_of_cell? _ _ (hHeld.2.2.2.2.2.2.2.1))).trans (hHeld.2.2.2.2.2.2.2.1)); (have HS8_ := (hb.cell (World.block_lt_of_cell? _ _ (hHeld.2.2.2.2.2.2.2.2))).trans (hHeld.2.2.2.2.2.2.2.2)); (refine ⟨_, rfl, ?_⟩); (replace HO_5 := rb_ HO_5 hb); (replace BK329 := bb_ BK329 hb); (replace BK330 := bb_ BK330 hb); (replace HB := hs_ HB hb); ((try clear hb)); ((try clear hb2)); ((try clear hk)); ((try clear hi)); (refine hK.out _ _ ⟨(blk_cell BK329.out 0).trans rfl, (blk_cell BK329.out 1).trans rfl, (blk_cell BK329.out 2).trans rfl, ((HB.out.cell (World.block_lt_of_cell? w _ hw336_0)).trans hw336_0), ((HB.out.cell (World.block_lt_of_cell? w _ hw336_1)).trans hw336_1), ((HB.out.cell (World.block_lt_of_cell? w _ hw337_0)).trans hw337_0), ((HB.out.cell (World.block_lt_of_cell? w _ hw337_1)).trans hw337_1), HS7_, HS8_⟩ (fun hHeld => ?_)); (clear hK K); (refine nv_ ?_); (refine pv_ 20 HT_ ?_); (refine done_ (done_of HT_.out (by kernel_rfl)) ?_); (try go_wp2); (go_roundg k3)
                 case measure => have := HJ2.out; have := HK2.out; have := HK3.out; omega
                 case rel => exact ⟨(wrap64 (x7_3 + 1)), (by first | rfl | (simp; done) | (simp [*]; done)), H', ⟨by have := HJ2.out; have := HK2.out; have := HK3.out; omega⟩, ⟨by (with_reducible repeat (first | apply Kd.R_alloc | apply Kd.R_drewN | apply Kd.R_drew)); exact HO_5.out⟩, ⟨bk_ BK329⟩, ⟨bk_ BK330⟩, ⟨hb_ HB⟩⟩
               ·(rw [if_neg c28] at H); (exact absurd H (by simp))
              ·(rw [if_neg c27] at H); (exact absurd H (by simp))
             ·(rw [if_neg c26] at H); (exact absurd H (by simp))
           ·(rw [if_neg c23] at H); (exact absurd H (by simp))
          ·(rw [if_neg c22] at H); (exact absurd H (by simp))
         ·rw [if_neg c21] at H
          (have c21b0 := decide_eq_false c21); (clear c21); (have H' := Aside0.mk H); (clear H); (obtain ⟨Ao37, co37, eo37⟩ := Kd.R_slice HO_5.out); (subst eo37); (go_wp2); (go_roundg k3)
          case measure => have := HJ2.out; have := HK2.out; have := HK3.out; omega
          case rel => exact ⟨(wrap64 (x6_2 + 1)), (by first | rfl | (simp; done) | (simp [*]; done)), H', ⟨by have := HJ2.out; have := HK2.out; have := HK3.out; omega⟩, ⟨by (with_reducible repeat (first | apply Kd.R_alloc | apply Kd.R_drewN | apply Kd.R_drew)); exact HO_5.out⟩, ⟨bk_ BK329⟩, ⟨bk_ BK330⟩, ⟨hb_ HB⟩⟩
      ·(rw [if_neg c18] at H); (have c18b0 := decide_eq_false c18); (clear c18); (obtain rfl := Option.some.inj H); (have hnb38 := NB329_330.out); (have hnc38 := NB330_329.out); (obtain ⟨hcz39_0, hcz39_1, hcz39_2, hfz39_0, hfz39_1, hfz39_2⟩ := cz3_ BK329); (go_wp2); (go_ret); (exact ⟨by first | rfl | (simp [errW_none, errW_some] <;> rfl) | (simp [*, errW_none, errW_some] <;> rfl), hb_ HB⟩)

end Go.Proofs.Ythogemdknlpnpaa.XA
