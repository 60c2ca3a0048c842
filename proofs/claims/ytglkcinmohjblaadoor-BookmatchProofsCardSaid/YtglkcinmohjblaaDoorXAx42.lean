import Derived.Test.YtglkcinmohjblaaDoorXAx36
namespace Go.Proofs.YtglkcinmohjblaaDoor.XA
open Flat Go.RowKit Opens YtglkcinmohjblaaDoorW.PrintWords YtglkcinmohjblaaDoorW.PrintLast YtglkcinmohjblaaDoorW.PrintMore
attribute [local go_sem] max2_int min2_int max_two min_two max_three min_three max_four min_four cell_some cell_same
set_option linter.unusedVariables false
set_option linter.unusedSimpArgs false

mutual
def rf_Least.l0 : Nat → List (S62) → Int → Bool → Int → Int → Int → Option (Int)
 | 0, _, _, _, _, _, _ => none
 | k + 1, x0, x1, x2, x8, x417000, x417001 => if x8 ≥ x1 then (rf_Least.l1 k x0 x1 x2 x8 0 x417000 x417001 0 0) else (if x2 = true then (some x417001) else (some x417000))
def rf_Least.l1 : Nat → List (S62) → Int → Bool → Int → Int → Int → Int → Int → Int → Option (Int)
 | 0, _, _, _, _, _, _, _, _, _ => none
 | k + 1, x0, x1, x2, x8, x10, x417000, x417001, x418000, x418001 => if x10 < 2 then ((rf_Joint.f k x0 x8 (x10 == 1) (wrap64 (x8 + 1)) false).bind fun t418 => ((rf_Joint.f k x0 x8 (x10 == 1) (wrap64 (x8 + 1)) true).bind fun t419 => (if x10 = 0 then (rf_Least.l1 k x0 x1 x2 x8 (0 + 1) x417000 x417001 (mn (wrap64 (t418 + x417000)) (wrap64 (t419 + x417001))) x418001) else (if x10 = 1 then (rf_Least.l1 k x0 x1 x2 x8 (1 + 1) x417000 x417001 x418000 (mn (wrap64 (t418 + x417000)) (wrap64 (t419 + x417001)))) else (none))))) else (rf_Least.l0 k x0 x1 x2 (wrap64 (x8 - 1)) x418000 x418001)
end
def rf_Least.f (k : Nat) (l0 : List (S62)) (a1 : Int) (a2 : Bool) : Option (Int) := rf_Least.l0 k l0 a1 a2 (wrap64 ((l0.length : Int) - 2)) 0 0
theorem rf_Least.mono_l : ∀ k, (∀ y0 y1 y2 y3 y4 y5, LeO (rf_Least.l0 k y0 y1 y2 y3 y4 y5) (rf_Least.l0 (k + 1) y0 y1 y2 y3 y4 y5)) ∧ (∀ y0 y1 y2 y3 y4 y5 y6 y7 y8, LeO (rf_Least.l1 k y0 y1 y2 y3 y4 y5 y6 y7 y8) (rf_Least.l1 (k + 1) y0 y1 y2 y3 y4 y5 y6 y7 y8))
 | 0 => ⟨fun _ _ _ _ _ _ r h => by simp [rf_Least.l0] at h, fun _ _ _ _ _ _ _ _ _ r h => by simp [rf_Least.l1] at h⟩
 | k + 1 => by
  obtain ⟨ih0, ih1⟩ := rf_Least.mono_l k; refine ⟨?_, ?_⟩; (all_goals (intros; (first | unfold rf_Least.l0 | unfold rf_Least.l1)))
  all_goals (repeat' first
   | (with_reducible exact ih0 _ _ _ _ _ _)
   | (with_reducible exact ih1 _ _ _ _ _ _ _ _ _)
   | (with_reducible exact rf_Joint.mono _ _ _ _ _ _)
   | (with_reducible exact LeO.refl _)
   | (with_reducible refine LeO.ite ?_ ?_)
   | (with_reducible refine LeO.bind ?_ (fun _ => ?_))
   )
theorem rf_Least.mono : ∀ a0 a1 a2 k, LeO (rf_Least.f k a0 a1 a2) (rf_Least.f (k + 1) a0 a1 a2) := by
 intro a0 a1 a2 k
 obtain ⟨ih0, ih1⟩ := rf_Least.mono_l k
 unfold rf_Least.f
 repeat' (with_reducible exact ih0 _ _ _ _ _ _)
def rf_Least.T9 : Bool × List (List Nat × List Nat) := (true, [([], []), ([], []), ([], []), ([], []), ([3], [3]), ([2, 4], [2, 4]), ([], []), ([6], [6]), ([7], [7]), ([1, 5, 8], [1, 5, 8]), ([], []), ([10], [10]), ([9, 11], [9, 11]), ([], []), ([], []), ([], []), ([15], [15]), ([14, 16], [14, 16]), ([], []), ([18], [18]), ([19], [19]), ([13, 17, 20, 9], [13, 17, 20]), ([], []), ([22], [22]), ([21, 23], [21, 23]), ([12, 24], [12, 24]), ([0, 0, 1, 2, 3, 4, 5, 6, 7, 8, 9, 10, 11, 12, 13, 14, 15, 16, 17, 18, 19, 20, 21, 22, 23, 24, 25], [0]), ([26, 25, 21, 0, 1, 2, 3, 4, 5, 6, 7, 8, 9, 10, 11, 12, 13, 14, 15, 16, 17, 18, 19, 20, 21, 22, 23, 24, 25], [25, 26])])
def rf_Least.B9 : List Nat := [0, 0, 0, 0, 8, 28, 0, 64, 192, 510, 0, 1024, 4094, 0, 0, 0, 32768, 114688, 0, 262144, 786432, 2089982, 0, 4194304, 16770046, 33554430, 67108863, 134217727]
theorem rf_Least.tab9 : rtab .any (opsOf Tryd.f42 9) = rf_Least.T9 := by kernel_rfl
theorem rf_Least.bits9 : waitsOk rf_Least.T9.2 rf_Least.B9 = true := by kernel_rfl
set_option maxHeartbeats 8000000 in
set_option maxRecDepth 100000 in
theorem rf_Least.calls (k : Nat) (A0 : Option Addr) (c0 : Nat) (l0 : List (S62)) (a1 : Int) (a2 : Bool) (r : Int) (w : World) (hr0 : Kd.C k62 w A0 l0.length l0) (hc0 : l0.length ≤ c0) (h : rf_Least.f k l0 a1 a2 = some r) :
  Calls Tryd.prog 42 #[.slice A0 l0.length c0, .int .i64 a1, .bool a2] w fun e w' => e = .returned (.int .i64 r) ∧ Below w.heap.size w w' := by
 have hu51 := Tryd.underlying51
 have hu68 := Tryd.underlying68
 have HR0 := ak hr0
 have HC0 := ak hc0
 clear hr0 hc0
 have HB := ak (Below.refl w.heap.size w)
 have H : (rf_Least.l0 k l0 a1 a2 (wrap64 ((l0.length : Int) - 2)) 0 0) = some r := h
 clear h
 have H' := ak H
 clear H
 go_enter Tryd.func42, Tryd.ntmps42
 go_wp2_with (first | ((with_reducible refine gate_dst (N := 7) rfl ?_); refine box_event ?hg (N := 7) ?hd (cs := #[.int .i64 0, .int .i64 0]) (t := 51) ?hr ?_; (case hd => rfl); (case hg => rfl); (case hr => (go_simp; done)); intro gb416 hg w4 hbox hb; have BK416 := ak (hbox); have GW416 := gw_ HB hg; have GE416 := gw_ HB hg; replace HB := hs_ HB hb; clear hb hbox hg; obtain ⟨hcz5_0, hcz5_1, hfz5_0, hfz5_1⟩ := cz2_ BK416))
 go_loopg [8] k (fun kq v8 w' => ∃ (x8_1 : Int) (x417000_1 : Int) (x417001_1 : Int), v8 = .int .i64 x8_1 ∧ Aside0 (rf_Least.l0 kq l0 a1 a2 x8_1 x417000_1 x417001_1 = some r) ∧ Aside0 (kq ≤ k) ∧ Aside0 (w'.heap[gb416]? = some (.cells #[.int .i64 x417000_1, .int .i64 x417001_1] 51 (0, 0))) ∧ Aside0 (Below w.heap.size w w'))
 case atStart => exact ⟨(wrap64 ((l0.length : Int) - 2)), (0), (0), (by rfl), H', ⟨Nat.le_refl _⟩, ⟨by refine blk_put (cs := #[.int .i64 0, .int .i64 0]) ?_ 1 _ rfl; refine blk_put (cs := #[.int .i64 0, .int .i64 0]) ?_ 0 _ rfl; exact BK416.1⟩, ⟨hb_ HB⟩⟩
 clear H'; (try clear hcz5_0); (try clear hcz5_1); (try clear hfz5_0); (try clear hfz5_1); obtain ⟨x8_1, x417000_1, x417001_1, rfl, HA, HK1, BK416, HB⟩ := hrel
 cases gk with
 | zero => exact absurd HA.1 (by simp [rf_Least.l0])
 | succ k1 =>
  have H := HA.1; clear HA; simp only [rf_Least.l0] at H; (by_cases c6 : x8_1 ≥ a1)
  ·rw [if_pos c6] at H
   have c6b0 := decide_eq_true c6; clear c6; have H' := ak H; clear H; (go_wp2_with (first | ((with_reducible refine gate_dst (N := 9) rfl ?_); refine box_event ?hg (N := 9) ?hd (cs := #[.int .i64 0, .int .i64 0]) (t := 51) ?hr ?_; (case hd => rfl); (case hg => rfl); (case hr => (go_simp; done)); intro gb417 hg w7 hbox hb; have BK417 := ak (hbox); have GW417 := gw_ HB hg; have GE417 := gw_ HB hg; replace HB := hs_ HB hb; have NB416_417 := nl_ BK416 hg; have NB417_416 := nr_ BK416 hg; replace BK416 := bb_ BK416 hb; clear hb hbox hg; have hnb8 := NB417_416.1; have hnc8 := NB416_417.1; obtain ⟨hcz9_0, hcz9_1, hfz9_0, hfz9_1⟩ := cz2_ BK417))); (go_loopg [10] k1 (fun kq v10 w' => ∃ (x10_2 : Int) (x418000_2 : Int) (x418001_2 : Int), v10 = .int .i64 x10_2 ∧ Aside0 (rf_Least.l1 kq l0 a1 a2 x8_1 x10_2 x417000_1 x417001_1 x418000_2 x418001_2 = some r) ∧ Aside0 (kq ≤ k1) ∧ Aside0 (w'.heap[gb416]? = some (.cells #[.int .i64 x417000_1, .int .i64 x417001_1] 51 (0, 0))) ∧ Aside0 (w'.heap[gb417]? = some (.cells #[.int .i64 x418000_2, .int .i64 x418001_2] 51 (0, 0))) ∧ Aside0 (Below w.heap.size w w')))
   case atStart => exact ⟨(0), (0), (0), (by rfl), H', ⟨Nat.le_refl _⟩, ⟨by refine blk_far ?_ NB416_417.1 _; refine blk_far ?_ NB416_417.1 _; exact BK416.1⟩, ⟨by refine blk_put (cs := #[.int .i64 0, .int .i64 0]) ?_ 1 _ rfl; refine blk_put (cs := #[.int .i64 0, .int .i64 0]) ?_ 0 _ rfl; exact BK417.1⟩, ⟨hb_ HB⟩⟩
   clear H'; (try clear c6b0); (try clear hcz9_0); (try clear hcz9_1); (try clear hfz9_0); (try clear hfz9_1); obtain ⟨x10_2, x418000_2, x418001_2, rfl, HA, HK2, BK416, BK417, HB⟩ := hrel
   cases gk with
   | zero => exact absurd HA.1 (by simp [rf_Least.l1])
   | succ k2 =>
    have H := HA.1; clear HA; simp only [rf_Least.l1] at H; (by_cases c10 : x10_2 < 2)
    ·rw [if_pos c10] at H
     have c10b0 := decide_eq_true c10; clear c10; obtain ⟨t418, A110, H⟩ := obs_ H; (replace H : ((rf_Joint.f k2 l0 x8_1 (x10_2 == 1) (wrap64 (x8_1 + 1)) true).bind fun t419 => (if x10_2 = 0 then (rf_Least.l1 k2 l0 a1 a2 x8_1 (0 + 1) x417000_1 x417001_1 (mn (wrap64 (t418 + x417000_1)) (wrap64 (t419 + x417001_1))) x418001_2) else (if x10_2 = 1 then (rf_Least.l1 k2 l0 a1 a2 x8_1 (1 + 1) x417000_1 x417001_1 x418000_2 (mn (wrap64 (t418 + x417000_1)) (wrap64 (t419 + x417001_1)))) else (none)))) = some r := H); have A11 := ak A110; clear A110; obtain ⟨t419, A120, H⟩ := obs_ H; (replace H : (if x10_2 = 0 then (rf_Least.l1 k2 l0 a1 a2 x8_1 (0 + 1) x417000_1 x417001_1 (mn (wrap64 (t418 + x417000_1)) (wrap64 (t419 + x417001_1))) x418001_2) else (if x10_2 = 1 then (rf_Least.l1 k2 l0 a1 a2 x8_1 (1 + 1) x417000_1 x417001_1 x418000_2 (mn (wrap64 (t418 + x417000_1)) (wrap64 (t419 + x417001_1)))) else (none))) = some r := H); have A12 := ak A120; clear A120; obtain ⟨ji13, hji13⟩ : ∃ j_ : Int, (mn (wrap64 (t418 + x417000_1)) (wrap64 (t419 + x417001_1))) = j_ := ⟨_, rfl⟩; (replace H : (if x10_2 = 0 then (rf_Least.l1 k2 l0 a1 a2 x8_1 (0 + 1) x417000_1 x417001_1 ji13 x418001_2) else (if x10_2 = 1 then (rf_Least.l1 k2 l0 a1 a2 x8_1 (1 + 1) x417000_1 x417001_1 x418000_2 ji13) else (none))) = some r := by (rw [hji13] at H; exact H)); (have hji13_ : (if (wrap64 (t419 + x417001_1)) < (wrap64 (t418 + x417000_1)) then (wrap64 (t419 + x417001_1)) else (wrap64 (t418 + x417000_1))) = ji13 := hji13); (by_cases c14 : x10_2 = 0)
     ·subst c14
      (replace H : (rf_Least.l1 k2 l0 a1 a2 x8_1 (0 + 1) x417000_1 x417001_1 ji13 x418001_2) = some r := by rw [if_pos rfl] at H; exact H); ((try simp only [show ((0 : Int) == 1) = false from rfl, show ((0 : Int) == 0) = true from rfl] at A11)); ((try simp only [show ((0 : Int) == 1) = false from rfl, show ((0 : Int) == 0) = true from rfl] at A12)); have H' := ak H; clear H; (try go_wp2); replace BK416 := bq_ BK416; replace BK417 := bq_ BK417; replace HB := ak (below_drew1 HB.1); (refine start_ (n := 28) (S := fun w' => w'.cell? ⟨gb416, 0, none⟩ = some (.int .i64 x417000_1) ∧ w'.cell? ⟨gb416, 1, none⟩ = some (.int .i64 x417001_1)) (ds := []) (bm 28 0) (by kernel_rfl) rfl rfl ⟨(blk_cell BK416.1 0).trans rfl, (blk_cell BK416.1 1).trans rfl⟩ (fun hHeld => ?_); refine with_tabW rf_Least.tab9 rf_Least.bits9 (fun HT_ HW_ => ?_)); generalize wr.drew = w15 at BK416 BK417 HB hHeld ⊢; refine pv_ 0 HT_ ?_; refine pv_ 1 HT_ ?_; refine pv_ 2 HT_ ?_; refine pv_ 3 HT_ ?_; refine pv_ 4 HT_ ?_; refine pv_ 5 HT_ ?_; refine pv_ 6 HT_ ?_; refine pv_ 7 HT_ ?_; refine pv_ 8 HT_ ?_; refine pv_ 10 HT_ ?_; refine pv_ 13 HT_ ?_; refine pv_ 14 HT_ ?_; refine pv_ 15 HT_ ?_; refine pv_ 16 HT_ ?_; refine pv_ 17 HT_ ?_; refine pv_ 18 HT_ ?_; refine pv_ 19 HT_ ?_; refine pv_ 20 HT_ ?_; refine pv_ 22 HT_ ?_; refine tv_ 11 HT_ HW_ hHeld ?_; refine tv_ 23 HT_ HW_ hHeld ?_; (refine one_ (i := 9) (N := some 34) (bm 28 14675967) rfl rfl (one_of HT_.1 (by kernel_rfl)) (by decide) (fun K hK => ?_)); (refine goes_ Tryd.func37 (by kernel_rfl) rfl #[.slice A0 l0.length c0, .agg #[.int .i64 x8_1, .bool false], .agg #[.int .i64 (wrap64 (x8_1 + 1)), .bool false]] (by rfl) rfl rfl am_ ?_); (with_reducible refine (rf_Joint.calls k2 _ _ l0 x8_1 false (wrap64 (x8_1 + 1)) false t418 _ ?side1 ?side2 A11.1).mono ?_); ((case side1 => exact (Kd.C_below HR0.1 HB.1))); ((case side2 => exact HC0.1)); rintro e w16 ⟨rfl, hb⟩; refine ⟨_, rfl, ?_⟩; replace BK416 := bb_ BK416 hb; replace BK417 := bb_ BK417 hb; replace HB := hs_ HB hb; ((try clear hb)); (refine hK.out _ _ ⟨(blk_cell BK416.1 0).trans rfl, (blk_cell BK416.1 1).trans rfl⟩ (fun hHeld => ?_)); clear hK K; refine nv_ ?_; refine pv_ 12 HT_ ?_; (refine one_ (i := 21) (N := some 46) (bm 28 16777215) rfl rfl (one_of HT_.1 (by kernel_rfl)) (by decide) (fun K hK => ?_))
      (refine goes_ Tryd.func37 (by kernel_rfl) rfl #[.slice A0 l0.length c0, .agg #[.int .i64 x8_1, .bool false], .agg #[.int .i64 (wrap64 (x8_1 + 1)), .bool true]] (by rfl) rfl rfl am_ ?_); (with_reducible refine (rf_Joint.calls k2 _ _ l0 x8_1 false (wrap64 (x8_1 + 1)) true t419 _ ?side1 ?side2 A12.1).mono ?_); ((case side1 => exact (Kd.C_below HR0.1 HB.1))); ((case side2 => exact HC0.1)); rintro e w17 ⟨rfl, hb⟩; refine ⟨_, rfl, ?_⟩; replace BK416 := bb_ BK416 hb; replace BK417 := bb_ BK417 hb; replace HB := hs_ HB hb; ((try clear hb)); (refine hK.out _ _ ⟨(blk_cell BK416.1 0).trans rfl, (blk_cell BK416.1 1).trans rfl⟩ (fun hHeld => ?_)); clear hK K; refine nv_ ?_; refine pv_ 24 HT_ ?_; refine pv_ 25 HT_ ?_; refine pv_ 26 HT_ ?_; (refine one_ (i := 27) (N := none) (bm 28 268435455) rfl rfl (one_of HT_.1 (by kernel_rfl)) (by decide) (fun K hK => ?_)); have hs18 : w17.cell? ⟨gb417, 0, none⟩ = some (.int .i64 x418000_2) := (blk_cell BK417.1 0).trans rfl; have hfs18 := blk_frozen BK417.1 0; have hns18_0 := NB416_417.1; have hms18_0 := NB417_416.1; (refine skip_ (w1 := ?_) (by rfl) rfl ?_ ?_); rotate_left
      ·(go_simp); (rfl)
      (refine hK.out _ _ ⟨((cell_far (p := ⟨gb417, _, none⟩) NB416_417.1 _).trans (hHeld.1)), ((cell_far (p := ⟨gb417, _, none⟩) NB416_417.1 _).trans (hHeld.2))⟩ (fun hHeld => ?_)); clear hK K; (refine done_ (done_of HT_.1 (by kernel_rfl)) ?_); (try go_wp2); (go_roundg k2)
      case measure => have := HK1.1; have := HK2.1; omega
      case rel => exact ⟨(0 + 1), (ji13), (x418001_2), (by rfl), H', ⟨by have := HK1.1; have := HK2.1; omega⟩, ⟨by refine blk_far ?_ NB416_417.1 _; exact BK416.1⟩, ⟨by refine blk_put (cs := #[.int .i64 x418000_2, .int .i64 x418001_2]) ?_ 0 _ rfl; exact BK417.1⟩, ⟨hb_ HB⟩⟩
     rw [if_neg c14] at H
     by_cases c19 : x10_2 = 1
     ·subst c19
      (replace H : (rf_Least.l1 k2 l0 a1 a2 x8_1 (1 + 1) x417000_1 x417001_1 x418000_2 ji13) = some r := by rw [if_pos rfl] at H; exact H); ((try simp only [show ((1 : Int) == 1) = true from rfl, show ((1 : Int) == 0) = false from rfl] at A11)); ((try simp only [show ((1 : Int) == 1) = true from rfl, show ((1 : Int) == 0) = false from rfl] at A12)); have H' := ak H; clear H; (try go_wp2); replace BK416 := bq_ BK416; replace BK417 := bq_ BK417; replace HB := ak (below_drew1 HB.1); (refine start_ (n := 28) (S := fun w' => w'.cell? ⟨gb416, 0, none⟩ = some (.int .i64 x417000_1) ∧ w'.cell? ⟨gb416, 1, none⟩ = some (.int .i64 x417001_1)) (ds := []) (bm 28 0) (by kernel_rfl) rfl rfl ⟨(blk_cell BK416.1 0).trans rfl, (blk_cell BK416.1 1).trans rfl⟩ (fun hHeld => ?_); refine with_tabW rf_Least.tab9 rf_Least.bits9 (fun HT_ HW_ => ?_)); generalize wr.drew = w20 at BK416 BK417 HB hHeld ⊢; refine pv_ 0 HT_ ?_; refine pv_ 1 HT_ ?_; refine pv_ 2 HT_ ?_; refine pv_ 3 HT_ ?_; refine pv_ 4 HT_ ?_; refine pv_ 5 HT_ ?_; refine pv_ 6 HT_ ?_; refine pv_ 7 HT_ ?_; refine pv_ 8 HT_ ?_; refine pv_ 10 HT_ ?_; refine pv_ 13 HT_ ?_; refine pv_ 14 HT_ ?_; refine pv_ 15 HT_ ?_; refine pv_ 16 HT_ ?_; refine pv_ 17 HT_ ?_; refine pv_ 18 HT_ ?_; refine pv_ 19 HT_ ?_; refine pv_ 20 HT_ ?_; refine pv_ 22 HT_ ?_; refine tv_ 11 HT_ HW_ hHeld ?_; refine tv_ 23 HT_ HW_ hHeld ?_; (refine one_ (i := 9) (N := some 34) (bm 28 14675967) rfl rfl (one_of HT_.1 (by kernel_rfl)) (by decide) (fun K hK => ?_)); (refine goes_ Tryd.func37 (by kernel_rfl) rfl #[.slice A0 l0.length c0, .agg #[.int .i64 x8_1, .bool true], .agg #[.int .i64 (wrap64 (x8_1 + 1)), .bool false]] (by rfl) rfl rfl am_ ?_); (with_reducible refine (rf_Joint.calls k2 _ _ l0 x8_1 true (wrap64 (x8_1 + 1)) false t418 _ ?side1 ?side2 A11.1).mono ?_); ((case side1 => exact (Kd.C_below HR0.1 HB.1))); ((case side2 => exact HC0.1)); rintro e w21 ⟨rfl, hb⟩; refine ⟨_, rfl, ?_⟩; replace BK416 := bb_ BK416 hb; replace BK417 := bb_ BK417 hb; replace HB := hs_ HB hb; ((try clear hb)); (refine hK.out _ _ ⟨(blk_cell BK416.1 0).trans rfl, (blk_cell BK416.1 1).trans rfl⟩ (fun hHeld => ?_)); clear hK K; refine nv_ ?_; refine pv_ 12 HT_ ?_; (refine one_ (i := 21) (N := some 46) (bm 28 16777215) rfl rfl (one_of HT_.1 (by kernel_rfl)) (by decide) (fun K hK => ?_))
      (refine goes_ Tryd.func37 (by kernel_rfl) rfl #[.slice A0 l0.length c0, .agg #[.int .i64 x8_1, .bool true], .agg #[.int .i64 (wrap64 (x8_1 + 1)), .bool true]] (by rfl) rfl rfl am_ ?_); (with_reducible refine (rf_Joint.calls k2 _ _ l0 x8_1 true (wrap64 (x8_1 + 1)) true t419 _ ?side1 ?side2 A12.1).mono ?_); ((case side1 => exact (Kd.C_below HR0.1 HB.1))); ((case side2 => exact HC0.1)); rintro e w22 ⟨rfl, hb⟩; refine ⟨_, rfl, ?_⟩; replace BK416 := bb_ BK416 hb; replace BK417 := bb_ BK417 hb; replace HB := hs_ HB hb; ((try clear hb)); (refine hK.out _ _ ⟨(blk_cell BK416.1 0).trans rfl, (blk_cell BK416.1 1).trans rfl⟩ (fun hHeld => ?_)); clear hK K; refine nv_ ?_; refine pv_ 24 HT_ ?_; refine pv_ 25 HT_ ?_; refine pv_ 26 HT_ ?_; (refine one_ (i := 27) (N := none) (bm 28 268435455) rfl rfl (one_of HT_.1 (by kernel_rfl)) (by decide) (fun K hK => ?_)); have hs23 : w22.cell? ⟨gb417, 1, none⟩ = some (.int .i64 x418001_2) := (blk_cell BK417.1 1).trans rfl; have hfs23 := blk_frozen BK417.1 1; have hns23_0 := NB416_417.1; have hms23_0 := NB417_416.1; (refine skip_ (w1 := ?_) (by rfl) rfl ?_ ?_); rotate_left
      ·(go_simp); (rfl)
      (refine hK.out _ _ ⟨((cell_far (p := ⟨gb417, _, none⟩) NB416_417.1 _).trans (hHeld.1)), ((cell_far (p := ⟨gb417, _, none⟩) NB416_417.1 _).trans (hHeld.2))⟩ (fun hHeld => ?_)); clear hK K; (refine done_ (done_of HT_.1 (by kernel_rfl)) ?_); (try go_wp2); (go_roundg k2)
      case measure => have := HK1.1; have := HK2.1; omega
      case rel => exact ⟨(1 + 1), (x418000_2), (ji13), (by rfl), H', ⟨by have := HK1.1; have := HK2.1; omega⟩, ⟨by refine blk_far ?_ NB416_417.1 _; exact BK416.1⟩, ⟨by refine blk_put (cs := #[.int .i64 x418000_2, .int .i64 x418001_2]) ?_ 1 _ rfl; exact BK417.1⟩, ⟨hb_ HB⟩⟩
     rw [if_neg c19] at H; (exact absurd H (by simp))
    rw [if_neg c10] at H
    have c10b0 := decide_eq_false c10; clear c10; have H' := ak H; clear H; have hnb24 := NB417_416.1; have hnc24 := NB416_417.1; obtain ⟨hcz25_0, hcz25_1, hfz25_0, hfz25_1⟩ := cz2_ BK417; obtain ⟨hcz26_0, hcz26_1, hfz26_0, hfz26_1⟩ := cz2_ BK416; (go_wp2); (go_roundg k2)
    case measure => have := HK1.1; have := HK2.1; omega
    case rel => exact ⟨(wrap64 (x8_1 - 1)), (x418000_2), (x418001_2), (by rfl), H', ⟨by have := HK1.1; have := HK2.1; omega⟩, ⟨by refine blk_put (cs := #[.int .i64 x418000_2, .int .i64 x417001_1]) ?_ 1 _ rfl; refine blk_put (cs := #[.int .i64 x417000_1, .int .i64 x417001_1]) ?_ 0 _ rfl; exact BK416.1⟩, ⟨hb_ HB⟩⟩
  rw [if_neg c6] at H
  have c6b0 := decide_eq_false c6; clear c6; (by_cases c27 : a2 = true)
  ·subst c27; (replace H : (some x417001_1) = some r := by rw [if_pos rfl] at H; exact H); obtain rfl := Option.some.inj H; obtain ⟨hcz28_0, hcz28_1, hfz28_0, hfz28_1⟩ := cz2_ BK416; (go_wp2); (go_ret); (exact ⟨by rfl, hb_ HB⟩)
  replace c27 := Bool.eq_false_iff.mpr c27; subst c27; (replace H : (some x417000_1) = some r := by rw [if_neg (show ¬ (false = true) by decide)] at H; exact H); obtain rfl := Option.some.inj H; obtain ⟨hcz29_0, hcz29_1, hfz29_0, hfz29_1⟩ := cz2_ BK416; (go_wp2); (go_ret); (exact ⟨by rfl, hb_ HB⟩)

end Go.Proofs.YtglkcinmohjblaaDoor.XA
