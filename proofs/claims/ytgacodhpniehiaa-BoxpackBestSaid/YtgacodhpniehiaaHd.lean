import Derived.Test.YtgacodhpniehiaaHd1
namespace Go.Proofs.Ytgacodhpniehiaa.XA
open Go.RowKit Opens Flat YtgacodhpniehiaaW.PrintWords YtgacodhpniehiaaW.PrintLast YtgacodhpniehiaaW.PrintMore
attribute [local go_sem] max2_int min2_int max_two min_two max_three min_three max_four min_four cell_some cell_same
set_option linter.unusedVariables false
set_option linter.unusedSimpArgs false

theorem info64 : (Try.prog.info? 64).map (fun i => (i.zero, i.size, i.bytes)) = some (some (.agg #[(.int .i64 0), (.int .i64 0), (.int .i64 0)]), 3, 24) := by kernel_rfl
def bvv_.T8 : Bool × List (List Nat × List Nat) := (true, [([], []), ([0], [0]), ([1, 1], [1]), ([], []), ([3], [3]), ([4, 4], [4]), ([2, 0, 1, 2], [2]), ([5, 6, 0, 1, 2, 3, 4, 5, 6], [5])])
def bvv_.B8 : List Nat := [0, 1, 3, 0, 8, 24, 7, 127]
theorem bvv_.tab8 : rtab .any (opsOf Try.f12 8) = bvv_.T8 := by kernel_rfl
theorem bvv_.bits8 : waitsOk bvv_.T8.2 bvv_.B8 = true := by kernel_rfl
def bvv_.T20 : Bool × List (List Nat × List Nat) := (true, [([], []), ([0], [0]), ([], []), ([1, 2], [1, 2]), ([3], [3]), ([4], [4]), ([5], [5]), ([], []), ([6, 7, 6], [6, 7]), ([8], [8])])
def bvv_.B20 : List Nat := [0, 1, 0, 7, 15, 31, 63, 0, 255, 511]
theorem bvv_.tab20 : rtab .any (opsOf Try.f12 20) = bvv_.T20 := by kernel_rfl
theorem bvv_.bits20 : waitsOk bvv_.T20.2 bvv_.B20 = true := by kernel_rfl
def bvv_.T25 : Bool × List (List Nat × List Nat) := (true, [([], []), ([0], [0]), ([], []), ([2], [2]), ([1, 3], [1, 3]), ([4], [4]), ([5], [5]), ([6, 5], [5, 6]), ([5], [5]), ([8, 5], [5, 8]), ([9, 5], [5, 9]), ([10, 5], [5, 10]), ([7, 11, 5], [5, 7, 11]), ([5, 12], [5, 12]), ([13, 5], [13]), ([14], [14]), ([15, 14], [14, 15]), ([14], [14]), ([17, 14], [14, 17]), ([18, 14], [14, 18]), ([19, 14], [14, 19]), ([14], [14]), ([21, 14], [14, 21]), ([22, 14], [14, 22]), ([23, 14], [14, 23]), ([20, 24, 14], [14, 20, 24]), ([14], [14]), ([26, 14], [14, 26]), ([25, 27, 14], [14, 25, 27]), ([16, 28, 14], [14, 16, 28]), ([14, 29], [14, 29])])
def bvv_.B25 : List Nat := [0, 1, 0, 4, 15, 31, 63, 127, 63, 319, 831, 1855, 4095, 8191, 16383, 32767, 65535, 32767, 163839, 425983, 950271, 32767, 2129919, 6324223, 14712831, 33456127, 32767, 67141631, 268337151, 536870911, 1073741823]
theorem bvv_.tab25 : rtab .any (opsOf Try.f12 25) = bvv_.T25 := by kernel_rfl
theorem bvv_.bits25 : waitsOk bvv_.T25.2 bvv_.B25 = true := by kernel_rfl
def bvv_.T27 : Bool × List (List Nat × List Nat) := (true, [([], []), ([0], [0]), ([], []), ([2], [2]), ([3], [3]), ([4], [4]), ([1, 5], [1, 5]), ([6, 0, 1, 2, 3, 4, 5, 6], [6])])
def bvv_.B27 : List Nat := [0, 1, 0, 4, 12, 28, 63, 127]
theorem bvv_.tab27 : rtab .any (opsOf Try.f12 27) = bvv_.T27 := by kernel_rfl
theorem bvv_.bits27 : waitsOk bvv_.T27.2 bvv_.B27 = true := by kernel_rfl
def bvv_.T29 : Bool × List (List Nat × List Nat) := (true, [([], []), ([0], [0]), ([], []), ([2], [2]), ([], []), ([], []), ([5], [5]), ([6], [6]), ([7], [7]), ([], []), ([8, 9], [8, 9]), ([], []), ([11], [11]), ([10, 12], [10, 12]), ([1, 0, 1, 4], [1]), ([14, 4, 0, 1, 4], [4, 14]), ([3, 0, 1, 2, 3, 4, 5, 6, 7, 8, 9, 10, 11, 12, 13, 14, 15], [3]), ([16, 13, 15, 0, 1, 2, 3, 4, 5, 6, 7, 8, 9, 10, 11, 12, 13, 14, 15], [13, 16])])
def bvv_.B29 : List Nat := [0, 1, 0, 4, 0, 0, 32, 96, 224, 0, 992, 0, 2048, 8160, 19, 16403, 65535, 131071]
theorem bvv_.tab29 : rtab .any (opsOf Try.f12 29) = bvv_.T29 := by kernel_rfl
theorem bvv_.bits29 : waitsOk bvv_.T29.2 bvv_.B29 = true := by kernel_rfl
def bvv_.T32 : Bool × List (List Nat × List Nat) := (true, [([], []), ([0], [0]), ([1], [1]), ([2], [2]), ([], []), ([], []), ([5], [5]), ([4, 6], [4, 6]), ([3, 7], [3, 7]), ([1, 0, 1, 2, 3, 4, 5, 6, 7, 8], [1]), ([9, 8, 0, 1, 2, 3, 4, 5, 6, 7, 8], [8, 9])])
def bvv_.B32 : List Nat := [0, 1, 3, 7, 0, 0, 32, 112, 255, 511, 1023]
theorem bvv_.tab32 : rtab .any (opsOf Try.f12 32) = bvv_.T32 := by kernel_rfl
theorem bvv_.bits32 : waitsOk bvv_.T32.2 bvv_.B32 = true := by kernel_rfl
def bvv_.T30 : Bool × List (List Nat × List Nat) := (true, [([], []), ([], []), ([1], [1]), ([], []), ([], []), ([4], [4]), ([], []), ([], []), ([0, 2, 0, 1, 2, 6], [0, 2]), ([8, 6, 0, 1, 2, 6], [6, 8]), ([3, 5, 0, 1, 2, 3, 4, 5, 6, 7, 8, 9], [3, 5]), ([10, 7, 9, 0, 1, 2, 3, 4, 5, 6, 7, 8, 9], [7, 10])])
def bvv_.B30 : List Nat := [0, 0, 2, 0, 0, 16, 0, 0, 71, 327, 1023, 2047]
theorem bvv_.tab30 : rtab .any (opsOf Try.f12 30) = bvv_.T30 := by kernel_rfl
theorem bvv_.bits30 : waitsOk bvv_.T30.2 bvv_.B30 = true := by kernel_rfl
set_option maxHeartbeats 8000000 in
set_option maxRecDepth 100000 in
theorem boxpack_Value.calls (k : Nat) (a0_0 : Int) (a0_1 : Int) (a0_2 : Int) (a0_3 : Int) (A0_4 : Option Addr) (c0_4 : Nat) (l0_4 : List (S56)) (A1 : Option Addr) (c1 : Nat) (l1 : List (S61)) (r1 : Int) (r2 : Int) (w : World) (hr0_4 : Kd.C k56 w A0_4 l0_4.length l0_4) (hc0_4 : l0_4.length ≤ c0_4) (hr1 : Kd.C k61 w A1 l1.length l1) (hc1 : l1.length ≤ c1) (h : boxpack_Value.f k a0_0 a0_1 a0_2 a0_3 l0_4 l1 = some (r1, r2)) :
    Calls Try.prog 12 #[.agg #[.int .i64 a0_0, .int .i64 a0_1, .int .i64 a0_2, .int .i64 a0_3, .slice A0_4 l0_4.length c0_4], .slice A1 l1.length c1] w fun e w' => e = .returned (.tuple #[.int .i64 r1, .int .i64 r2]) ∧ Below w.heap.size w w' := by
  have hu33 := Try.underlying33
  have hu23 := Try.underlying23
  have hu64 := Try.underlying64
  have hu61 := Try.underlying61
  have HR0_4 := ak hr0_4
  have HC0_4 := ak hc0_4
  clear hr0_4 hc0_4
  have HR1 := ak hr1
  have HC1 := ak hc1
  clear hr1 hc1
  have HB := ak (Below.refl w.heap.size w)
  rw [boxpack_Value.f] at h
  obtain ⟨t148, A30, h⟩ := Option.bind_eq_some_iff.1 h
  have A3 := ak A30
  clear A30
  by_cases c4 : t148 = 0
  · rw [if_pos c4] at h
    have c4b0 := beq_iff_eq.mpr c4
    have c4b1 := bne_eq_false_iff_eq.mpr c4
    clear c4
    have hlen : l0_4.length < 1000 := Classical.byContradiction fun hn => by rw [if_neg hn] at h; exact absurd h (by simp)
    rw [if_pos hlen] at h
    replace hlen := ak hlen
    by_cases c5 : (l1.length : Int) > 1024
    · rw [if_pos c5] at h
      have c5b0 := decide_eq_true c5
      have c5b1 : decide (1024 < l1.length) = true := decide_eq_true (by omega)
      clear c5
      simp only [Option.some.injEq, Prod.mk.injEq] at h
      obtain ⟨rfl, rfl⟩ := h
      (go_enter Try.func12, Try.ntmps12); (go_wp2_with (first | ((with_reducible refine gate_dst (N := 2) rfl ?_); refine bx_ 2 #[.int .i64 a0_0, .int .i64 a0_1, .int .i64 a0_2, .int .i64 a0_3, .slice A0_4 l0_4.length c0_4] 33 ?_; intro gb147 hg w6 hbox hb; have BK147 := ak (hbox); have GW147 := gw_ HB hg; have GE147 := gw_ HB hg; replace HB := hs_ HB hb; clear hb hbox hg; obtain ⟨hcz7_0, hcz7_1, hcz7_2, hcz7_3, hcz7_4, hfz7_0, hfz7_1, hfz7_2, hfz7_3, hfz7_4⟩ := cz5_ BK147) | ((with_reducible refine gate_callee (f := 14) rfl ?_); refine gl_ 19 Try.func14 #[.agg #[.int .i64 a0_0, .int .i64 a0_1, .int .i64 a0_2, .int .i64 a0_3, .slice A0_4 l0_4.length c0_4]] ?_; (with_reducible refine (boxpack_Check.calls k a0_0 a0_1 a0_2 a0_3 _ _ l0_4 t148 _ ?side1 ?side2 A3.1).mono ?_); (case side1 => exact (Kd.C_below HR0_4.1 HB.1)); (case side2 => exact HC0_4.1); rintro e w8 ⟨rfl, hb⟩; refine ⟨_, rfl, ?_⟩; replace BK147 := bb_ BK147 hb; replace HB := hs_ HB hb; (try clear hb)))); (go_ret2); (exact ⟨by rfl, hb_ HB⟩)
    rw [if_neg c5] at h
    have hn1 := ak c5
    have c5b0 := decide_eq_false c5
    have c5b1 : decide (1024 < l1.length) = false := decide_eq_false (by omega)
    clear c5
    obtain ⟨t149, A90, h⟩ := Option.bind_eq_some_iff.1 h
    have A9 := ak A90
    clear A90
    cases t149 with
    | false =>
      simp only [Bool.false_eq_true, if_false, Option.some.injEq, Prod.mk.injEq] at h
      obtain ⟨rfl, rfl⟩ := h
      (go_enter Try.func12, Try.ntmps12); (go_wp2_with (first | ((with_reducible refine gate_dst (N := 2) rfl ?_); refine bx_ 2 #[.int .i64 a0_0, .int .i64 a0_1, .int .i64 a0_2, .int .i64 a0_3, .slice A0_4 l0_4.length c0_4] 33 ?_; intro gb147 hg w420 hbox hb; have BK147 := ak (hbox); have GW147 := gw_ HB hg; have GE147 := gw_ HB hg; replace HB := hs_ HB hb; clear hb hbox hg; obtain ⟨hcz421_0, hcz421_1, hcz421_2, hcz421_3, hcz421_4, hfz421_0, hfz421_1, hfz421_2, hfz421_3, hfz421_4⟩ := cz5_ BK147) | ((with_reducible refine gate_callee (f := 14) rfl ?_); refine gl_ 19 Try.func14 #[.agg #[.int .i64 a0_0, .int .i64 a0_1, .int .i64 a0_2, .int .i64 a0_3, .slice A0_4 l0_4.length c0_4]] ?_; (with_reducible refine (boxpack_Check.calls k a0_0 a0_1 a0_2 a0_3 _ _ l0_4 t148 _ ?side1 ?side2 A3.1).mono ?_); (case side1 => exact (Kd.C_below HR0_4.1 HB.1)); (case side2 => exact HC0_4.1); rintro e w422 ⟨rfl, hb⟩; refine ⟨_, rfl, ?_⟩; replace BK147 := bb_ BK147 hb; replace HB := hs_ HB hb; (try clear hb)) | ((with_reducible refine gate_callee (f := 28) rfl ?_); refine gl_ 27 Try.func28 #[.slice A1 l1.length c1] ?_; (with_reducible refine (boxpack_plan.calls k _ _ l1 false _ ?side1 ?side2 A9.1).mono ?_); (case side1 => exact (Kd.C_below HR1.1 HB.1)); (case side2 => exact HC1.1); rintro e w423 ⟨rfl, hb⟩; refine ⟨_, rfl, ?_⟩; replace BK147 := bb_ BK147 hb; replace HB := hs_ HB hb; (try clear hb)))); (go_ret2); (exact ⟨by rfl, hb_ HB⟩)
    | true =>
      rw [if_pos rfl] at h
      have hn0 : l1.length > 0 := Classical.byContradiction fun hn => by rw [if_neg hn] at h; exact absurd h (by simp)
      rw [if_pos hn0] at h
      obtain ⟨y150, hy150⟩ : ∃ y_ : List (S23), y_ = (List.replicate ((l1.length : Int) : Int).toNat z23) := ⟨_, rfl⟩
      have Ny150 := ak hy150
      clear hy150
      obtain ⟨y153, hy153⟩ : ∃ y_ : List (S23), y_ = (List.replicate ((l1.length : Int) : Int).toNat z23) := ⟨_, rfl⟩
      have Ny153 := ak hy153
      clear hy153
      have c11b1 : decide (0 ≤ (l1.length : Int)) = true := decide_eq_true (by omega)
      have c12b1 : decide (((l1.length : Int) : Int).toNat ≤ 11728124029610) = true := decide_eq_true (by have := hn1.1; omega)
      have c11b0 : (0 ≤ (l1.length : Int)) = True := eq_true (by omega)
      have c12b0 : (((l1.length : Int) : Int).toNat ≤ 11728124029610) = True := eq_true (by have := hn1.1; omega)
      have hn0' := ak hn0
      have c14b0 : decide (0 < (l1.length : Int)) = true := decide_eq_true (by omega)
      clear hn0
      have H' := ak h
      clear h
      (go_enter Try.func12, Try.ntmps12); (try go_wp2_with (first | ((with_reducible refine gate_dst (N := 2) rfl ?_); refine bx_ 2 #[.int .i64 a0_0, .int .i64 a0_1, .int .i64 a0_2, .int .i64 a0_3, .slice A0_4 l0_4.length c0_4] 33 ?_; intro gb147 hg w16 hbox hb; have BK147 := ak (hbox); have GW147 := gw_ HB hg; have GE147 := gw_ HB hg; replace HB := hs_ HB hb; clear hb hbox hg; obtain ⟨hcz17_0, hcz17_1, hcz17_2, hcz17_3, hcz17_4, hfz17_0, hfz17_1, hfz17_2, hfz17_3, hfz17_4⟩ := cz5_ BK147) | ((with_reducible refine gate_callee (f := 14) rfl ?_); refine gl_ 19 Try.func14 #[.agg #[.int .i64 a0_0, .int .i64 a0_1, .int .i64 a0_2, .int .i64 a0_3, .slice A0_4 l0_4.length c0_4]] ?_; (with_reducible refine (boxpack_Check.calls k a0_0 a0_1 a0_2 a0_3 _ _ l0_4 t148 _ ?side1 ?side2 A3.1).mono ?_); (case side1 => exact (Kd.C_below HR0_4.1 HB.1)); (case side2 => exact HC0_4.1); rintro e w18 ⟨rfl, hb⟩; refine ⟨_, rfl, ?_⟩; replace BK147 := bb_ BK147 hb; replace HB := hs_ HB hb; (try clear hb)) | ((with_reducible refine gate_callee (f := 28) rfl ?_); refine gl_ 27 Try.func28 #[.slice A1 l1.length c1] ?_; (with_reducible refine (boxpack_plan.calls k _ _ l1 true _ ?side1 ?side2 A9.1).mono ?_); (case side1 => exact (Kd.C_below HR1.1 HB.1)); (case side2 => exact HC1.1); rintro e w19 ⟨rfl, hb⟩; refine ⟨_, rfl, ?_⟩; replace BK147 := bb_ BK147 hb; replace HB := hs_ HB hb; (try clear hb)))); replace BK147 := ak (blk_drew BK147.1)
      replace HB := ak (below_drew1 HB.1); (refine start_ (n := 8) (S := fun w' => True) (ds := []) (bm 8 0) (by kernel_rfl) rfl rfl trivial (fun hHeld => ?_); refine with_tabW bvv_.tab8 bvv_.bits8 (fun HT_ HW_ => ?_)); generalize w19.drew = w20 at BK147 HB hHeld ⊢; refine pv_ 0 HT_ ?_; refine pv_ 1 HT_ ?_; refine pv_ 3 HT_ ?_; refine pv_ 4 HT_ ?_; (refine join_ (σ := Value × Value) 1 (bm 8 127) (fun s_ => [(31, s_.1), (34, s_.2), (7, s_.1)]) (fun s_ w' => (Kd.R k23 64 w' w.heap.size (fun k_ => some k_ ≠ (s_.2 : Value).ownBlock) s_.1 y150) ∧ (Kd.R k23 64 w' w.heap.size (fun k_ => some k_ ≠ (s_.1 : Value).ownBlock) s_.2 y153) ∧ (w'.heap[gb147]? = some (.cells #[.int .i64 a0_0, .int .i64 a0_1, .int .i64 a0_2, .int .i64 a0_3, .slice A0_4 l0_4.length c0_4] 33 (0, 0))) ∧ (Below w.heap.size w w')) ?_ ?_); rotate_left
      ·intro hCont
       refine two_ (i := 2) (j := 5) (Ni := some 31) (Nj := some 34) (bm 8 31) (bm 8 59) rfl rfl rfl rfl (two_of HT_.1 (by kernel_rfl)) (by decide) (by decide) (fun K hK => ?_) (fun K hK => ?_)
       ·skip
        (refine Kd.R_make_step k23 _ 64 (by rfl) (N := 31) rfl 63 _ _ rfl (l1.length : Int) rfl rfl Try.underlying63 (.agg #[(.int .i64 0), (.int .i64 0), (.int .i64 0)]) 24 info64 rfl (by decide) (by omega) z23 (ok := fun _ => True) (okp := fun _ => True) (k23_mkM _ _ _ z23 ) (fun _ hk => hk) trivial (od_) (Nat.le_trans (Nat.mul_le_mul_right _ (od_ : (l1.length : Int).toNat ≤ 11728124029610)) (by omega)) (Below.refl _ _) (Nat.le_refl _) ?_); intro v151 w21 ho22 hb hg_ hnew_; clear hg_ hnew_; ((rw [← Ny150.1] at ho22)); have HO152 := ak (Kd.R_lower ho22 (below_size (hb_ HB))); replace BK147 := bb_ BK147 hb; replace HB := hs_ HB hb; clear hb ho22; (refine hK.out _ _ trivial (fun hHeld => ?_)); clear hK K; refine nv_ ?_; refine pv_ 6 HT_ ?_; (refine one_ (i := 5) (N := some 34) (bm 8 127) rfl rfl (one_of HT_.1 (by kernel_rfl)) (by decide) (fun K hK => ?_)); (refine Kd.R_make_step k23 _ 64 (by rfl) (N := 34) rfl 63 _ _ rfl (l1.length : Int) rfl rfl Try.underlying63 (.agg #[(.int .i64 0), (.int .i64 0), (.int .i64 0)]) 24 info64 rfl (by decide) (by omega) z23 (ok := fun _ => True) (okp := fun _ => True) (k23_mkM _ _ _ z23 ) (fun _ hk => hk) trivial (od_) (Nat.le_trans (Nat.mul_le_mul_right _ (od_ : (l1.length : Int).toNat ≤ 11728124029610)) (by omega)) (Below.refl _ _) (Nat.le_refl _) ?_); intro v154 w23 ho24 hb hg_ hnew_; clear hg_ hnew_; ((rw [← Ny153.1] at ho24)); have HO155 := ak (Kd.R_lower (Kd.R_new' ho24 (Kd.R_lt (rk_ HO152))) (below_size (hb_ HB))); replace HO152 := ak (Kd.R_elder' (rk_ HO152) (Kd.R_base ho24) hb); replace BK147 := bb_ BK147 hb; replace HB := hs_ HB hb; clear hb ho24; (refine hK.out _ _ trivial (fun hHeld => ?_)); clear hK K; refine nv_ ?_; (exact norm_ (by simp only [putAll, Act.put, List.setIfInBounds_toArray, List.set_cons_zero, List.set_cons_succ]) (hCont (v151, v154) _ ⟨(by exact Kd.R_mono HO152.1 (fun _ hk => hk.2)), (by exact Kd.R_mono HO155.1 (fun _ hk => hk.2)), (bk_ BK147), (hb_ HB)⟩))
       skip
       (refine Kd.R_make_step k23 _ 64 (by rfl) (N := 34) rfl 63 _ _ rfl (l1.length : Int) rfl rfl Try.underlying63 (.agg #[(.int .i64 0), (.int .i64 0), (.int .i64 0)]) 24 info64 rfl (by decide) (by omega) z23 (ok := fun _ => True) (okp := fun _ => True) (k23_mkM _ _ _ z23 ) (fun _ hk => hk) trivial (od_) (Nat.le_trans (Nat.mul_le_mul_right _ (od_ : (l1.length : Int).toNat ≤ 11728124029610)) (by omega)) (Below.refl _ _) (Nat.le_refl _) ?_); intro v154 w21 ho22 hb hg_ hnew_; clear hg_ hnew_; ((rw [← Ny153.1] at ho22)); have HO155 := ak (Kd.R_lower ho22 (below_size (hb_ HB))); replace BK147 := bb_ BK147 hb; replace HB := hs_ HB hb; clear hb ho22; (refine hK.out _ _ trivial (fun hHeld => ?_)); clear hK K; refine nv_ ?_; (refine one_ (i := 2) (N := some 31) (bm 8 63) rfl rfl (one_of HT_.1 (by kernel_rfl)) (by decide) (fun K hK => ?_)); (refine Kd.R_make_step k23 _ 64 (by rfl) (N := 31) rfl 63 _ _ rfl (l1.length : Int) rfl rfl Try.underlying63 (.agg #[(.int .i64 0), (.int .i64 0), (.int .i64 0)]) 24 info64 rfl (by decide) (by omega) z23 (ok := fun _ => True) (okp := fun _ => True) (k23_mkM _ _ _ z23 ) (fun _ hk => hk) trivial (od_) (Nat.le_trans (Nat.mul_le_mul_right _ (od_ : (l1.length : Int).toNat ≤ 11728124029610)) (by omega)) (Below.refl _ _) (Nat.le_refl _) ?_); intro v151 w23 ho24 hb hg_ hnew_; clear hg_ hnew_; ((rw [← Ny150.1] at ho24)); have HO152 := ak (Kd.R_lower (Kd.R_new' ho24 (Kd.R_lt (rk_ HO155))) (below_size (hb_ HB))); replace HO155 := ak (Kd.R_elder' (rk_ HO155) (Kd.R_base ho24) hb); replace BK147 := bb_ BK147 hb; replace HB := hs_ HB hb; clear hb ho24; (refine hK.out _ _ trivial (fun hHeld => ?_)); clear hK K; refine nv_ ?_; refine pv_ 6 HT_ ?_; (exact norm_ (by simp only [putAll, Act.put, List.setIfInBounds_toArray, List.set_cons_zero, List.set_cons_succ]) (hCont (v151, v154) _ ⟨(by exact Kd.R_mono HO152.1 (fun _ hk => hk.2)), (by exact Kd.R_mono HO155.1 (fun _ hk => hk.2)), (bk_ BK147), (hb_ HB)⟩))
      rintro ⟨v151, v154⟩ w25 ⟨h0_, h1_, h2_, h3_⟩; (have n0_ : Aside0 (Kd.R k23 64 w25 w.heap.size (fun k_ => some k_ ≠ (v154 : Value).ownBlock) v151 y150) := ⟨h0_⟩); (have n1_ : Aside0 (Kd.R k23 64 w25 w.heap.size (fun k_ => some k_ ≠ (v151 : Value).ownBlock) v154 y153) := ⟨h1_⟩); have n2_ : Aside0 (w25.heap[gb147]? = some (.cells #[.int .i64 a0_0, .int .i64 a0_1, .int .i64 a0_2, .int .i64 a0_3, .slice A0_4 l0_4.length c0_4] 33 (0, 0))) := ⟨h2_⟩; have n3_ : Aside0 (Below w.heap.size w w25) := ⟨h3_⟩; clear BK147 HB h0_ h1_ h2_ h3_; have HO152 := n0_; have HO155 := n1_; have BK147 := n2_; have HB := n3_; clear n0_ n1_ n2_ n3_; have hHeld := trivial; refine norm_ (a' := ?_) ?_ ?_; rotate_left
      ·simp only [putAll, Act.put, List.setIfInBounds_toArray, List.set_cons_zero, List.set_cons_succ]; (rfl)
      refine pv_ 7 HT_ ?_; (refine done_ (done_of HT_.1 (by kernel_rfl)) ?_); 
      have hl150 : y150.length = l1.length := by rw [Ny150.1]; simp
      have hl153 : y153.length = l1.length := by rw [Ny153.1]; simp
      obtain ⟨gp, cp, ev151, _, _, _⟩ := Kd.R_form HO152.1 (by rw [hl150]; exact hn0'.1)
      obtain ⟨gb, cb, ev154, _, _, _⟩ := Kd.R_form HO155.1 (by rw [hl153]; exact hn0'.1)
      subst ev151 ev154
      rw [hl150] at HO152 HO155
      rw [hl153] at HO155
      have HV : VR w w25 gp gb l1.length cp cb y150 y153 := ⟨HB.1, fun e => (Kd.R_tight rfl HO152.1).1 gp (by rfl) |> fun _ => absurd (HO152.1.1 gp rfl) (by rw [e]; simp [Value.ownBlock]), Kd.R_mono HO152.1 (fun _ _ => trivial), Kd.R_mono HO155.1 (fun _ _ => trivial)⟩
      clear HO152 HO155
      rw [hl150, hl153]
      replace hl150 := ak hl150
      replace hl153 := ak hl153
      obtain ⟨hcz26_0, hcz26_1, hcz26_2, hcz26_3, hcz26_4, hfz26_0, hfz26_1, hfz26_2, hfz26_3, hfz26_4⟩ := cz5_ BK147
      clear HB
      have c15b0 : (0 < l1.length) = True := eq_true hn0'.1
      (try go_wp2_with (first | ((with_reducible refine gate_callee (f := 29) rfl ?_); refine gl_ 38 Try.func29 #[.agg #[.int .i64 a0_0, .int .i64 a0_1, .int .i64 a0_2]] ?_; (with_reducible refine (boxpack_sides.calls a0_0 a0_1 a0_2 a0_0 a0_1 a0_2 _ rfl).mono ?_); rintro e w27 ⟨rfl, hb⟩; refine ⟨_, rfl, ?_⟩; replace HV := HV.keep hb; replace BK147 := bb_ BK147 hb; clear hb; obtain ⟨hx15_0, hx15_1, hx15_2, hf15⟩ := HV.cellP (x := 0) (by omega) (by have := hn0'.1; omega); have hf15_0 := hf15 0; have hf15_1 := hf15 1; have hf15_2 := hf15 2; clear hf15; simp only [Int.toNat_zero, Nat.zero_mul, Nat.zero_add, Nat.add_zero] at hx15_0 hx15_1 hx15_2 hf15_0 hf15_1 hf15_2) | ((with_reducible refine gate_store (t := 64) (p := 39) rfl ?_); refine store_event (t := 64) (p := 39) (v := ?vo_v0) (w1 := (((w27.setCell ⟨gp, 0, none⟩ (.int .i64 a0_0)).setCell ⟨gp, 1, none⟩ (.int .i64 a0_1)).setCell ⟨gp, 2, none⟩ (.int .i64 a0_2))) ?hg ?ho ?hn ?hr ?_; (case ho => rfl); (case hg => rfl); (case hn => rfl); (case hr => (go_simp; done)); intro w29 hw; have ne_ := (HV.neT hn0'.1 BK147 (by decide)).1; replace BK147 := bs3_ BK147 ne_ hw; replace HV := (show VR w w29 gp gb l1.length cp cb (y150.set 0 ⟨a0_0, a0_1, a0_2⟩) y153 from by rw [hw]; exact HV.setP (x := 0) (by omega) (by have := hn0'.1; omega) a0_0 a0_1 a0_2); clear hw ne_ hx15_0 hx15_1 hx15_2 hf15_0 hf15_1 hf15_2)))
      have hst : valF a0_3 l0_4 (l1.drop (0 : Int).toNat) (0 : Int).toNat (y150.set 0 ⟨a0_0, a0_1, a0_2⟩) y153 0 = some (r1, r2) := by rw [Ny150.1, Ny153.1]; simpa using H'.1
      (go_loopg [9, 42] (l1.length + 1) (fun kq v9 v42 w' => ∃ (ps bs : List S23) (x9_1 x42_1 : Int), v9 = .int .i64 x9_1 ∧ v42 = .int .i64 x42_1 ∧ Aside0 ((0 ≤ x42_1 ∧ x42_1 ≤ (l1.length : Int)) ∧ (kq : Int) + x42_1 = (l1.length : Int) + 1 ∧ valF a0_3 l0_4 (l1.drop x42_1.toNat) x42_1.toNat ps bs x9_1 = some (r1, r2)) ∧ VR w w' gp gb l1.length cp cb ps bs ∧ Aside0 (w'.heap[gb147]? = some (.cells #[.int .i64 a0_0, .int .i64 a0_1, .int .i64 a0_2, .int .i64 a0_3, (.slice A0_4 l0_4.length c0_4)] 33 (0, 0)))))
      case atStart => exact ⟨_, _, 0, 0, rfl, rfl, ⟨⟨by omega, by omega⟩, by omega, hst⟩, HV, BK147⟩
      clear hst H' HV BK147 Ny150 Ny153 hl150 hl153 c4b0 c4b1 c5b0 c5b1 c11b0 c11b1 c12b0 c12b1 c14b0 c15b0
      clear A3 A9
      obtain ⟨ps, bs, x9_1, x42_1, rfl, rfl, HA, HV, BK147⟩ := hrel
      cases gk with
      | zero => exact absurd HA.1 (by rintro ⟨⟨_, _⟩, _, _⟩; omega)
      | succ k1 =>
        by_cases c30 : x42_1 < (l1.length : Int)
        · have c30b0 := decide_eq_true c30
          have hF := HA.1.2.2
          rw [drop61 l1 x42_1 HA.1.1.1 c30, valF] at hF
          obtain ⟨nd, hnd⟩ : ∃ nd, nd = rd_T61 l1 x42_1 := ⟨_, rfl⟩
          rw [← hnd] at hF
          have Nnd := ak hnd
          clear hnd
          obtain ⟨sp, hsp⟩ : ∃ sp, sp = rd_T23 ps x42_1 := ⟨_, rfl⟩
          have Nsp := ak hsp
          clear hsp
          obtain ⟨sb, hsb⟩ : ∃ sb, sb = rd_T23 bs x42_1 := ⟨_, rfl⟩
          have Nsb := ak hsb
          clear hsb
          have p162 := HA.1.1.1
          have q162 := c30
          have hq_ := ak c30
          clear c30
          by_cases c34 : nd.f0 = 1
          · rw [if_pos c34] at hF
            have c34b0 := beq_iff_eq.mpr c34
            have c34b1 := bne_eq_false_iff_eq.mpr c34
            clear c34
            obtain ⟨t164, et164⟩ : ∃ t, t = itemIx l0_4 nd.f1 0 := ⟨_, rfl⟩
            rw [← et164] at hF
            have A35 : Aside0 (api_Item_30_by_boxpack_Value_1.f 1001 l0_4 (nd.f0) (nd.f1) (nd.f2) (nd.f3) (nd.f4) (nd.f5) (nd.f6) = some t164) := ⟨by rw [et164]; exact item_f _ _ _ _ _ _ _ _ hlen.1⟩
            have q165 : t164 < (l0_4.length : Int) := by rw [et164]; simpa using itemIx_lt nd.f1 l0_4 0
            replace q165 := ak q165
            clear et164
            by_cases c36 : t164 < 0
            · rw [if_pos c36] at hF
              simp only [Option.some.injEq, Prod.mk.injEq] at hF
              obtain ⟨rfl, rfl⟩ := hF
              have c36b0 := decide_eq_true c36
              clear c36
              obtain ⟨ad162, e162, hx162_0, hx162_1, hx162_2, hx162_3, hx162_4, hx162_5, hx162_6⟩ := at_T61 HR1.1 x42_1 p162 q162
              cases e162
              rw [← Nnd.1] at hx162_0 hx162_1 hx162_2 hx162_3 hx162_4 hx162_5 hx162_6
              replace hx162_0 := (HV.hb.cell (World.block_lt_of_cell? w _ hx162_0)).trans hx162_0
              replace hx162_1 := (HV.hb.cell (World.block_lt_of_cell? w _ hx162_1)).trans hx162_1
              replace hx162_2 := (HV.hb.cell (World.block_lt_of_cell? w _ hx162_2)).trans hx162_2
              replace hx162_3 := (HV.hb.cell (World.block_lt_of_cell? w _ hx162_3)).trans hx162_3
              replace hx162_4 := (HV.hb.cell (World.block_lt_of_cell? w _ hx162_4)).trans hx162_4
              replace hx162_5 := (HV.hb.cell (World.block_lt_of_cell? w _ hx162_5)).trans hx162_5
              replace hx162_6 := (HV.hb.cell (World.block_lt_of_cell? w _ hx162_6)).trans hx162_6
              replace p162 := eq_true p162
              replace q162 := eq_true q162
              (try go_wp2_with (first | ((with_reducible refine gate_dst (N := 11) rfl ?_); refine bx_ 11 #[.int .i64 0, .string (⟨#[]⟩ : ByteArray), .int .i64 0, .int .i64 0, .int .i64 0, .int .i64 0, .int .i64 0] 61 ?_; intro gb161 hg w39 hbox hb; have BK161 := ak hbox; have NE161 := HV.ne hn0'.1 hg; have NB147_161 := nl_ BK147 hg; replace HV := HV.keep hb; replace BK147 := bb_ BK147 hb; clear hb hbox hg hx162_0 hx162_1 hx162_2 hx162_3 hx162_4 hx162_5 hx162_6; obtain ⟨⟨hcy_0, hcy_1, hcy_2, hcy_3, hcy_4, hcy_5, hcy_6⟩, hfy_0, hfy_1, hfy_2, hfy_3, hfy_4, hfy_5, hfy_6⟩ := cz7_ BK161) | ((with_reducible refine gate_store (t := 61) (p := 11) rfl ?_); refine store_event (t := 61) (p := 11) (v := ?vo_v2) (w1 := (((((((w39.setCell ⟨gb161, 0, none⟩ (.int .i64 (nd.f0))).setCell ⟨gb161, 1, none⟩ (.string (nd.f1))).setCell ⟨gb161, 2, none⟩ (.int .i64 (nd.f2))).setCell ⟨gb161, 3, none⟩ (.int .i64 (nd.f3))).setCell ⟨gb161, 4, none⟩ (.int .i64 (nd.f4))).setCell ⟨gb161, 5, none⟩ (.int .i64 (nd.f5))).setCell ⟨gb161, 6, none⟩ (.int .i64 (nd.f6)))) ?hg2 ?ho2 ?hn2 ?hr2 ?_; (case ho2 => rfl); (case hg2 => rfl); (case hn2 => rfl); (case hr2 => (go_simp; done)); intro w40 hw; clear hcy_0 hcy_1 hcy_2 hcy_3 hcy_4 hcy_5 hcy_6 hfy_0 hfy_1 hfy_2 hfy_3 hfy_4 hfy_5 hfy_6; replace HV := (show VR w w40 gp gb l1.length cp cb ps bs from by rw [hw]; exact ((((((HV.far NE161 _).far NE161 _).far NE161 _).far NE161 _).far NE161 _).far NE161 _).far NE161 _); replace BK147 := (show Aside0 (w40.heap[gb147]? = some (.cells #[.int .i64 a0_0, .int .i64 a0_1, .int .i64 a0_2, .int .i64 a0_3, (.slice A0_4 l0_4.length c0_4)] 33 (0, 0))) from by rw [hw]; exact bf7_ BK147 NB147_161); replace BK161 := (show Aside0 (w40.heap[gb161]? = some (.cells #[.int .i64 (nd.f0), .string (nd.f1), .int .i64 (nd.f2), .int .i64 (nd.f3), .int .i64 (nd.f4), .int .i64 (nd.f5), .int .i64 (nd.f6)] 61 (0, 0))) from by rw [hw]; exact bp7_ BK161); clear hw; obtain ⟨hx166_0, hx166_1, hx166_2, hf166⟩ := HV.cellP (x := x42_1) (of_eq_true p162) (of_eq_true q162); clear hf166; rw [← Nsp.1] at hx166_0 hx166_1 hx166_2) | ((with_reducible refine gate_dst (N := 12) rfl ?_); refine bx_ 12 #[.int .i64 0, .int .i64 0, .int .i64 0] 64 ?_; intro gb163 hg w41 hbox hb; have BK163 := ak hbox; have NE163 := HV.ne hn0'.1 hg; have NB147_163 := nl_ BK147 hg; have NB161_163 := nl_ BK161 hg; have NB163_161 := nr_ BK161 hg; have NB163_147 := nr_ BK147 hg; replace HV := HV.keep hb; replace BK147 := bb_ BK147 hb; replace BK161 := bb_ BK161 hb; clear hb hbox hg hx166_0 hx166_1 hx166_2; obtain ⟨hcx_0, hcx_1, hcx_2, hfx_0, hfx_1, hfx_2⟩ := cz3_ BK163; have hnb_ := NB163_161.1; have hnc_ := NB161_163.1; have hnb2_ := NB163_147.1; have hnc2_ := NB147_163.1; obtain ⟨hcz45_0, hcz45_1, hcz45_2, hcz45_3, hcz45_4, hfz45_0, hfz45_1, hfz45_2, hfz45_3, hfz45_4⟩ := cz5_ BK147; obtain ⟨⟨hcy_0, hcy_1, hcy_2, hcy_3, hcy_4, hcy_5, hcy_6⟩, hfy_0, hfy_1, hfy_2, hfy_3, hfy_4, hfy_5, hfy_6⟩ := cz7_ BK161) | (go_at_call 30; (with_reducible refine (api_Item_30_by_boxpack_Value_1.calls 1001 _ _ l0_4 gb161 (nd.f0) (nd.f1) (nd.f2) (nd.f3) (nd.f4) (nd.f5) (nd.f6) t164 _ ?side1 ?side2 ?side3 A35.1).mono ?_); (case side1 => exact Kd.C_below HR0_4.1 (HV.far3 NE163).hb); (case side2 => exact HC0_4.1); (case side3 => exact bf3_ BK161 NB161_163); rintro e w46 ⟨rfl, hb⟩; replace HV := (HV.far3 NE163).keep hb; replace BK147 := bb_ ⟨bf3_ BK147 NB147_163⟩ hb; replace BK161 := bb_ ⟨bf3_ BK161 NB161_163⟩ hb; replace BK163 := bb_ (bp3_ BK163) hb; clear hb; clear hcy_0 hcy_1 hcy_2 hcy_3 hcy_4 hcy_5 hcy_6 hfy_0 hfy_1 hfy_2 hfy_3 hfy_4 hfy_5 hfy_6; clear hcz45_0 hcz45_1 hcz45_2 hcz45_3 hcz45_4 hfz45_0 hfz45_1 hfz45_2 hfz45_3 hfz45_4)))
              (go_ret2)
              exact ⟨rfl, HV.hb⟩
            rw [if_neg c36] at hF
            have c36b0 := decide_eq_false c36
            have p165 : 0 ≤ t164 := by omega
            replace p165 := ak p165
            clear c36
            obtain ⟨ad162, e162, hx162_0, hx162_1, hx162_2, hx162_3, hx162_4, hx162_5, hx162_6⟩ := at_T61 HR1.1 x42_1 p162 q162
            cases e162
            rw [← Nnd.1] at hx162_0 hx162_1 hx162_2 hx162_3 hx162_4 hx162_5 hx162_6
            replace hx162_0 := (HV.hb.cell (World.block_lt_of_cell? w _ hx162_0)).trans hx162_0
            replace hx162_1 := (HV.hb.cell (World.block_lt_of_cell? w _ hx162_1)).trans hx162_1
            replace hx162_2 := (HV.hb.cell (World.block_lt_of_cell? w _ hx162_2)).trans hx162_2
            replace hx162_3 := (HV.hb.cell (World.block_lt_of_cell? w _ hx162_3)).trans hx162_3
            replace hx162_4 := (HV.hb.cell (World.block_lt_of_cell? w _ hx162_4)).trans hx162_4
            replace hx162_5 := (HV.hb.cell (World.block_lt_of_cell? w _ hx162_5)).trans hx162_5
            replace hx162_6 := (HV.hb.cell (World.block_lt_of_cell? w _ hx162_6)).trans hx162_6
            replace p162 := eq_true p162
            replace q162 := eq_true q162
            (try go_wp2_with (first | ((with_reducible refine gate_dst (N := 11) rfl ?_); refine bx_ 11 #[.int .i64 0, .string (⟨#[]⟩ : ByteArray), .int .i64 0, .int .i64 0, .int .i64 0, .int .i64 0, .int .i64 0] 61 ?_; intro gb161 hg w39 hbox hb; have BK161 := ak hbox; have NE161 := HV.ne hn0'.1 hg; have NB147_161 := nl_ BK147 hg; replace HV := HV.keep hb; replace BK147 := bb_ BK147 hb; clear hb hbox hg hx162_0 hx162_1 hx162_2 hx162_3 hx162_4 hx162_5 hx162_6; obtain ⟨⟨hcy_0, hcy_1, hcy_2, hcy_3, hcy_4, hcy_5, hcy_6⟩, hfy_0, hfy_1, hfy_2, hfy_3, hfy_4, hfy_5, hfy_6⟩ := cz7_ BK161) | ((with_reducible refine gate_store (t := 61) (p := 11) rfl ?_); refine store_event (t := 61) (p := 11) (v := ?vo_v5) (w1 := (((((((w39.setCell ⟨gb161, 0, none⟩ (.int .i64 (nd.f0))).setCell ⟨gb161, 1, none⟩ (.string (nd.f1))).setCell ⟨gb161, 2, none⟩ (.int .i64 (nd.f2))).setCell ⟨gb161, 3, none⟩ (.int .i64 (nd.f3))).setCell ⟨gb161, 4, none⟩ (.int .i64 (nd.f4))).setCell ⟨gb161, 5, none⟩ (.int .i64 (nd.f5))).setCell ⟨gb161, 6, none⟩ (.int .i64 (nd.f6)))) ?hg5 ?ho5 ?hn5 ?hr5 ?_; (case ho5 => rfl); (case hg5 => rfl); (case hn5 => rfl); (case hr5 => (go_simp; done)); intro w40 hw; clear hcy_0 hcy_1 hcy_2 hcy_3 hcy_4 hcy_5 hcy_6 hfy_0 hfy_1 hfy_2 hfy_3 hfy_4 hfy_5 hfy_6; replace HV := (show VR w w40 gp gb l1.length cp cb ps bs from by rw [hw]; exact ((((((HV.far NE161 _).far NE161 _).far NE161 _).far NE161 _).far NE161 _).far NE161 _).far NE161 _); replace BK147 := (show Aside0 (w40.heap[gb147]? = some (.cells #[.int .i64 a0_0, .int .i64 a0_1, .int .i64 a0_2, .int .i64 a0_3, (.slice A0_4 l0_4.length c0_4)] 33 (0, 0))) from by rw [hw]; exact bf7_ BK147 NB147_161); replace BK161 := (show Aside0 (w40.heap[gb161]? = some (.cells #[.int .i64 (nd.f0), .string (nd.f1), .int .i64 (nd.f2), .int .i64 (nd.f3), .int .i64 (nd.f4), .int .i64 (nd.f5), .int .i64 (nd.f6)] 61 (0, 0))) from by rw [hw]; exact bp7_ BK161); clear hw; obtain ⟨hx166_0, hx166_1, hx166_2, hf166⟩ := HV.cellP (x := x42_1) (of_eq_true p162) (of_eq_true q162); clear hf166; rw [← Nsp.1] at hx166_0 hx166_1 hx166_2) | ((with_reducible refine gate_dst (N := 12) rfl ?_); refine bx_ 12 #[.int .i64 0, .int .i64 0, .int .i64 0] 64 ?_; intro gb163 hg w41 hbox hb; have BK163 := ak hbox; have NE163 := HV.ne hn0'.1 hg; have NB147_163 := nl_ BK147 hg; have NB161_163 := nl_ BK161 hg; have NB163_161 := nr_ BK161 hg; have NB163_147 := nr_ BK147 hg; replace HV := HV.keep hb; replace BK147 := bb_ BK147 hb; replace BK161 := bb_ BK161 hb; clear hb hbox hg hx166_0 hx166_1 hx166_2; obtain ⟨hcx_0, hcx_1, hcx_2, hfx_0, hfx_1, hfx_2⟩ := cz3_ BK163; have hnb_ := NB163_161.1; have hnc_ := NB161_163.1; have hnb2_ := NB163_147.1; have hnc2_ := NB147_163.1; obtain ⟨hcz45_0, hcz45_1, hcz45_2, hcz45_3, hcz45_4, hfz45_0, hfz45_1, hfz45_2, hfz45_3, hfz45_4⟩ := cz5_ BK147; obtain ⟨⟨hcy_0, hcy_1, hcy_2, hcy_3, hcy_4, hcy_5, hcy_6⟩, hfy_0, hfy_1, hfy_2, hfy_3, hfy_4, hfy_5, hfy_6⟩ := cz7_ BK161) | (go_at_call 30; (with_reducible refine (api_Item_30_by_boxpack_Value_1.calls 1001 _ _ l0_4 gb161 (nd.f0) (nd.f1) (nd.f2) (nd.f3) (nd.f4) (nd.f5) (nd.f6) t164 _ ?side1 ?side2 ?side3 A35.1).mono ?_); (case side1 => exact Kd.C_below HR0_4.1 (HV.far3 NE163).hb); (case side2 => exact HC0_4.1); (case side3 => exact bf3_ BK161 NB161_163); rintro e w46 ⟨rfl, hb⟩; replace HV := (HV.far3 NE163).keep hb; replace BK147 := bb_ ⟨bf3_ BK147 NB147_163⟩ hb; replace BK161 := bb_ ⟨bf3_ BK161 NB161_163⟩ hb; replace BK163 := bb_ (bp3_ BK163) hb; clear hb; clear hcy_0 hcy_1 hcy_2 hcy_3 hcy_4 hcy_5 hcy_6 hfy_0 hfy_1 hfy_2 hfy_3 hfy_4 hfy_5 hfy_6; clear hcz45_0 hcz45_1 hcz45_2 hcz45_3 hcz45_4 hfz45_0 hfz45_1 hfz45_2 hfz45_3 hfz45_4)))
            obtain ⟨ad165, e165, hw165_0, hw165_1, hw165_2, hw165_3, hw165_4, hw165_5, hw165_6⟩ := at_T56 HR0_4.1 t164 p165.1 q165.1
            cases e165
            have p165' := eq_true p165.1
            have q165' := eq_true q165.1
            replace BK147 := ak (blk_drew BK147.1)
            replace BK161 := ak (blk_drew BK161.1)
            replace BK163 := ak (blk_drew BK163.1)
            replace HV := HV.keep (below_drew1 (Below.refl _ _))
            (refine start_ (n := 10) (S := (fun w' => w'.cell? ⟨gb147, 4, none⟩ = some (.slice (some ad165) l0_4.length c0_4) ∧ w'.cell? ⟨gb163, 0, none⟩ = some (.int .i64 (sp.f0)) ∧ w'.cell? ⟨gb163, 1, none⟩ = some (.int .i64 (sp.f1)) ∧ w'.cell? ⟨gb163, 2, none⟩ = some (.int .i64 (sp.f2)) ∧ w'.cell? ⟨(ad165.add (t164.toNat * 7)).block, (ad165.add (t164.toNat * 7)).off + 1, none⟩ = some (.int .i64 ((rd_T56 l0_4 t164).f1.f0)) ∧ w'.cell? ⟨(ad165.add (t164.toNat * 7)).block, (ad165.add (t164.toNat * 7)).off + 2, none⟩ = some (.int .i64 ((rd_T56 l0_4 t164).f1.f1)) ∧ w'.cell? ⟨(ad165.add (t164.toNat * 7)).block, (ad165.add (t164.toNat * 7)).off + 3, none⟩ = some (.int .i64 ((rd_T56 l0_4 t164).f1.f2)))) (ds := []) (bm 10 0) (by kernel_rfl) rfl rfl ⟨bc_ BK147 4, bc_ BK163 0, bc_ BK163 1, bc_ BK163 2, (HV.hb.cell (World.block_lt_of_cell? w _ hw165_1)).trans hw165_1, (HV.hb.cell (World.block_lt_of_cell? w _ hw165_2)).trans hw165_2, (HV.hb.cell (World.block_lt_of_cell? w _ hw165_3)).trans hw165_3⟩ (fun hHeld => ?_)); refine with_tabW bvv_.tab20 bvv_.bits20 (fun HT_ HW_ => ?_)
            generalize w46.drew = w62 at HV BK147 BK161 BK163 hHeld ⊢
            refine pv_ 0 HT_ ?_; refine pv_ 2 HT_ ?_; refine tv_ 1 HT_ HW_ hHeld ?_; refine pv_ 3 HT_ ?_; refine pv_ 4 HT_ ?_; refine tv_ 5 HT_ HW_ hHeld ?_; refine tv_ 7 HT_ HW_ hHeld ?_
            (refine one_ (i := 6) (N := some 67) (bm 10 255) rfl rfl (one_of HT_.1 (by kernel_rfl)) (by decide) (fun K hK => ?_)); (refine goes_ Try.func29 (by kernel_rfl) rfl #[.agg #[.int .i64 ((rd_T56 l0_4 t164).f1.f0), .int .i64 ((rd_T56 l0_4 t164).f1.f1), .int .i64 ((rd_T56 l0_4 t164).f1.f2)]] (by rfl) rfl rfl am_ ?_)
            (with_reducible refine (boxpack_sides.calls ((rd_T56 l0_4 t164).f1.f0) ((rd_T56 l0_4 t164).f1.f1) ((rd_T56 l0_4 t164).f1.f2) ((rd_T56 l0_4 t164).f1.f0) ((rd_T56 l0_4 t164).f1.f1) ((rd_T56 l0_4 t164).f1.f2) _ rfl).mono ?_); rintro e w63 ⟨rfl, hb⟩; refine ⟨_, rfl, ?_⟩
            replace BK147 := bb_ BK147 hb; replace BK161 := bb_ BK161 hb; replace BK163 := bb_ BK163 hb; replace HV := HV.keep hb; clear hb
            (refine hK.out _ _ ⟨bc_ BK147 4, bc_ BK163 0, bc_ BK163 1, bc_ BK163 2, (HV.hb.cell (World.block_lt_of_cell? w _ hw165_1)).trans hw165_1, (HV.hb.cell (World.block_lt_of_cell? w _ hw165_2)).trans hw165_2, (HV.hb.cell (World.block_lt_of_cell? w _ hw165_3)).trans hw165_3⟩ (fun hHeld => ?_)); clear hK K; refine nv_ ?_
            obtain ⟨t190, et190⟩ : ∃ t, t = fitsB (rd_T56 l0_4 t164).f1 sp := ⟨_, rfl⟩
            have A61 : Aside0 (boxpack_fits.f (rd_T56 l0_4 t164).f1.f0 (rd_T56 l0_4 t164).f1.f1 (rd_T56 l0_4 t164).f1.f2 sp.f0 sp.f1 sp.f2 = some t190) := ⟨by rw [et190]; exact fits_eq (rd_T56 l0_4 t164).f1 sp⟩
            have hidx : ((x42_1.toNat : Int)) = x42_1 := by have := HA.1; omega
            rw [hidx, ← Nsp.1, ← et190] at hF
            clear et190 hidx
            (refine one_ (i := 8) (N := some 69) (bm 10 511) rfl rfl (one_of HT_.1 (by kernel_rfl)) (by decide) (fun K hK => ?_)); (refine goes_ Try.func32 (by kernel_rfl) rfl #[.agg #[.int .i64 ((rd_T56 l0_4 t164).f1.f0), .int .i64 ((rd_T56 l0_4 t164).f1.f1), .int .i64 ((rd_T56 l0_4 t164).f1.f2)], .agg #[.int .i64 (sp.f0), .int .i64 (sp.f1), .int .i64 (sp.f2)]] (by rfl) rfl rfl am_ ?_)
            (with_reducible refine (boxpack_fits.calls (rd_T56 l0_4 t164).f1.f0 (rd_T56 l0_4 t164).f1.f1 (rd_T56 l0_4 t164).f1.f2 (sp.f0) (sp.f1) (sp.f2) t190 _ A61.1).mono ?_); rintro e w64 ⟨rfl, hb⟩; refine ⟨_, rfl, ?_⟩
            replace BK147 := bb_ BK147 hb; replace BK161 := bb_ BK161 hb; replace BK163 := bb_ BK163 hb; replace HV := HV.keep hb; clear hb
            (refine hK.out _ _ ⟨bc_ BK147 4, bc_ BK163 0, bc_ BK163 1, bc_ BK163 2, (HV.hb.cell (World.block_lt_of_cell? w _ hw165_1)).trans hw165_1, (HV.hb.cell (World.block_lt_of_cell? w _ hw165_2)).trans hw165_2, (HV.hb.cell (World.block_lt_of_cell? w _ hw165_3)).trans hw165_3⟩ (fun hHeld => ?_)); clear hK K hHeld; refine nv_ ?_; refine pv_ 9 HT_ ?_; (refine done_ (done_of HT_.1 (by kernel_rfl)) ?_)
            cases t190 with
            | false =>
              rw [if_neg (by decide)] at hF
              simp only [Option.some.injEq, Prod.mk.injEq] at hF
              obtain ⟨rfl, rfl⟩ := hF
              (try go_wp2)
              (go_ret2)
              exact ⟨rfl, HV.hb⟩
            | true =>
              rw [if_pos rfl] at hF
              obtain ⟨hcz45_0, hcz45_1, hcz45_2, hcz45_3, hcz45_4, hfz45_0, hfz45_1, hfz45_2, hfz45_3, hfz45_4⟩ := cz5_ BK147
              have hx170_4 := (HV.hb.cell (World.block_lt_of_cell? w _ hw165_4)).trans hw165_4
              clear hw165_0 hw165_1 hw165_2 hw165_3 hw165_4 hw165_5 hw165_6
              (try go_wp2)
              (go_roundg k1)
              case measure => have := HA.1; omega
              have hx_ : wrap64 (x42_1 + 1) = x42_1 + 1 := wr_ (by have := HA.1; have := hn1.1; omega) (by have := HA.1; have := hn1.1; omega)
              exact ⟨ps, bs, wrap64 (x9_1 + (rd_T56 l0_4 t164).f2), wrap64 (x42_1 + 1), rfl, rfl, ⟨by rw [hx_]; have := HA.1; have := hq_.1; refine ⟨by omega, by omega, ?_⟩; rw [show (x42_1 + 1).toNat = x42_1.toNat + 1 by omega]; exact hF⟩, HV, ⟨bk_ BK147⟩⟩
          rw [if_neg c34] at hF
          have c34b0 := beq_eq_false_iff_ne.mpr c34
          have c34b1 := bne_iff_ne.mpr c34
          clear c34
          by_cases c79 : nd.f0 = 3
          · rw [if_pos c79] at hF
            have c79b0 := beq_iff_eq.mpr c79
            have c79b1 := bne_eq_false_iff_eq.mpr c79
            clear c79
            have hok_ : ((0 ≤ nd.f2 ∧ nd.f2 ≤ 2) ∧ (0 ≤ nd.f5 ∧ nd.f5 < (ps.length : Int)) ∧ (0 ≤ nd.f6 ∧ nd.f6 < (ps.length : Int))) := Classical.byContradiction fun hn => by rw [if_neg hn] at hF; exact absurd hF (by simp)
            rw [if_pos hok_] at hF
            have hidx : ((x42_1.toNat : Int)) = x42_1 := by have := HA.1; omega
            rw [hidx, ← Nsp.1, ← Nsb.1] at hF
            clear hidx
            rw [HV.lp] at hok_
            obtain ⟨hax, h5, h6⟩ := hok_
            replace hax := ak hax
            replace h5 := ak h5
            replace h6 := ak h6
            obtain ⟨ad162, e162, hx162_0, hx162_1, hx162_2, hx162_3, hx162_4, hx162_5, hx162_6⟩ := at_T61 HR1.1 x42_1 p162 q162
            cases e162
            rw [← Nnd.1] at hx162_0 hx162_1 hx162_2 hx162_3 hx162_4 hx162_5 hx162_6
            replace hx162_0 := (HV.hb.cell (World.block_lt_of_cell? w _ hx162_0)).trans hx162_0
            replace hx162_1 := (HV.hb.cell (World.block_lt_of_cell? w _ hx162_1)).trans hx162_1
            replace hx162_2 := (HV.hb.cell (World.block_lt_of_cell? w _ hx162_2)).trans hx162_2
            replace hx162_3 := (HV.hb.cell (World.block_lt_of_cell? w _ hx162_3)).trans hx162_3
            replace hx162_4 := (HV.hb.cell (World.block_lt_of_cell? w _ hx162_4)).trans hx162_4
            replace hx162_5 := (HV.hb.cell (World.block_lt_of_cell? w _ hx162_5)).trans hx162_5
            replace hx162_6 := (HV.hb.cell (World.block_lt_of_cell? w _ hx162_6)).trans hx162_6
            replace p162 := eq_true p162
            replace q162 := eq_true q162
            (try go_wp2_with (first | ((with_reducible refine gate_dst (N := 11) rfl ?_); refine bx_ 11 #[.int .i64 0, .string (⟨#[]⟩ : ByteArray), .int .i64 0, .int .i64 0, .int .i64 0, .int .i64 0, .int .i64 0] 61 ?_; intro gb161 hg w39 hbox hb; have BK161 := ak hbox; have NE161 := HV.ne hn0'.1 hg; have NB147_161 := nl_ BK147 hg; replace HV := HV.keep hb; replace BK147 := bb_ BK147 hb; clear hb hbox hg hx162_0 hx162_1 hx162_2 hx162_3 hx162_4 hx162_5 hx162_6; obtain ⟨⟨hcy_0, hcy_1, hcy_2, hcy_3, hcy_4, hcy_5, hcy_6⟩, hfy_0, hfy_1, hfy_2, hfy_3, hfy_4, hfy_5, hfy_6⟩ := cz7_ BK161) | ((with_reducible refine gate_store (t := 61) (p := 11) rfl ?_); refine store_event (t := 61) (p := 11) (v := ?vo_v12) (w1 := (((((((w39.setCell ⟨gb161, 0, none⟩ (.int .i64 (nd.f0))).setCell ⟨gb161, 1, none⟩ (.string (nd.f1))).setCell ⟨gb161, 2, none⟩ (.int .i64 (nd.f2))).setCell ⟨gb161, 3, none⟩ (.int .i64 (nd.f3))).setCell ⟨gb161, 4, none⟩ (.int .i64 (nd.f4))).setCell ⟨gb161, 5, none⟩ (.int .i64 (nd.f5))).setCell ⟨gb161, 6, none⟩ (.int .i64 (nd.f6)))) ?hg12 ?ho12 ?hn12 ?hr12 ?_; (case ho12 => rfl); (case hg12 => rfl); (case hn12 => rfl); (case hr12 => (go_simp; done)); intro w40 hw; clear hcy_0 hcy_1 hcy_2 hcy_3 hcy_4 hcy_5 hcy_6 hfy_0 hfy_1 hfy_2 hfy_3 hfy_4 hfy_5 hfy_6; replace HV := (show VR w w40 gp gb l1.length cp cb ps bs from by rw [hw]; exact ((((((HV.far NE161 _).far NE161 _).far NE161 _).far NE161 _).far NE161 _).far NE161 _).far NE161 _); replace BK147 := (show Aside0 (w40.heap[gb147]? = some (.cells #[.int .i64 a0_0, .int .i64 a0_1, .int .i64 a0_2, .int .i64 a0_3, (.slice A0_4 l0_4.length c0_4)] 33 (0, 0))) from by rw [hw]; exact bf7_ BK147 NB147_161); replace BK161 := (show Aside0 (w40.heap[gb161]? = some (.cells #[.int .i64 (nd.f0), .string (nd.f1), .int .i64 (nd.f2), .int .i64 (nd.f3), .int .i64 (nd.f4), .int .i64 (nd.f5), .int .i64 (nd.f6)] 61 (0, 0))) from by rw [hw]; exact bp7_ BK161); clear hw; obtain ⟨hx166_0, hx166_1, hx166_2, hf166⟩ := HV.cellP (x := x42_1) (of_eq_true p162) (of_eq_true q162); clear hf166; rw [← Nsp.1] at hx166_0 hx166_1 hx166_2) | ((with_reducible refine gate_dst (N := 12) rfl ?_); refine bx_ 12 #[.int .i64 0, .int .i64 0, .int .i64 0] 64 ?_; intro gb163 hg w41 hbox hb; have BK163 := ak hbox; have NE163 := HV.ne hn0'.1 hg; have NB147_163 := nl_ BK147 hg; have NB161_163 := nl_ BK161 hg; have NB163_161 := nr_ BK161 hg; have NB163_147 := nr_ BK147 hg; replace HV := HV.keep hb; replace BK147 := bb_ BK147 hb; replace BK161 := bb_ BK161 hb; clear hb hbox hg hx166_0 hx166_1 hx166_2; obtain ⟨hcx_0, hcx_1, hcx_2, hfx_0, hfx_1, hfx_2⟩ := cz3_ BK163; have hnb_ := NB163_161.1; have hnc_ := NB161_163.1; have hnb2_ := NB163_147.1; have hnc2_ := NB147_163.1; have hnb3_ := NE163.2.2; have hnc3_ := NE163.2.2.symm; obtain ⟨hxb_0, hxb_1, hxb_2, hfb⟩ := HV.cellB (x := x42_1) (of_eq_true p162) (of_eq_true q162); clear hfb; rw [← Nsb.1] at hxb_0 hxb_1 hxb_2; obtain ⟨hcz45_0, hcz45_1, hcz45_2, hcz45_3, hcz45_4, hfz45_0, hfz45_1, hfz45_2, hfz45_3, hfz45_4⟩ := cz5_ BK147; obtain ⟨⟨hcy_0, hcy_1, hcy_2, hcy_3, hcy_4, hcy_5, hcy_6⟩, hfy_0, hfy_1, hfy_2, hfy_3, hfy_4, hfy_5, hfy_6⟩ := cz7_ BK161) | ((with_reducible refine gate_dst (N := 14) rfl ?_); refine bx_ 14 #[.int .i64 0, .int .i64 0, .int .i64 0] 64 ?_; intro gb172 hg w43 hbox hb; have BK172 := ak hbox; have HVx := HV.far3 (i := 0) (j := 1) (k := 2) (u0 := .int .i64 (sp.f0)) (u1 := .int .i64 (sp.f1)) (u2 := .int .i64 (sp.f2)) NE163; have BKx147 := ak (bf3_ (i0 := 0) (u0 := .int .i64 (sp.f0)) (i1 := 1) (u1 := .int .i64 (sp.f1)) (i2 := 2) (u2 := .int .i64 (sp.f2)) BK147 NB147_163); have BKx161 := ak (bf3_ (i0 := 0) (u0 := .int .i64 (sp.f0)) (i1 := 1) (u1 := .int .i64 (sp.f1)) (i2 := 2) (u2 := .int .i64 (sp.f2)) BK161 NB161_163); have BKx163 := bp3_ (u0 := .int .i64 (sp.f0)) (u1 := .int .i64 (sp.f1)) (u2 := .int .i64 (sp.f2)) BK163; have NE172 := HVx.ne hn0'.1 hg; have NB147_172 := nl_ BKx147 hg; have NB172_147 := nr_ BKx147 hg; have NB161_172 := nl_ BKx161 hg; have NB172_161 := nr_ BKx161 hg; have NB163_172 := nl_ BKx163 hg; have NB172_163 := nr_ BKx163 hg; replace HV := HVx.keep hb; replace BK147 := bb_ BKx147 hb; replace BK161 := bb_ BKx161 hb; replace BK163 := bb_ BKx163 hb; clear hb hbox hg HVx BKx147 BKx161 BKx163 hxb_0 hxb_1 hxb_2; clear hcy_0 hcy_1 hcy_2 hcy_3 hcy_4 hcy_5 hcy_6 hfy_0 hfy_1 hfy_2 hfy_3 hfy_4 hfy_5 hfy_6; clear hcz45_0 hcz45_1 hcz45_2 hcz45_3 hcz45_4 hfz45_0 hfz45_1 hfz45_2 hfz45_3 hfz45_4; obtain ⟨hcx_0, hcx_1, hcx_2, hfx_0, hfx_1, hfx_2⟩ := cz3_ BK172)))
            clear hcx_0 hcx_1 hcx_2 hfx_0 hfx_1 hfx_2
            have nHV_ := HV.far3 (i := 0) (j := 1) (k := 2) (u0 := .int .i64 (sb.f0)) (u1 := .int .i64 (sb.f1)) (u2 := .int .i64 (sb.f2)) NE172
            have nBK147_ := ak (bf3_ (i0 := 0) (u0 := .int .i64 (sb.f0)) (i1 := 1) (u1 := .int .i64 (sb.f1)) (i2 := 2) (u2 := .int .i64 (sb.f2)) BK147 NB147_172)
            have nBK161_ := ak (bf3_ (i0 := 0) (u0 := .int .i64 (sb.f0)) (i1 := 1) (u1 := .int .i64 (sb.f1)) (i2 := 2) (u2 := .int .i64 (sb.f2)) BK161 NB161_172)
            have nBK163_ := ak (bf3_ (i0 := 0) (u0 := .int .i64 (sb.f0)) (i1 := 1) (u1 := .int .i64 (sb.f1)) (i2 := 2) (u2 := .int .i64 (sb.f2)) BK163 NB163_172)
            have nBK172_ := bp3_ (u0 := .int .i64 (sb.f0)) (u1 := .int .i64 (sb.f1)) (u2 := .int .i64 (sb.f2)) BK172
            clear HV BK147 BK161 BK163 BK172
            generalize (((w43.setCell ⟨gb172, 0, none⟩ (.int .i64 (sb.f0))).setCell ⟨gb172, 1, none⟩ (.int .i64 (sb.f1))).setCell ⟨gb172, 2, none⟩ (.int .i64 (sb.f2))) = w44 at nHV_ nBK147_ nBK161_ nBK163_ nBK172_ ⊢
            have HV := nHV_; have BK147 := nBK147_; have BK161 := nBK161_; have BK163 := nBK163_; have BK172 := nBK172_
            clear nHV_ nBK147_ nBK161_ nBK163_ nBK172_
            replace BK147 := ak (blk_drew BK147.1)
            replace BK161 := ak (blk_drew BK161.1)
            replace BK163 := ak (blk_drew BK163.1)
            replace BK172 := ak (blk_drew BK172.1)
            replace HV := HV.keep (below_drew1 (Below.refl _ _))
            (refine start_ (n := 31) (S := (fun w' => w'.cell? ⟨gb161, 2, none⟩ = some (.int .i64 (nd.f2)) ∧ w'.cell? ⟨gb161, 3, none⟩ = some (.int .i64 (nd.f3)) ∧ w'.cell? ⟨gb161, 4, none⟩ = some (.int .i64 (nd.f4)) ∧ w'.cell? ⟨gb147, 3, none⟩ = some (.int .i64 a0_3) ∧ w'.cell? ⟨gb172, (nd.f2).toNat, none⟩ = some (.int .i64 (getAx sb (nd.f2))) ∧ w'.cell? ⟨gb163, (nd.f2).toNat, none⟩ = some (.int .i64 (getAx sp (nd.f2))))) (ds := []) (bm 31 0) (by kernel_rfl) rfl rfl ⟨bc_ BK161 2, bc_ BK161 3, bc_ BK161 4, bc_ BK147 3, dyn_cell BK172 hax.1, dyn_cell BK163 hax.1⟩ (fun hHeld => ?_)); refine with_tabW bvv_.tab25 bvv_.bits25 (fun HT_ HW_ => ?_)
            generalize w44.drew = w144 at HV BK147 BK161 BK163 BK172 hHeld ⊢
            have pa_ := eq_true hax.1.1
            have qa_ : ((nd.f2) < 3) = True := eq_true (by have := hax.1; omega)
            refine pv_ 0 HT_ ?_; refine pv_ 2 HT_ ?_
            refine tv_ 1 HT_ HW_ hHeld ?_; refine tv_ 3 HT_ HW_ hHeld ?_
            by_cases c81 : nd.f4 = a0_3
            · have c81b0 := beq_iff_eq.mpr c81
              have c81b1 := bne_eq_false_iff_eq.mpr c81
              refine pv_ 4 HT_ ?_; refine pv_ 5 HT_ ?_; refine pv_ 6 HT_ ?_; refine pv_ 8 HT_ ?_; refine tv_ 7 HT_ HW_ hHeld ?_; refine tv_ 9 HT_ HW_ hHeld ?_; refine pv_ 10 HT_ ?_; refine tv_ 11 HT_ HW_ hHeld ?_
              by_cases c85 : (nd.f3 ≤ getAx sb (nd.f2))
              · have c85b0 := decide_eq_true c85
                rw [if_neg (fun hh => by have := hh.2.1; omega)] at hF
                clear c85 c81
                simp only [Option.some.injEq, Prod.mk.injEq] at hF
                obtain ⟨rfl, rfl⟩ := hF
                refine pv_ 12 HT_ ?_; refine pv_ 13 HT_ ?_; refine pv_ 14 HT_ ?_
                refine pu_ 15 100 (bm 31 65535) HT_ ?_
                refine pu_ 16 101 (bm 31 131071) HT_ ?_
                refine pu_ 17 102 (bm 31 262143) HT_ ?_
                refine pu_ 18 103 (bm 31 524287) HT_ ?_
                refine pu_ 19 104 (bm 31 1048575) HT_ ?_
                refine pu_ 20 105 (bm 31 2097151) HT_ ?_
                refine pu_ 21 106 (bm 31 4194303) HT_ ?_
                refine pu_ 22 107 (bm 31 8388607) HT_ ?_
                refine pu_ 23 108 (bm 31 16777215) HT_ ?_
                refine pu_ 24 109 (bm 31 33554431) HT_ ?_
                refine pu_ 25 110 (bm 31 67108863) HT_ ?_
                refine pu_ 26 111 (bm 31 134217727) HT_ ?_
                refine pu_ 27 112 (bm 31 268435455) HT_ ?_
                refine pu_ 28 113 (bm 31 536870911) HT_ ?_
                refine pu_ 29 114 (bm 31 1073741823) HT_ ?_
                refine pv_ 30 HT_ ?_
                (refine done_ (done_of HT_.1 (by kernel_rfl)) ?_)
                (try go_wp2)
                (go_ret2)
                exact ⟨rfl, HV.hb⟩
              have c85b0 := decide_eq_false c85
              refine pv_ 12 HT_ ?_; refine pv_ 13 HT_ ?_; refine pv_ 14 HT_ ?_
              by_cases c102 : (nd.f3 ≥ wrap64 (wrap64 (getAx sb (nd.f2) + getAx sp (nd.f2)) - a0_3))
              · have c102b0 := decide_eq_true c102
                rw [if_neg (fun hh => by have := hh.2.2; omega)] at hF
                clear c102 c85 c81
                simp only [Option.some.injEq, Prod.mk.injEq] at hF
                obtain ⟨rfl, rfl⟩ := hF
                refine pv_ 15 HT_ ?_; refine pv_ 17 HT_ ?_; refine pv_ 21 HT_ ?_; refine pv_ 26 HT_ ?_
                refine tv_ 16 HT_ HW_ hHeld ?_; refine tv_ 18 HT_ HW_ hHeld ?_
                refine pv_ 19 HT_ ?_
                refine tv_ 20 HT_ HW_ hHeld ?_; refine tv_ 22 HT_ HW_ hHeld ?_
                refine pv_ 23 HT_ ?_
                refine tv_ 24 HT_ HW_ hHeld ?_
                refine pv_ 25 HT_ ?_
                refine tv_ 27 HT_ HW_ hHeld ?_
                refine pv_ 28 HT_ ?_; refine pv_ 29 HT_ ?_; refine pv_ 30 HT_ ?_
                (refine done_ (done_of HT_.1 (by kernel_rfl)) ?_)
                (try go_wp2)
                (go_ret2)
                exact ⟨rfl, HV.hb⟩
              have c102b0 := decide_eq_false c102
              rw [if_pos ⟨c81, by omega, by omega⟩] at hF
              clear c102 c85 c81
              refine pv_ 15 HT_ ?_; refine pv_ 17 HT_ ?_; refine pv_ 21 HT_ ?_; refine pv_ 26 HT_ ?_
              refine tv_ 16 HT_ HW_ hHeld ?_; refine tv_ 18 HT_ HW_ hHeld ?_
              refine pv_ 19 HT_ ?_
              refine tv_ 20 HT_ HW_ hHeld ?_; refine tv_ 22 HT_ HW_ hHeld ?_
              refine pv_ 23 HT_ ?_
              refine tv_ 24 HT_ HW_ hHeld ?_
              refine pv_ 25 HT_ ?_
              refine tv_ 27 HT_ HW_ hHeld ?_
              refine pv_ 28 HT_ ?_; refine pv_ 29 HT_ ?_; refine pv_ 30 HT_ ?_
              (refine done_ (done_of HT_.1 (by kernel_rfl)) ?_)
              as_aux_lemma =>
                (try go_wp2)
                replace BK147 := ak (blk_drew BK147.1)
                replace BK161 := ak (blk_drew BK161.1)
                replace BK163 := ak (blk_drew BK163.1)
                replace BK172 := ak (blk_drew BK172.1)
                replace HV := HV.keep (below_drew1 (Below.refl _ _))
                (refine start_ (n := 8) (S := (fun w' => w'.cell? ⟨gb161, 2, none⟩ = some (.int .i64 (nd.f2)) ∧ w'.cell? ⟨gb161, 3, none⟩ = some (.int .i64 (nd.f3)) ∧ w'.cell? ⟨gb172, (nd.f2).toNat, none⟩ = some (.int .i64 (getAx sb (nd.f2))))) (ds := []) (bm 8 0) (by kernel_rfl) rfl rfl ⟨bc_ BK161 2, bc_ BK161 3, dyn_cell BK172 hax.1⟩ (fun hHeld => ?_)); refine with_tabW bvv_.tab27 bvv_.bits27 (fun HT_ HW_ => ?_)
                generalize w144.drew = w145 at HV BK147 BK161 BK163 BK172 hHeld ⊢
                refine pv_ 0 HT_ ?_; refine pv_ 2 HT_ ?_
                refine tv_ 1 HT_ HW_ hHeld ?_; refine tv_ 3 HT_ HW_ hHeld ?_
                refine pv_ 4 HT_ ?_
                refine tv_ 5 HT_ HW_ hHeld ?_
                refine pv_ 6 HT_ ?_; refine pv_ 7 HT_ ?_
                (refine done_ (done_of HT_.1 (by kernel_rfl)) ?_)
                clear hHeld
                (try go_wp2)
                replace BK147 := ak (blk_drew BK147.1)
                replace BK161 := ak (blk_drew BK161.1)
                replace BK163 := ak (blk_drew BK163.1)
                replace BK172 := ak (blk_drew BK172.1)
                replace HV := HV.keep (below_drew1 (Below.refl _ _))
                (refine start_ (n := 6) (S := (fun w' => w'.cell? ⟨gb163, 0, none⟩ = some (.int .i64 (sp.f0)) ∧ w'.cell? ⟨gb163, 1, none⟩ = some (.int .i64 (sp.f1)) ∧ w'.cell? ⟨gb163, 2, none⟩ = some (.int .i64 (sp.f2)))) (ds := []) (bm 6 0) (by kernel_rfl) rfl rfl ⟨bc_ BK163 0, bc_ BK163 1, bc_ BK163 2⟩ (fun hHeld => ?_))
                generalize w145.drew = w146 at HV BK147 BK161 BK163 BK172 hHeld ⊢
                refine tq_ 0 123 (bm 6 1) hHeld ?_
                refine tq_ 1 124 (bm 6 3) hHeld ?_
                (refine join_ (σ := Nat × Nat) 2 (bm 6 15) (fun s_ => [(16, .pointer (some ⟨s_.1, 0, none⟩)), (17, .pointer (some ⟨s_.2, 0, none⟩))]) (fun s_ w' => (w'.cell? ⟨gb163, 0, none⟩ = some (.int .i64 (sp.f0)) ∧ w'.cell? ⟨gb163, 1, none⟩ = some (.int .i64 (sp.f1)) ∧ w'.cell? ⟨gb163, 2, none⟩ = some (.int .i64 (sp.f2))) ∧ (VR w w' gp gb l1.length cp cb ps bs) ∧ (w'.heap[gb147]? = some (.cells #[.int .i64 a0_0, .int .i64 a0_1, .int .i64 a0_2, .int .i64 a0_3, (.slice A0_4 l0_4.length c0_4)] 33 (0, 0))) ∧ (w'.heap[gb161]? = some (.cells #[.int .i64 (nd.f0), .string (nd.f1), .int .i64 (nd.f2), .int .i64 (nd.f3), .int .i64 (nd.f4), .int .i64 (nd.f5), .int .i64 (nd.f6)] 61 (0, 0))) ∧ (w'.heap[gb163]? = some (.cells #[.int .i64 (sp.f0), .int .i64 (sp.f1), .int .i64 (sp.f2)] 64 (0, 0))) ∧ (w'.heap[gb172]? = some (.cells #[.int .i64 (sb.f0), .int .i64 (sb.f1), .int .i64 (sb.f2)] 64 (0, 0))) ∧ (w'.heap[s_.1]? = some (.cells #[.int .i64 0, .int .i64 0, .int .i64 0] 64 (0, 0))) ∧ (w'.heap[s_.2]? = some (.cells #[.int .i64 0, .int .i64 0, .int .i64 0] 64 (0, 0))) ∧ (w.heap.size ≤ s_.1 ∧ s_.1 ≠ gp ∧ s_.1 ≠ gb) ∧ (w.heap.size ≤ s_.2 ∧ s_.2 ≠ gp ∧ s_.2 ≠ gb) ∧ (gb147 ≠ s_.1) ∧ (gb161 ≠ s_.1) ∧ (gb163 ≠ s_.1) ∧ (gb172 ≠ s_.1) ∧ (gb147 ≠ s_.2) ∧ (gb161 ≠ s_.2) ∧ (gb163 ≠ s_.2) ∧ (gb172 ≠ s_.2) ∧ (s_.1 ≠ s_.2)) ?_ ?_); rotate_left
                · intro hCont
                  refine two_ (i := 2) (j := 3) (Ni := some 16) (Nj := some 17) (bm 6 7) (bm 6 11) rfl rfl rfl rfl (by kernel_rfl) (by decide) (by decide) (fun K hK => ?_) (fun K hK => ?_)
                  · skip
                    refine bt_ 16 #[.int .i64 0, .int .i64 0, .int .i64 0] 64 ?_
                    intro gb173 hg w147 hbox hb
                    have BK173 := ak (hbox)
                    have NE173 := HV.ne hn0'.1 hg
                    have NB147_173 := nl_ BK147 hg; have NB173_147 := nr_ BK147 hg; have NB161_173 := nl_ BK161 hg; have NB173_161 := nr_ BK161 hg; have NB163_173 := nl_ BK163 hg; have NB173_163 := nr_ BK163 hg; have NB172_173 := nl_ BK172 hg; have NB173_172 := nr_ BK172 hg
                    replace BK147 := bb_ BK147 hb; replace BK161 := bb_ BK161 hb; replace BK163 := bb_ BK163 hb; replace BK172 := bb_ BK172 hb; replace HV := HV.keep hb
                    clear hb hbox hg
                    (refine hK.out _ _ ⟨bc_ BK163 0, bc_ BK163 1, bc_ BK163 2⟩ (fun hHeld => ?_)); clear hK K; refine nv_ ?_
                    (refine one_ (i := 3) (N := some 17) (bm 6 15) rfl rfl (by kernel_rfl) (by decide) (fun K hK => ?_))
                    refine bt_ 17 #[.int .i64 0, .int .i64 0, .int .i64 0] 64 ?_
                    intro gb174 hg w148 hbox hb
                    have BK174 := ak (hbox)
                    have NE174 := HV.ne hn0'.1 hg
                    have NB147_174 := nl_ BK147 hg; have NB174_147 := nr_ BK147 hg; have NB161_174 := nl_ BK161 hg; have NB174_161 := nr_ BK161 hg; have NB163_174 := nl_ BK163 hg; have NB174_163 := nr_ BK163 hg; have NB172_174 := nl_ BK172 hg; have NB174_172 := nr_ BK172 hg; have NB173_174 := nl_ BK173 hg; have NB174_173 := nr_ BK173 hg
                    replace BK147 := bb_ BK147 hb; replace BK161 := bb_ BK161 hb; replace BK163 := bb_ BK163 hb; replace BK172 := bb_ BK172 hb; replace BK173 := bb_ BK173 hb; replace HV := HV.keep hb
                    clear hb hbox hg
                    (refine hK.out _ _ ⟨bc_ BK163 0, bc_ BK163 1, bc_ BK163 2⟩ (fun hHeld => ?_)); clear hK K; refine nv_ ?_
                    (exact norm_ (by simp only [putAll, Act.put, List.setIfInBounds_toArray, List.set_cons_zero, List.set_cons_succ]) (hCont (gb173, gb174) _ ⟨hHeld, HV, BK147.1, BK161.1, BK163.1, BK172.1, BK173.1, BK174.1, NE173, NE174, NB147_173.1, NB161_173.1, NB163_173.1, NB172_173.1, NB147_174.1, NB161_174.1, NB163_174.1, NB172_174.1, NB173_174.1⟩))
                  skip
                  refine bt_ 17 #[.int .i64 0, .int .i64 0, .int .i64 0] 64 ?_
                  intro gb174 hg w147 hbox hb
                  have BK174 := ak (hbox)
                  have NE174 := HV.ne hn0'.1 hg
                  have NB147_174 := nl_ BK147 hg; have NB174_147 := nr_ BK147 hg; have NB161_174 := nl_ BK161 hg; have NB174_161 := nr_ BK161 hg; have NB163_174 := nl_ BK163 hg; have NB174_163 := nr_ BK163 hg; have NB172_174 := nl_ BK172 hg; have NB174_172 := nr_ BK172 hg
                  replace BK147 := bb_ BK147 hb; replace BK161 := bb_ BK161 hb; replace BK163 := bb_ BK163 hb; replace BK172 := bb_ BK172 hb; replace HV := HV.keep hb
                  clear hb hbox hg
                  (refine hK.out _ _ ⟨bc_ BK163 0, bc_ BK163 1, bc_ BK163 2⟩ (fun hHeld => ?_)); clear hK K; refine nv_ ?_
                  (refine one_ (i := 2) (N := some 16) (bm 6 15) rfl rfl (by kernel_rfl) (by decide) (fun K hK => ?_))
                  refine bt_ 16 #[.int .i64 0, .int .i64 0, .int .i64 0] 64 ?_
                  intro gb173 hg w148 hbox hb
                  have BK173 := ak (hbox)
                  have NE173 := HV.ne hn0'.1 hg
                  have NB147_173 := nl_ BK147 hg; have NB173_147 := nr_ BK147 hg; have NB161_173 := nl_ BK161 hg; have NB173_161 := nr_ BK161 hg; have NB163_173 := nl_ BK163 hg; have NB173_163 := nr_ BK163 hg; have NB172_173 := nl_ BK172 hg; have NB173_172 := nr_ BK172 hg; have NB174_173 := nl_ BK174 hg; have NB173_174 := nr_ BK174 hg
                  replace BK147 := bb_ BK147 hb; replace BK161 := bb_ BK161 hb; replace BK163 := bb_ BK163 hb; replace BK172 := bb_ BK172 hb; replace BK174 := bb_ BK174 hb; replace HV := HV.keep hb
                  clear hb hbox hg
                  (refine hK.out _ _ ⟨bc_ BK163 0, bc_ BK163 1, bc_ BK163 2⟩ (fun hHeld => ?_)); clear hK K; refine nv_ ?_
                  (exact norm_ (by simp only [putAll, Act.put, List.setIfInBounds_toArray, List.set_cons_zero, List.set_cons_succ]) (hCont (gb173, gb174) _ ⟨hHeld, HV, BK147.1, BK161.1, BK163.1, BK172.1, BK173.1, BK174.1, NE173, NE174, NB147_173.1, NB161_173.1, NB163_173.1, NB172_173.1, NB147_174.1, NB161_174.1, NB163_174.1, NB172_174.1, NB173_174.1⟩))
                rintro ⟨gb173, gb174⟩ w149 ⟨hHeld, HVn, h2_, h3_, h4_, h5_, h6_, h7_, NE173, NE174, d0_, d1_, d2_, d3_, d4_, d5_, d6_, d7_, d8_⟩
                clear HV BK147 BK161 BK163 BK172
                have HV := HVn
                have BK147 := ak h2_; have BK161 := ak h3_; have BK163 := ak h4_; have BK172 := ak h5_; have BK173 := ak h6_; have BK174 := ak h7_
                have NB147_173 := ak d0_; have NB161_173 := ak d1_; have NB163_173 := ak d2_; have NB172_173 := ak d3_; have NB147_174 := ak d4_; have NB161_174 := ak d5_; have NB163_174 := ak d6_; have NB172_174 := ak d7_; have NB173_174 := ak d8_; have NB174_173 := ak d8_.symm; have NB173_172 := ak d3_.symm; have NB174_172 := ak d7_.symm
                clear HVn h2_ h3_ h4_ h5_ h6_ h7_ d0_ d1_ d2_ d3_ d4_ d5_ d6_ d7_ d8_
                refine norm_ (a' := ?_) ?_ ?_; rotate_left
                · simp only [putAll, Act.put, List.setIfInBounds_toArray, List.set_cons_zero, List.set_cons_succ]; (rfl)
                (refine one_ (i := 4) (N := none) (bm 6 31) rfl rfl (by kernel_rfl) (by decide) (fun K hK => ?_))
                obtain ⟨hcx_0, hcx_1, hcx_2, hfx_0, hfx_1, hfx_2⟩ := cz3_ BK173
                (refine skip_ (w1 := (((w149.setCell ⟨gb173, 0, none⟩ (.int .i64 (sp.f0))).setCell ⟨gb173, 1, none⟩ (.int .i64 (sp.f1))).setCell ⟨gb173, 2, none⟩ (.int .i64 (sp.f2)))) (by rfl) rfl ?_ ?_)
                · ((go_simp; done))
                (refine hK.out _ _ ⟨(c3f_ NB163_173 hHeld.1), (c3f_ NB163_173 hHeld.2.1), (c3f_ NB163_173 hHeld.2.2)⟩ (fun hHeld => ?_)); clear hK K hcx_0 hcx_1 hcx_2 hfx_0 hfx_1 hfx_2
                have nHV_ := HV.far3 (i := 0) (j := 1) (k := 2) (u0 := .int .i64 (sp.f0)) (u1 := .int .i64 (sp.f1)) (u2 := .int .i64 (sp.f2)) NE173
                have nBK147_ := ak (bf3_ (i0 := 0) (u0 := .int .i64 (sp.f0)) (i1 := 1) (u1 := .int .i64 (sp.f1)) (i2 := 2) (u2 := .int .i64 (sp.f2)) BK147 NB147_173)
                have nBK161_ := ak (bf3_ (i0 := 0) (u0 := .int .i64 (sp.f0)) (i1 := 1) (u1 := .int .i64 (sp.f1)) (i2 := 2) (u2 := .int .i64 (sp.f2)) BK161 NB161_173)
                have nBK163_ := ak (bf3_ (i0 := 0) (u0 := .int .i64 (sp.f0)) (i1 := 1) (u1 := .int .i64 (sp.f1)) (i2 := 2) (u2 := .int .i64 (sp.f2)) BK163 NB163_173)
                have nBK172_ := ak (bf3_ (i0 := 0) (u0 := .int .i64 (sp.f0)) (i1 := 1) (u1 := .int .i64 (sp.f1)) (i2 := 2) (u2 := .int .i64 (sp.f2)) BK172 NB172_173)
                have nBK174_ := ak (bf3_ (i0 := 0) (u0 := .int .i64 (sp.f0)) (i1 := 1) (u1 := .int .i64 (sp.f1)) (i2 := 2) (u2 := .int .i64 (sp.f2)) BK174 NB174_173)
                have nBK173_ := bp3_ (u0 := .int .i64 (sp.f0)) (u1 := .int .i64 (sp.f1)) (u2 := .int .i64 (sp.f2)) BK173
                clear HV BK147 BK161 BK163 BK172 BK174 BK173
                generalize (((w149.setCell ⟨gb173, 0, none⟩ (.int .i64 (sp.f0))).setCell ⟨gb173, 1, none⟩ (.int .i64 (sp.f1))).setCell ⟨gb173, 2, none⟩ (.int .i64 (sp.f2))) = w150 at nHV_ nBK147_ nBK161_ nBK163_ nBK172_ nBK174_ nBK173_ hHeld ⊢
                have HV := nHV_; have BK147 := nBK147_; have BK161 := nBK161_; have BK163 := nBK163_; have BK172 := nBK172_; have BK174 := nBK174_; have BK173 := nBK173_
                clear nHV_ nBK147_ nBK161_ nBK163_ nBK172_ nBK174_ nBK173_
                (refine one_ (i := 5) (N := none) (bm 6 63) rfl rfl (by kernel_rfl) (by decide) (fun K hK => ?_))
                obtain ⟨hcx_0, hcx_1, hcx_2, hfx_0, hfx_1, hfx_2⟩ := cz3_ BK174
                (refine skip_ (w1 := (((w150.setCell ⟨gb174, 0, none⟩ (.int .i64 (sp.f0))).setCell ⟨gb174, 1, none⟩ (.int .i64 (sp.f1))).setCell ⟨gb174, 2, none⟩ (.int .i64 (sp.f2)))) (by rfl) rfl ?_ ?_)
                · ((go_simp; done))
                (refine hK.out _ _ ⟨(c3f_ NB163_174 hHeld.1), (c3f_ NB163_174 hHeld.2.1), (c3f_ NB163_174 hHeld.2.2)⟩ (fun hHeld => ?_)); clear hK K hcx_0 hcx_1 hcx_2 hfx_0 hfx_1 hfx_2
                have nHV_ := HV.far3 (i := 0) (j := 1) (k := 2) (u0 := .int .i64 (sp.f0)) (u1 := .int .i64 (sp.f1)) (u2 := .int .i64 (sp.f2)) NE174
                have nBK147_ := ak (bf3_ (i0 := 0) (u0 := .int .i64 (sp.f0)) (i1 := 1) (u1 := .int .i64 (sp.f1)) (i2 := 2) (u2 := .int .i64 (sp.f2)) BK147 NB147_174)
                have nBK161_ := ak (bf3_ (i0 := 0) (u0 := .int .i64 (sp.f0)) (i1 := 1) (u1 := .int .i64 (sp.f1)) (i2 := 2) (u2 := .int .i64 (sp.f2)) BK161 NB161_174)
                have nBK163_ := ak (bf3_ (i0 := 0) (u0 := .int .i64 (sp.f0)) (i1 := 1) (u1 := .int .i64 (sp.f1)) (i2 := 2) (u2 := .int .i64 (sp.f2)) BK163 NB163_174)
                have nBK172_ := ak (bf3_ (i0 := 0) (u0 := .int .i64 (sp.f0)) (i1 := 1) (u1 := .int .i64 (sp.f1)) (i2 := 2) (u2 := .int .i64 (sp.f2)) BK172 NB172_174)
                have nBK173_ := ak (bf3_ (i0 := 0) (u0 := .int .i64 (sp.f0)) (i1 := 1) (u1 := .int .i64 (sp.f1)) (i2 := 2) (u2 := .int .i64 (sp.f2)) BK173 NB173_174)
                have nBK174_ := bp3_ (u0 := .int .i64 (sp.f0)) (u1 := .int .i64 (sp.f1)) (u2 := .int .i64 (sp.f2)) BK174
                clear HV BK147 BK161 BK163 BK172 BK173 BK174
                generalize (((w150.setCell ⟨gb174, 0, none⟩ (.int .i64 (sp.f0))).setCell ⟨gb174, 1, none⟩ (.int .i64 (sp.f1))).setCell ⟨gb174, 2, none⟩ (.int .i64 (sp.f2))) = w151 at nHV_ nBK147_ nBK161_ nBK163_ nBK172_ nBK173_ nBK174_ hHeld ⊢
                have HV := nHV_; have BK147 := nBK147_; have BK161 := nBK161_; have BK163 := nBK163_; have BK172 := nBK172_; have BK173 := nBK173_; have BK174 := nBK174_
                clear nHV_ nBK147_ nBK161_ nBK163_ nBK172_ nBK173_ nBK174_
                (refine done_ (by kernel_rfl) ?_)
                clear hHeld
                as_aux_lemma =>
                  (try go_wp2)
                  replace BK147 := ak (blk_drew BK147.1)
                  replace BK161 := ak (blk_drew BK161.1)
                  replace BK163 := ak (blk_drew BK163.1)
                  replace BK172 := ak (blk_drew BK172.1)
                  replace BK173 := ak (blk_drew BK173.1)
                  replace BK174 := ak (blk_drew BK174.1)
                  replace HV := HV.keep (below_drew1 (Below.refl _ _))
                  (refine start_ (n := 18) (S := (fun w' => w'.cell? ⟨gb161, 2, none⟩ = some (.int .i64 (nd.f2)) ∧ w'.cell? ⟨gb163, (nd.f2).toNat, none⟩ = some (.int .i64 (getAx sp (nd.f2))) ∧ w'.cell? ⟨gb147, 3, none⟩ = some (.int .i64 a0_3))) (ds := []) (bm 18 0) (by kernel_rfl) rfl rfl ⟨bc_ BK161 2, dyn_cell BK163 hax.1, bc_ BK147 3⟩ (fun hHeld => ?_)); refine with_tabW bvv_.tab29 bvv_.bits29 (fun HT_ HW_ => ?_)
                  generalize w151.drew = w157 at HV BK147 BK161 BK163 BK172 BK173 BK174 hHeld ⊢
                  refine pv_ 0 HT_ ?_; refine pv_ 2 HT_ ?_; refine pv_ 4 HT_ ?_; refine pv_ 5 HT_ ?_; refine pv_ 9 HT_ ?_; refine pv_ 11 HT_ ?_
                  refine tv_ 1 HT_ HW_ hHeld ?_
                  refine pv_ 14 HT_ ?_
                  refine tv_ 3 HT_ HW_ hHeld ?_; refine tv_ 6 HT_ HW_ hHeld ?_
                  refine pv_ 7 HT_ ?_
                  refine tv_ 8 HT_ HW_ hHeld ?_
                  refine pv_ 10 HT_ ?_
                  refine tv_ 12 HT_ HW_ hHeld ?_
                  refine pv_ 13 HT_ ?_
                  (refine one_ (i := 15) (N := none) (bm 18 65535) rfl rfl (one_of HT_.1 (by kernel_rfl)) (by decide) (fun K hK => ?_))
                  have hcx_ := dyn_cell BK173 hax.1
                  have hfx_ := blk_frozen BK173.1 (nd.f2).toNat
                  (refine skip_ (w1 := (w157.setCell ⟨gb173, (nd.f2).toNat, none⟩ (.int .i64 (wrap64 (nd.f3 - getAx sb (nd.f2)))))) (by rfl) rfl ?_ ?_)
                  · ((go_simp; done))
                  (refine hK.out _ _ ⟨(c1f_ NB161_173 hHeld.1), (c1f_ NB163_173 hHeld.2.1), (c1f_ NB147_173 hHeld.2.2)⟩ (fun hHeld => ?_)); clear hK K hcx_ hfx_
                  have nHV_ := HV.far (i := (nd.f2).toNat) NE173 (.int .i64 (wrap64 (nd.f3 - getAx sb (nd.f2))))
                  have nBK147_ := ak (bf1_ (i0 := (nd.f2).toNat) (u0 := .int .i64 (wrap64 (nd.f3 - getAx sb (nd.f2)))) BK147 NB147_173)
                  have nBK161_ := ak (bf1_ (i0 := (nd.f2).toNat) (u0 := .int .i64 (wrap64 (nd.f3 - getAx sb (nd.f2)))) BK161 NB161_173)
                  have nBK163_ := ak (bf1_ (i0 := (nd.f2).toNat) (u0 := .int .i64 (wrap64 (nd.f3 - getAx sb (nd.f2)))) BK163 NB163_173)
                  have nBK172_ := ak (bf1_ (i0 := (nd.f2).toNat) (u0 := .int .i64 (wrap64 (nd.f3 - getAx sb (nd.f2)))) BK172 NB172_173)
                  have nBK174_ := ak (bf1_ (i0 := (nd.f2).toNat) (u0 := .int .i64 (wrap64 (nd.f3 - getAx sb (nd.f2)))) BK174 NB174_173)
                  have nBK173_ := dyn_put BK173 hax.1 (wrap64 (nd.f3 - getAx sb (nd.f2)))
                  clear HV BK147 BK161 BK163 BK172 BK174 BK173
                  generalize (w157.setCell ⟨gb173, (nd.f2).toNat, none⟩ (.int .i64 (wrap64 (nd.f3 - getAx sb (nd.f2))))) = w158 at nHV_ nBK147_ nBK161_ nBK163_ nBK172_ nBK174_ nBK173_ hHeld ⊢
                  have HV := nHV_; have BK147 := nBK147_; have BK161 := nBK161_; have BK163 := nBK163_; have BK172 := nBK172_; have BK174 := nBK174_; have BK173 := nBK173_
                  clear nHV_ nBK147_ nBK161_ nBK163_ nBK172_ nBK174_ nBK173_
                  refine pv_ 16 HT_ ?_
                  (refine one_ (i := 17) (N := none) (bm 18 262143) rfl rfl (one_of HT_.1 (by kernel_rfl)) (by decide) (fun K hK => ?_))
                  have hcx_ := dyn_cell BK174 hax.1
                  have hfx_ := blk_frozen BK174.1 (nd.f2).toNat
                  (refine skip_ (w1 := (w158.setCell ⟨gb174, (nd.f2).toNat, none⟩ (.int .i64 (wrap64 (wrap64 (getAx sp (nd.f2) - (wrap64 (nd.f3 - getAx sb (nd.f2)))) - a0_3))))) (by rfl) rfl ?_ ?_)
                  · ((go_simp; done))
                  (refine hK.out _ _ ⟨(c1f_ NB161_174 hHeld.1), (c1f_ NB163_174 hHeld.2.1), (c1f_ NB147_174 hHeld.2.2)⟩ (fun hHeld => ?_)); clear hK K hcx_ hfx_
                  have nHV_ := HV.far (i := (nd.f2).toNat) NE174 (.int .i64 (wrap64 (wrap64 (getAx sp (nd.f2) - (wrap64 (nd.f3 - getAx sb (nd.f2)))) - a0_3)))
                  have nBK147_ := ak (bf1_ (i0 := (nd.f2).toNat) (u0 := .int .i64 (wrap64 (wrap64 (getAx sp (nd.f2) - (wrap64 (nd.f3 - getAx sb (nd.f2)))) - a0_3))) BK147 NB147_174)
                  have nBK161_ := ak (bf1_ (i0 := (nd.f2).toNat) (u0 := .int .i64 (wrap64 (wrap64 (getAx sp (nd.f2) - (wrap64 (nd.f3 - getAx sb (nd.f2)))) - a0_3))) BK161 NB161_174)
                  have nBK163_ := ak (bf1_ (i0 := (nd.f2).toNat) (u0 := .int .i64 (wrap64 (wrap64 (getAx sp (nd.f2) - (wrap64 (nd.f3 - getAx sb (nd.f2)))) - a0_3))) BK163 NB163_174)
                  have nBK172_ := ak (bf1_ (i0 := (nd.f2).toNat) (u0 := .int .i64 (wrap64 (wrap64 (getAx sp (nd.f2) - (wrap64 (nd.f3 - getAx sb (nd.f2)))) - a0_3))) BK172 NB172_174)
                  have nBK173_ := ak (bf1_ (i0 := (nd.f2).toNat) (u0 := .int .i64 (wrap64 (wrap64 (getAx sp (nd.f2) - (wrap64 (nd.f3 - getAx sb (nd.f2)))) - a0_3))) BK173 NB173_174)
                  have nBK174_ := dyn_put BK174 hax.1 (wrap64 (wrap64 (getAx sp (nd.f2) - (wrap64 (nd.f3 - getAx sb (nd.f2)))) - a0_3))
                  clear HV BK147 BK161 BK163 BK172 BK173 BK174
                  generalize (w158.setCell ⟨gb174, (nd.f2).toNat, none⟩ (.int .i64 (wrap64 (wrap64 (getAx sp (nd.f2) - (wrap64 (nd.f3 - getAx sb (nd.f2)))) - a0_3)))) = w159 at nHV_ nBK147_ nBK161_ nBK163_ nBK172_ nBK173_ nBK174_ hHeld ⊢
                  have HV := nHV_; have BK147 := nBK147_; have BK161 := nBK161_; have BK163 := nBK163_; have BK172 := nBK172_; have BK173 := nBK173_; have BK174 := nBK174_
                  clear nHV_ nBK147_ nBK161_ nBK163_ nBK172_ nBK173_ nBK174_
                  (refine done_ (done_of HT_.1 (by kernel_rfl)) ?_)
                  clear hHeld
                  as_aux_lemma =>
                    obtain ⟨lv, hlv⟩ : ∃ lv, lv = setAx sp (nd.f2) (wrap64 (nd.f3 - getAx sb (nd.f2))) := ⟨_, rfl⟩
                    have Nlv := ak hlv
                    clear hlv
                    rw [← Nlv.1] at BK173 hF
                    obtain ⟨rv, hrv⟩ : ∃ rv, rv = setAx sp (nd.f2) (wrap64 (wrap64 (getAx sp (nd.f2) - (wrap64 (nd.f3 - getAx sb (nd.f2)))) - a0_3)) := ⟨_, rfl⟩
                    have Nrv := ak hrv
                    clear hrv
                    rw [← Nrv.1] at BK174 hF
                    (try go_wp2)
                    have NE147x := HV.neT hn0'.1 BK147 (by decide)
                    have NE147 : True ∧ gb147 ≠ gp ∧ gb147 ≠ gb := ⟨trivial, NE147x.1.1, NE147x.2.1⟩
                    clear NE147x
                    replace BK147 := ak (blk_drew BK147.1)
                    replace BK161 := ak (blk_drew BK161.1)
                    replace BK163 := ak (blk_drew BK163.1)
                    replace BK172 := ak (blk_drew BK172.1)
                    replace BK173 := ak (blk_drew BK173.1)
                    replace BK174 := ak (blk_drew BK174.1)
                    replace HV := HV.keep (below_drew1 (Below.refl _ _))
                    have p5_ := eq_true h5.1.1
                    have q5_ := eq_true h5.1.2
                    have p6_ := eq_true h6.1.1
                    have q6_ := eq_true h6.1.2
                    (refine start_ (n := 12) (S := (fun w' => w'.cell? ⟨gb161, 5, none⟩ = some (.int .i64 (nd.f5)) ∧ w'.cell? ⟨gb161, 6, none⟩ = some (.int .i64 (nd.f6)) ∧ w'.cell? ⟨gb173, 0, none⟩ = some (.int .i64 lv.f0) ∧ w'.cell? ⟨gb173, 1, none⟩ = some (.int .i64 lv.f1) ∧ w'.cell? ⟨gb173, 2, none⟩ = some (.int .i64 lv.f2) ∧ w'.cell? ⟨gb174, 0, none⟩ = some (.int .i64 rv.f0) ∧ w'.cell? ⟨gb174, 1, none⟩ = some (.int .i64 rv.f1) ∧ w'.cell? ⟨gb174, 2, none⟩ = some (.int .i64 rv.f2))) (ds := []) (bm 12 0) (by kernel_rfl) rfl rfl ⟨bc_ BK161 5, bc_ BK161 6, bc_ BK173 0, bc_ BK173 1, bc_ BK173 2, bc_ BK174 0, bc_ BK174 1, bc_ BK174 2⟩ (fun hHeld => ?_)); refine with_tabW bvv_.tab30 bvv_.bits30 (fun HT_ HW_ => ?_)
                    generalize w159.drew = w170 at HV BK147 BK161 BK163 BK172 BK173 BK174 hHeld ⊢
                    refine pv_ 0 HT_ ?_; refine pv_ 1 HT_ ?_; refine pv_ 3 HT_ ?_; refine pv_ 4 HT_ ?_
                    refine tv_ 2 HT_ HW_ hHeld ?_; refine tv_ 5 HT_ HW_ hHeld ?_; refine tv_ 6 HT_ HW_ hHeld ?_; refine tv_ 7 HT_ HW_ hHeld ?_
                    refine pv_ 8 HT_ ?_
                    (refine one_ (i := 9) (N := none) (bm 12 1023) rfl rfl (one_of HT_.1 (by kernel_rfl)) (by decide) (fun K hK => ?_))
                    obtain ⟨hcx_0, hcx_1, hcx_2, hfx_⟩ := HV.cellP h5.1.1 h5.1.2
                    have hfx_0 := hfx_ 0; have hfx_1 := hfx_ 1; have hfx_2 := hfx_ 2
                    simp only [Nat.add_zero] at hfx_0
                    (refine skip_ (w1 := (((w170.setCell ⟨gp, (nd.f5).toNat * 3, none⟩ (.int .i64 lv.f0)).setCell ⟨gp, (nd.f5).toNat * 3 + 1, none⟩ (.int .i64 lv.f1)).setCell ⟨gp, (nd.f5).toNat * 3 + 2, none⟩ (.int .i64 lv.f2))) (by rfl) rfl ?_ ?_)
                    · ((go_simp; done))
                    (refine hK.out _ _ ⟨(c3f_ ⟨NE161.2.1⟩ hHeld.1), (c3f_ ⟨NE161.2.1⟩ hHeld.2.1), (c3f_ ⟨NE173.2.1⟩ hHeld.2.2.1), (c3f_ ⟨NE173.2.1⟩ hHeld.2.2.2.1), (c3f_ ⟨NE173.2.1⟩ hHeld.2.2.2.2.1), (c3f_ ⟨NE174.2.1⟩ hHeld.2.2.2.2.2.1), (c3f_ ⟨NE174.2.1⟩ hHeld.2.2.2.2.2.2.1), (c3f_ ⟨NE174.2.1⟩ hHeld.2.2.2.2.2.2.2)⟩ (fun hHeld => ?_)); clear hK K hcx_0 hcx_1 hcx_2 hfx_ hfx_0 hfx_1 hfx_2
                    have nHV := HV.setP h5.1.1 h5.1.2 lv.f0 lv.f1 lv.f2
                    have n147_ : Aside0 ((((w170.setCell ⟨gp, (nd.f5).toNat * 3, none⟩ (.int .i64 lv.f0)).setCell ⟨gp, (nd.f5).toNat * 3 + 1, none⟩ (.int .i64 lv.f1)).setCell ⟨gp, (nd.f5).toNat * 3 + 2, none⟩ (.int .i64 lv.f2)).heap[gb147]? = _) := ak (blk_far (blk_far (blk_far BK147.1 NE147.2.1 _) NE147.2.1 _) NE147.2.1 _)
                    have n161_ : Aside0 ((((w170.setCell ⟨gp, (nd.f5).toNat * 3, none⟩ (.int .i64 lv.f0)).setCell ⟨gp, (nd.f5).toNat * 3 + 1, none⟩ (.int .i64 lv.f1)).setCell ⟨gp, (nd.f5).toNat * 3 + 2, none⟩ (.int .i64 lv.f2)).heap[gb161]? = _) := ak (blk_far (blk_far (blk_far BK161.1 NE161.2.1 _) NE161.2.1 _) NE161.2.1 _)
                    have n163_ : Aside0 ((((w170.setCell ⟨gp, (nd.f5).toNat * 3, none⟩ (.int .i64 lv.f0)).setCell ⟨gp, (nd.f5).toNat * 3 + 1, none⟩ (.int .i64 lv.f1)).setCell ⟨gp, (nd.f5).toNat * 3 + 2, none⟩ (.int .i64 lv.f2)).heap[gb163]? = _) := ak (blk_far (blk_far (blk_far BK163.1 NE163.2.1 _) NE163.2.1 _) NE163.2.1 _)
                    have n172_ : Aside0 ((((w170.setCell ⟨gp, (nd.f5).toNat * 3, none⟩ (.int .i64 lv.f0)).setCell ⟨gp, (nd.f5).toNat * 3 + 1, none⟩ (.int .i64 lv.f1)).setCell ⟨gp, (nd.f5).toNat * 3 + 2, none⟩ (.int .i64 lv.f2)).heap[gb172]? = _) := ak (blk_far (blk_far (blk_far BK172.1 NE172.2.1 _) NE172.2.1 _) NE172.2.1 _)
                    have n173_ : Aside0 ((((w170.setCell ⟨gp, (nd.f5).toNat * 3, none⟩ (.int .i64 lv.f0)).setCell ⟨gp, (nd.f5).toNat * 3 + 1, none⟩ (.int .i64 lv.f1)).setCell ⟨gp, (nd.f5).toNat * 3 + 2, none⟩ (.int .i64 lv.f2)).heap[gb173]? = _) := ak (blk_far (blk_far (blk_far BK173.1 NE173.2.1 _) NE173.2.1 _) NE173.2.1 _)
                    have n174_ : Aside0 ((((w170.setCell ⟨gp, (nd.f5).toNat * 3, none⟩ (.int .i64 lv.f0)).setCell ⟨gp, (nd.f5).toNat * 3 + 1, none⟩ (.int .i64 lv.f1)).setCell ⟨gp, (nd.f5).toNat * 3 + 2, none⟩ (.int .i64 lv.f2)).heap[gb174]? = _) := ak (blk_far (blk_far (blk_far BK174.1 NE174.2.1 _) NE174.2.1 _) NE174.2.1 _)
                    clear HV BK147 BK161 BK163 BK172 BK173 BK174
                    generalize (((w170.setCell ⟨gp, (nd.f5).toNat * 3, none⟩ (.int .i64 lv.f0)).setCell ⟨gp, (nd.f5).toNat * 3 + 1, none⟩ (.int .i64 lv.f1)).setCell ⟨gp, (nd.f5).toNat * 3 + 2, none⟩ (.int .i64 lv.f2)) = w171 at nHV n147_ n161_ n163_ n172_ n173_ n174_ hHeld ⊢
                    have HV := nHV
                    have BK147 := n147_; have BK161 := n161_; have BK163 := n163_; have BK172 := n172_; have BK173 := n173_; have BK174 := n174_
                    clear nHV n147_ n161_ n163_ n172_ n173_ n174_
                    refine pv_ 10 HT_ ?_
                    (refine one_ (i := 11) (N := none) (bm 12 4095) rfl rfl (one_of HT_.1 (by kernel_rfl)) (by decide) (fun K hK => ?_))
                    obtain ⟨hcx_0, hcx_1, hcx_2, hfx_⟩ := HV.cellP h6.1.1 h6.1.2
                    have hfx_0 := hfx_ 0; have hfx_1 := hfx_ 1; have hfx_2 := hfx_ 2
                    simp only [Nat.add_zero] at hfx_0
                    (refine skip_ (w1 := (((w171.setCell ⟨gp, (nd.f6).toNat * 3, none⟩ (.int .i64 rv.f0)).setCell ⟨gp, (nd.f6).toNat * 3 + 1, none⟩ (.int .i64 rv.f1)).setCell ⟨gp, (nd.f6).toNat * 3 + 2, none⟩ (.int .i64 rv.f2))) (by rfl) rfl ?_ ?_)
                    · ((go_simp; done))
                    (refine hK.out _ _ ⟨(c3f_ ⟨NE161.2.1⟩ hHeld.1), (c3f_ ⟨NE161.2.1⟩ hHeld.2.1), (c3f_ ⟨NE173.2.1⟩ hHeld.2.2.1), (c3f_ ⟨NE173.2.1⟩ hHeld.2.2.2.1), (c3f_ ⟨NE173.2.1⟩ hHeld.2.2.2.2.1), (c3f_ ⟨NE174.2.1⟩ hHeld.2.2.2.2.2.1), (c3f_ ⟨NE174.2.1⟩ hHeld.2.2.2.2.2.2.1), (c3f_ ⟨NE174.2.1⟩ hHeld.2.2.2.2.2.2.2)⟩ (fun hHeld => ?_)); clear hK K hcx_0 hcx_1 hcx_2 hfx_ hfx_0 hfx_1 hfx_2
                    have nHV := HV.setP h6.1.1 h6.1.2 rv.f0 rv.f1 rv.f2
                    have n147_ : Aside0 ((((w171.setCell ⟨gp, (nd.f6).toNat * 3, none⟩ (.int .i64 rv.f0)).setCell ⟨gp, (nd.f6).toNat * 3 + 1, none⟩ (.int .i64 rv.f1)).setCell ⟨gp, (nd.f6).toNat * 3 + 2, none⟩ (.int .i64 rv.f2)).heap[gb147]? = _) := ak (blk_far (blk_far (blk_far BK147.1 NE147.2.1 _) NE147.2.1 _) NE147.2.1 _)
                    have n161_ : Aside0 ((((w171.setCell ⟨gp, (nd.f6).toNat * 3, none⟩ (.int .i64 rv.f0)).setCell ⟨gp, (nd.f6).toNat * 3 + 1, none⟩ (.int .i64 rv.f1)).setCell ⟨gp, (nd.f6).toNat * 3 + 2, none⟩ (.int .i64 rv.f2)).heap[gb161]? = _) := ak (blk_far (blk_far (blk_far BK161.1 NE161.2.1 _) NE161.2.1 _) NE161.2.1 _)
                    have n163_ : Aside0 ((((w171.setCell ⟨gp, (nd.f6).toNat * 3, none⟩ (.int .i64 rv.f0)).setCell ⟨gp, (nd.f6).toNat * 3 + 1, none⟩ (.int .i64 rv.f1)).setCell ⟨gp, (nd.f6).toNat * 3 + 2, none⟩ (.int .i64 rv.f2)).heap[gb163]? = _) := ak (blk_far (blk_far (blk_far BK163.1 NE163.2.1 _) NE163.2.1 _) NE163.2.1 _)
                    have n172_ : Aside0 ((((w171.setCell ⟨gp, (nd.f6).toNat * 3, none⟩ (.int .i64 rv.f0)).setCell ⟨gp, (nd.f6).toNat * 3 + 1, none⟩ (.int .i64 rv.f1)).setCell ⟨gp, (nd.f6).toNat * 3 + 2, none⟩ (.int .i64 rv.f2)).heap[gb172]? = _) := ak (blk_far (blk_far (blk_far BK172.1 NE172.2.1 _) NE172.2.1 _) NE172.2.1 _)
                    have n173_ : Aside0 ((((w171.setCell ⟨gp, (nd.f6).toNat * 3, none⟩ (.int .i64 rv.f0)).setCell ⟨gp, (nd.f6).toNat * 3 + 1, none⟩ (.int .i64 rv.f1)).setCell ⟨gp, (nd.f6).toNat * 3 + 2, none⟩ (.int .i64 rv.f2)).heap[gb173]? = _) := ak (blk_far (blk_far (blk_far BK173.1 NE173.2.1 _) NE173.2.1 _) NE173.2.1 _)
                    have n174_ : Aside0 ((((w171.setCell ⟨gp, (nd.f6).toNat * 3, none⟩ (.int .i64 rv.f0)).setCell ⟨gp, (nd.f6).toNat * 3 + 1, none⟩ (.int .i64 rv.f1)).setCell ⟨gp, (nd.f6).toNat * 3 + 2, none⟩ (.int .i64 rv.f2)).heap[gb174]? = _) := ak (blk_far (blk_far (blk_far BK174.1 NE174.2.1 _) NE174.2.1 _) NE174.2.1 _)
                    clear HV BK147 BK161 BK163 BK172 BK173 BK174
                    generalize (((w171.setCell ⟨gp, (nd.f6).toNat * 3, none⟩ (.int .i64 rv.f0)).setCell ⟨gp, (nd.f6).toNat * 3 + 1, none⟩ (.int .i64 rv.f1)).setCell ⟨gp, (nd.f6).toNat * 3 + 2, none⟩ (.int .i64 rv.f2)) = w172 at nHV n147_ n161_ n163_ n172_ n173_ n174_ hHeld ⊢
                    have HV := nHV
                    have BK147 := n147_; have BK161 := n161_; have BK163 := n163_; have BK172 := n172_; have BK173 := n173_; have BK174 := n174_
                    clear nHV n147_ n161_ n163_ n172_ n173_ n174_
                    (refine done_ (done_of HT_.1 (by kernel_rfl)) ?_)
                    clear hHeld
                    as_aux_lemma =>
                      obtain ⟨⟨hcy_0, hcy_1, hcy_2, hcy_3, hcy_4, hcy_5, hcy_6⟩, hfy_0, hfy_1, hfy_2, hfy_3, hfy_4, hfy_5, hfy_6⟩ := cz7_ BK161
                      obtain ⟨hce_0, hce_1, hce_2, hfe_0, hfe_1, hfe_2⟩ := cz3_ BK172
                      obtain ⟨hcx_0, hcx_1, hcx_2, hfx_⟩ := HV.cellB h5.1.1 h5.1.2
                      have hfx_0 := hfx_ 0; have hfx_1 := hfx_ 1; have hfx_2 := hfx_ 2
                      simp only [Nat.add_zero] at hfx_0
                      clear hfx_
                      (try go_wp2_with (first | ((with_reducible refine gate_store (t := 64) (p := 155) rfl ?_); refine store_event (t := 64) (p := 155) (v := ?vo_v16) (w1 := (((w172.setCell ⟨gb, (nd.f5).toNat * 3, none⟩ (.int .i64 (sb.f0))).setCell ⟨gb, (nd.f5).toNat * 3 + 1, none⟩ (.int .i64 (sb.f1))).setCell ⟨gb, (nd.f5).toNat * 3 + 2, none⟩ (.int .i64 (sb.f2)))) ?hg16 ?ho16 ?hn16 ?hr16 ?_; (case ho16 => rfl); (case hg16 => rfl); (case hn16 => rfl); (case hr16 => (go_simp; done)); intro w173 hw)))
                      have nHV : VR w w173 gp gb l1.length cp cb ((ps.set (nd.f5).toNat ⟨lv.f0, lv.f1, lv.f2⟩).set (nd.f6).toNat ⟨rv.f0, rv.f1, rv.f2⟩) (bs.set (nd.f5).toNat ⟨(sb.f0), (sb.f1), (sb.f2)⟩) := by rw [hw]; exact HV.setB h5.1.1 h5.1.2 (sb.f0) (sb.f1) (sb.f2)
                      have n147_ : Aside0 (w173.heap[gb147]? = some (.cells #[.int .i64 a0_0, .int .i64 a0_1, .int .i64 a0_2, .int .i64 a0_3, (.slice A0_4 l0_4.length c0_4)] 33 (0, 0))) := by rw [hw]; exact ak (blk_far (blk_far (blk_far BK147.1 NE147.2.2 _) NE147.2.2 _) NE147.2.2 _)
                      have n161_ : Aside0 (w173.heap[gb161]? = some (.cells #[.int .i64 (nd.f0), .string (nd.f1), .int .i64 (nd.f2), .int .i64 (nd.f3), .int .i64 (nd.f4), .int .i64 (nd.f5), .int .i64 (nd.f6)] 61 (0, 0))) := by rw [hw]; exact ak (blk_far (blk_far (blk_far BK161.1 NE161.2.2 _) NE161.2.2 _) NE161.2.2 _)
                      have n163_ : Aside0 (w173.heap[gb163]? = some (.cells #[.int .i64 (sp.f0), .int .i64 (sp.f1), .int .i64 (sp.f2)] 64 (0, 0))) := by rw [hw]; exact ak (blk_far (blk_far (blk_far BK163.1 NE163.2.2 _) NE163.2.2 _) NE163.2.2 _)
                      have n172_ : Aside0 (w173.heap[gb172]? = some (.cells #[.int .i64 (sb.f0), .int .i64 (sb.f1), .int .i64 (sb.f2)] 64 (0, 0))) := by rw [hw]; exact ak (blk_far (blk_far (blk_far BK172.1 NE172.2.2 _) NE172.2.2 _) NE172.2.2 _)
                      have n173_ : Aside0 (w173.heap[gb173]? = some (.cells #[.int .i64 lv.f0, .int .i64 lv.f1, .int .i64 lv.f2] 64 (0, 0))) := by rw [hw]; exact ak (blk_far (blk_far (blk_far BK173.1 NE173.2.2 _) NE173.2.2 _) NE173.2.2 _)
                      have n174_ : Aside0 (w173.heap[gb174]? = some (.cells #[.int .i64 rv.f0, .int .i64 rv.f1, .int .i64 rv.f2] 64 (0, 0))) := by rw [hw]; exact ak (blk_far (blk_far (blk_far BK174.1 NE174.2.2 _) NE174.2.2 _) NE174.2.2 _)
                      clear hw HV BK147 BK161 BK163 BK172 BK173 BK174
                      have HV := nHV
                      have BK147 := n147_; have BK161 := n161_; have BK163 := n163_; have BK172 := n172_; have BK173 := n173_; have BK174 := n174_
                      clear nHV n147_ n161_ n163_ n172_ n173_ n174_
                      clear hcy_0 hcy_1 hcy_2 hcy_3 hcy_4 hcy_5 hcy_6 hfy_0 hfy_1 hfy_2 hfy_3 hfy_4 hfy_5 hfy_6 hce_0 hce_1 hce_2 hfe_0 hfe_1 hfe_2 hcx_0 hcx_1 hcx_2 hfx_0 hfx_1 hfx_2
                      as_aux_lemma =>
                        replace BK147 := ak (blk_drew BK147.1)
                        replace BK161 := ak (blk_drew BK161.1)
                        replace BK163 := ak (blk_drew BK163.1)
                        replace BK172 := ak (blk_drew BK172.1)
                        replace BK173 := ak (blk_drew BK173.1)
                        replace BK174 := ak (blk_drew BK174.1)
                        replace HV := HV.keep (below_drew1 (Below.refl _ _))
                        (refine start_ (n := 11) (S := (fun w' => w'.cell? ⟨gb161, 2, none⟩ = some (.int .i64 (nd.f2)) ∧ w'.cell? ⟨gb172, (nd.f2).toNat, none⟩ = some (.int .i64 (getAx sb (nd.f2))) ∧ w'.cell? ⟨gb147, 3, none⟩ = some (.int .i64 a0_3))) (ds := [10]) (bm 11 0) (by kernel_rfl) rfl rfl ⟨bc_ BK161 2, dyn_cell BK172 hax.1, bc_ BK147 3⟩ (fun hHeld => ?_)); refine with_tabW bvv_.tab32 bvv_.bits32 (fun HT_ HW_ => ?_)
                        generalize w173.drew = w181 at HV BK147 BK161 BK163 BK172 BK173 BK174 hHeld ⊢
                        refine pv_ 0 HT_ ?_; refine pv_ 4 HT_ ?_; refine pv_ 5 HT_ ?_
                        refine tv_ 1 HT_ HW_ hHeld ?_
                        refine pv_ 2 HT_ ?_
                        refine tv_ 3 HT_ HW_ hHeld ?_; refine tv_ 6 HT_ HW_ hHeld ?_
                        refine pv_ 7 HT_ ?_; refine pv_ 8 HT_ ?_; refine pv_ 9 HT_ ?_
                        (refine last_ (i := 10) (N := none) (bm 11 2047) rfl rfl (one_of HT_.1 (by kernel_rfl)) (by decide) (fun K hK => ?_))
                        have hcx_ := dyn_cell BK172 hax.1
                        have hfx_ := blk_frozen BK172.1 (nd.f2).toNat
                        (refine skip_ (w1 := (w181.setCell ⟨gb172, (nd.f2).toNat, none⟩ (.int .i64 (wrap64 (getAx sb (nd.f2) + wrap64 ((wrap64 (nd.f3 - getAx sb (nd.f2))) + a0_3)))))) (by rfl) rfl ?_ ?_)
                        · ((go_simp; done))
                        refine hK.out _ _ ?_; clear hK K hcx_ hfx_ hHeld
                        have nHV_ := HV.far (i := (nd.f2).toNat) NE172 (.int .i64 (wrap64 (getAx sb (nd.f2) + wrap64 ((wrap64 (nd.f3 - getAx sb (nd.f2))) + a0_3))))
                        have nBK147_ := ak (bf1_ (i0 := (nd.f2).toNat) (u0 := .int .i64 (wrap64 (getAx sb (nd.f2) + wrap64 ((wrap64 (nd.f3 - getAx sb (nd.f2))) + a0_3)))) BK147 NB147_172)
                        have nBK161_ := ak (bf1_ (i0 := (nd.f2).toNat) (u0 := .int .i64 (wrap64 (getAx sb (nd.f2) + wrap64 ((wrap64 (nd.f3 - getAx sb (nd.f2))) + a0_3)))) BK161 NB161_172)
                        have nBK163_ := ak (bf1_ (i0 := (nd.f2).toNat) (u0 := .int .i64 (wrap64 (getAx sb (nd.f2) + wrap64 ((wrap64 (nd.f3 - getAx sb (nd.f2))) + a0_3)))) BK163 NB163_172)
                        have nBK173_ := ak (bf1_ (i0 := (nd.f2).toNat) (u0 := .int .i64 (wrap64 (getAx sb (nd.f2) + wrap64 ((wrap64 (nd.f3 - getAx sb (nd.f2))) + a0_3)))) BK173 NB173_172)
                        have nBK174_ := ak (bf1_ (i0 := (nd.f2).toNat) (u0 := .int .i64 (wrap64 (getAx sb (nd.f2) + wrap64 ((wrap64 (nd.f3 - getAx sb (nd.f2))) + a0_3)))) BK174 NB174_172)
                        have nBK172_ := dyn_put BK172 hax.1 (wrap64 (getAx sb (nd.f2) + wrap64 ((wrap64 (nd.f3 - getAx sb (nd.f2))) + a0_3)))
                        clear HV BK147 BK161 BK163 BK173 BK174 BK172
                        generalize (w181.setCell ⟨gb172, (nd.f2).toNat, none⟩ (.int .i64 (wrap64 (getAx sb (nd.f2) + wrap64 ((wrap64 (nd.f3 - getAx sb (nd.f2))) + a0_3))))) = w182 at nHV_ nBK147_ nBK161_ nBK163_ nBK173_ nBK174_ nBK172_ ⊢
                        have HV := nHV_; have BK147 := nBK147_; have BK161 := nBK161_; have BK163 := nBK163_; have BK173 := nBK173_; have BK174 := nBK174_; have BK172 := nBK172_
                        clear nHV_ nBK147_ nBK161_ nBK163_ nBK173_ nBK174_ nBK172_
                        (refine done_ (done_of HT_.1 (by kernel_rfl)) ?_)
                        obtain ⟨gv, hgv⟩ : ∃ gv, gv = setAx sb (nd.f2) (wrap64 (getAx sb (nd.f2) + wrap64 ((wrap64 (nd.f3 - getAx sb (nd.f2))) + a0_3))) := ⟨_, rfl⟩
                        have Ngv := ak hgv
                        clear hgv
                        rw [← Ngv.1] at BK172 hF
                        obtain ⟨⟨hcy_0, hcy_1, hcy_2, hcy_3, hcy_4, hcy_5, hcy_6⟩, hfy_0, hfy_1, hfy_2, hfy_3, hfy_4, hfy_5, hfy_6⟩ := cz7_ BK161
                        obtain ⟨hce_0, hce_1, hce_2, hfe_0, hfe_1, hfe_2⟩ := cz3_ BK172
                        obtain ⟨hcx_0, hcx_1, hcx_2, hfx_⟩ := HV.cellB h6.1.1 h6.1.2
                        have hfx_0 := hfx_ 0; have hfx_1 := hfx_ 1; have hfx_2 := hfx_ 2
                        simp only [Nat.add_zero] at hfx_0
                        clear hfx_
                        (try go_wp2_with (first | ((with_reducible refine gate_store (t := 64) (p := 170) rfl ?_); refine store_event (t := 64) (p := 170) (v := ?vo_v17) (w1 := (((w182.setCell ⟨gb, (nd.f6).toNat * 3, none⟩ (.int .i64 gv.f0)).setCell ⟨gb, (nd.f6).toNat * 3 + 1, none⟩ (.int .i64 gv.f1)).setCell ⟨gb, (nd.f6).toNat * 3 + 2, none⟩ (.int .i64 gv.f2))) ?hg17 ?ho17 ?hn17 ?hr17 ?_; (case ho17 => rfl); (case hg17 => rfl); (case hn17 => rfl); (case hr17 => (go_simp; done)); intro w183 hw)))
                        have nHV : VR w w183 gp gb l1.length cp cb ((ps.set (nd.f5).toNat ⟨lv.f0, lv.f1, lv.f2⟩).set (nd.f6).toNat ⟨rv.f0, rv.f1, rv.f2⟩) ((bs.set (nd.f5).toNat ⟨(sb.f0), (sb.f1), (sb.f2)⟩).set (nd.f6).toNat ⟨gv.f0, gv.f1, gv.f2⟩) := by rw [hw]; exact HV.setB h6.1.1 h6.1.2 gv.f0 gv.f1 gv.f2
                        have n147_ : Aside0 (w183.heap[gb147]? = some (.cells #[.int .i64 a0_0, .int .i64 a0_1, .int .i64 a0_2, .int .i64 a0_3, (.slice A0_4 l0_4.length c0_4)] 33 (0, 0))) := by rw [hw]; exact ak (blk_far (blk_far (blk_far BK147.1 NE147.2.2 _) NE147.2.2 _) NE147.2.2 _)
                        have n161_ : Aside0 (w183.heap[gb161]? = some (.cells #[.int .i64 (nd.f0), .string (nd.f1), .int .i64 (nd.f2), .int .i64 (nd.f3), .int .i64 (nd.f4), .int .i64 (nd.f5), .int .i64 (nd.f6)] 61 (0, 0))) := by rw [hw]; exact ak (blk_far (blk_far (blk_far BK161.1 NE161.2.2 _) NE161.2.2 _) NE161.2.2 _)
                        have n163_ : Aside0 (w183.heap[gb163]? = some (.cells #[.int .i64 (sp.f0), .int .i64 (sp.f1), .int .i64 (sp.f2)] 64 (0, 0))) := by rw [hw]; exact ak (blk_far (blk_far (blk_far BK163.1 NE163.2.2 _) NE163.2.2 _) NE163.2.2 _)
                        have n172_ : Aside0 (w183.heap[gb172]? = some (.cells #[.int .i64 gv.f0, .int .i64 gv.f1, .int .i64 gv.f2] 64 (0, 0))) := by rw [hw]; exact ak (blk_far (blk_far (blk_far BK172.1 NE172.2.2 _) NE172.2.2 _) NE172.2.2 _)
                        have n173_ : Aside0 (w183.heap[gb173]? = some (.cells #[.int .i64 lv.f0, .int .i64 lv.f1, .int .i64 lv.f2] 64 (0, 0))) := by rw [hw]; exact ak (blk_far (blk_far (blk_far BK173.1 NE173.2.2 _) NE173.2.2 _) NE173.2.2 _)
                        have n174_ : Aside0 (w183.heap[gb174]? = some (.cells #[.int .i64 rv.f0, .int .i64 rv.f1, .int .i64 rv.f2] 64 (0, 0))) := by rw [hw]; exact ak (blk_far (blk_far (blk_far BK174.1 NE174.2.2 _) NE174.2.2 _) NE174.2.2 _)
                        clear HV BK147 BK161 BK163 BK172 BK173 BK174
                        have HV := nHV
                        have BK147 := n147_; have BK161 := n161_; have BK163 := n163_; have BK172 := n172_; have BK173 := n173_; have BK174 := n174_
                        clear nHV n147_ n161_ n163_ n172_ n173_ n174_
                        (go_roundg k1)
                        case measure => have := HA.1; omega
                        subst hw
                        have hx_ : wrap64 (x42_1 + 1) = x42_1 + 1 := wr_ (by have := HA.1; have := hn1.1; omega) (by have := HA.1; have := hn1.1; omega)
                        exact ⟨_, _, x9_1, wrap64 (x42_1 + 1), rfl, rfl, ⟨by rw [hx_]; have := HA.1; have := hq_.1; refine ⟨by omega, by omega, ?_⟩; rw [show (x42_1 + 1).toNat = x42_1.toNat + 1 by omega]; exact hF⟩, HV, ⟨bk_ BK147⟩⟩
            have c81b0 := beq_eq_false_iff_ne.mpr c81
            have c81b1 := bne_iff_ne.mpr c81
            rw [if_neg (fun hh => c81 hh.1)] at hF
            clear c81
            simp only [Option.some.injEq, Prod.mk.injEq] at hF
            obtain ⟨rfl, rfl⟩ := hF
            refine pv_ 4 HT_ ?_; refine pv_ 5 HT_ ?_
            refine pu_ 6 91 (bm 31 127) HT_ ?_
            refine pu_ 7 92 (bm 31 255) HT_ ?_
            refine pu_ 8 93 (bm 31 511) HT_ ?_
            refine pu_ 9 94 (bm 31 1023) HT_ ?_
            refine pu_ 10 95 (bm 31 2047) HT_ ?_
            refine pu_ 11 96 (bm 31 4095) HT_ ?_
            refine pu_ 12 97 (bm 31 8191) HT_ ?_
            refine pv_ 13 HT_ ?_; refine pv_ 14 HT_ ?_
            refine pu_ 15 100 (bm 31 65535) HT_ ?_
            refine pu_ 16 101 (bm 31 131071) HT_ ?_
            refine pu_ 17 102 (bm 31 262143) HT_ ?_
            refine pu_ 18 103 (bm 31 524287) HT_ ?_
            refine pu_ 19 104 (bm 31 1048575) HT_ ?_
            refine pu_ 20 105 (bm 31 2097151) HT_ ?_
            refine pu_ 21 106 (bm 31 4194303) HT_ ?_
            refine pu_ 22 107 (bm 31 8388607) HT_ ?_
            refine pu_ 23 108 (bm 31 16777215) HT_ ?_
            refine pu_ 24 109 (bm 31 33554431) HT_ ?_
            refine pu_ 25 110 (bm 31 67108863) HT_ ?_
            refine pu_ 26 111 (bm 31 134217727) HT_ ?_
            refine pu_ 27 112 (bm 31 268435455) HT_ ?_
            refine pu_ 28 113 (bm 31 536870911) HT_ ?_
            refine pu_ 29 114 (bm 31 1073741823) HT_ ?_
            refine pv_ 30 HT_ ?_
            (refine done_ (done_of HT_.1 (by kernel_rfl)) ?_)
            (try go_wp2)
            (go_ret2)
            exact ⟨rfl, HV.hb⟩
          rw [if_neg c79] at hF
          have c79b0 := beq_eq_false_iff_ne.mpr c79
          have c79b1 := bne_iff_ne.mpr c79
          clear c79
          obtain ⟨ad162, e162, hx162_0, hx162_1, hx162_2, hx162_3, hx162_4, hx162_5, hx162_6⟩ := at_T61 HR1.1 x42_1 p162 q162
          cases e162
          rw [← Nnd.1] at hx162_0 hx162_1 hx162_2 hx162_3 hx162_4 hx162_5 hx162_6
          replace hx162_0 := (HV.hb.cell (World.block_lt_of_cell? w _ hx162_0)).trans hx162_0
          replace hx162_1 := (HV.hb.cell (World.block_lt_of_cell? w _ hx162_1)).trans hx162_1
          replace hx162_2 := (HV.hb.cell (World.block_lt_of_cell? w _ hx162_2)).trans hx162_2
          replace hx162_3 := (HV.hb.cell (World.block_lt_of_cell? w _ hx162_3)).trans hx162_3
          replace hx162_4 := (HV.hb.cell (World.block_lt_of_cell? w _ hx162_4)).trans hx162_4
          replace hx162_5 := (HV.hb.cell (World.block_lt_of_cell? w _ hx162_5)).trans hx162_5
          replace hx162_6 := (HV.hb.cell (World.block_lt_of_cell? w _ hx162_6)).trans hx162_6
          replace p162 := eq_true p162
          replace q162 := eq_true q162
          (try go_wp2_with (first | ((with_reducible refine gate_dst (N := 11) rfl ?_); refine bx_ 11 #[.int .i64 0, .string (⟨#[]⟩ : ByteArray), .int .i64 0, .int .i64 0, .int .i64 0, .int .i64 0, .int .i64 0] 61 ?_; intro gb161 hg w39 hbox hb; have BK161 := ak hbox; have NE161 := HV.ne hn0'.1 hg; have NB147_161 := nl_ BK147 hg; replace HV := HV.keep hb; replace BK147 := bb_ BK147 hb; clear hb hbox hg hx162_0 hx162_1 hx162_2 hx162_3 hx162_4 hx162_5 hx162_6; obtain ⟨⟨hcy_0, hcy_1, hcy_2, hcy_3, hcy_4, hcy_5, hcy_6⟩, hfy_0, hfy_1, hfy_2, hfy_3, hfy_4, hfy_5, hfy_6⟩ := cz7_ BK161) | ((with_reducible refine gate_store (t := 61) (p := 11) rfl ?_); refine store_event (t := 61) (p := 11) (v := ?vo_v8) (w1 := (((((((w39.setCell ⟨gb161, 0, none⟩ (.int .i64 (nd.f0))).setCell ⟨gb161, 1, none⟩ (.string (nd.f1))).setCell ⟨gb161, 2, none⟩ (.int .i64 (nd.f2))).setCell ⟨gb161, 3, none⟩ (.int .i64 (nd.f3))).setCell ⟨gb161, 4, none⟩ (.int .i64 (nd.f4))).setCell ⟨gb161, 5, none⟩ (.int .i64 (nd.f5))).setCell ⟨gb161, 6, none⟩ (.int .i64 (nd.f6)))) ?hg8 ?ho8 ?hn8 ?hr8 ?_; (case ho8 => rfl); (case hg8 => rfl); (case hn8 => rfl); (case hr8 => (go_simp; done)); intro w40 hw; clear hcy_0 hcy_1 hcy_2 hcy_3 hcy_4 hcy_5 hcy_6 hfy_0 hfy_1 hfy_2 hfy_3 hfy_4 hfy_5 hfy_6; replace HV := (show VR w w40 gp gb l1.length cp cb ps bs from by rw [hw]; exact ((((((HV.far NE161 _).far NE161 _).far NE161 _).far NE161 _).far NE161 _).far NE161 _).far NE161 _); replace BK147 := (show Aside0 (w40.heap[gb147]? = some (.cells #[.int .i64 a0_0, .int .i64 a0_1, .int .i64 a0_2, .int .i64 a0_3, (.slice A0_4 l0_4.length c0_4)] 33 (0, 0))) from by rw [hw]; exact bf7_ BK147 NB147_161); replace BK161 := (show Aside0 (w40.heap[gb161]? = some (.cells #[.int .i64 (nd.f0), .string (nd.f1), .int .i64 (nd.f2), .int .i64 (nd.f3), .int .i64 (nd.f4), .int .i64 (nd.f5), .int .i64 (nd.f6)] 61 (0, 0))) from by rw [hw]; exact bp7_ BK161); clear hw; obtain ⟨hx166_0, hx166_1, hx166_2, hf166⟩ := HV.cellP (x := x42_1) (of_eq_true p162) (of_eq_true q162); clear hf166; rw [← Nsp.1] at hx166_0 hx166_1 hx166_2) | ((with_reducible refine gate_dst (N := 12) rfl ?_); refine bx_ 12 #[.int .i64 0, .int .i64 0, .int .i64 0] 64 ?_; intro gb163 hg w41 hbox hb; have BK163 := ak hbox; have NE163 := HV.ne hn0'.1 hg; have NB147_163 := nl_ BK147 hg; have NB161_163 := nl_ BK161 hg; have NB163_161 := nr_ BK161 hg; have NB163_147 := nr_ BK147 hg; replace HV := HV.keep hb; replace BK147 := bb_ BK147 hb; replace BK161 := bb_ BK161 hb; clear hb hbox hg hx166_0 hx166_1 hx166_2; obtain ⟨hcx_0, hcx_1, hcx_2, hfx_0, hfx_1, hfx_2⟩ := cz3_ BK163; have hnb_ := NB163_161.1; have hnc_ := NB161_163.1; have hnb2_ := NB163_147.1; have hnc2_ := NB147_163.1; obtain ⟨hcz45_0, hcz45_1, hcz45_2, hcz45_3, hcz45_4, hfz45_0, hfz45_1, hfz45_2, hfz45_3, hfz45_4⟩ := cz5_ BK147; obtain ⟨⟨hcy_0, hcy_1, hcy_2, hcy_3, hcy_4, hcy_5, hcy_6⟩, hfy_0, hfy_1, hfy_2, hfy_3, hfy_4, hfy_5, hfy_6⟩ := cz7_ BK161)))
          (go_roundg k1)
          case measure => have := HA.1; omega
          have hx_ : wrap64 (x42_1 + 1) = x42_1 + 1 := wr_ (by have := HA.1; have := hn1.1; omega) (by have := HA.1; have := hn1.1; omega)
          exact ⟨ps, bs, x9_1, wrap64 (x42_1 + 1), rfl, rfl, ⟨by rw [hx_]; have := HA.1; have := hq_.1; refine ⟨by omega, by omega, ?_⟩; rw [show (x42_1 + 1).toNat = x42_1.toNat + 1 by omega]; exact hF⟩, HV.far3 NE163, ⟨bf3_ BK147 NB147_163⟩⟩
        have hF := HA.1.2.2
        rw [List.drop_eq_nil_of_le (by have := HA.1; omega), valF] at hF
        simp only [Option.some.injEq, Prod.mk.injEq] at hF
        obtain ⟨rfl, rfl⟩ := hF
        have c30b0 := decide_eq_false c30
        clear c30
        (go_wp2)
        (go_ret2)
        exact ⟨rfl, HV.hb⟩
  rw [if_neg c4] at h
  have c4b0 := beq_eq_false_iff_ne.mpr c4
  have c4b1 := bne_iff_ne.mpr c4
  simp only [Option.some.injEq, Prod.mk.injEq] at h
  obtain ⟨rfl, rfl⟩ := h
  (go_enter Try.func12, Try.ntmps12); (go_wp2_with (first | ((with_reducible refine gate_dst (N := 2) rfl ?_); refine bx_ 2 #[.int .i64 a0_0, .int .i64 a0_1, .int .i64 a0_2, .int .i64 a0_3, .slice A0_4 l0_4.length c0_4] 33 ?_; intro gb147 hg w424 hbox hb; have BK147 := ak (hbox); have GW147 := gw_ HB hg; have GE147 := gw_ HB hg; replace HB := hs_ HB hb; clear hb hbox hg; obtain ⟨hcz425_0, hcz425_1, hcz425_2, hcz425_3, hcz425_4, hfz425_0, hfz425_1, hfz425_2, hfz425_3, hfz425_4⟩ := cz5_ BK147) | ((with_reducible refine gate_callee (f := 14) rfl ?_); refine gl_ 19 Try.func14 #[.agg #[.int .i64 a0_0, .int .i64 a0_1, .int .i64 a0_2, .int .i64 a0_3, .slice A0_4 l0_4.length c0_4]] ?_; (with_reducible refine (boxpack_Check.calls k a0_0 a0_1 a0_2 a0_3 _ _ l0_4 t148 _ ?side1 ?side2 A3.1).mono ?_); (case side1 => exact (Kd.C_below HR0_4.1 HB.1)); (case side2 => exact HC0_4.1); rintro e w426 ⟨rfl, hb⟩; refine ⟨_, rfl, ?_⟩; replace BK147 := bb_ BK147 hb; replace HB := hs_ HB hb; (try clear hb)))); (go_ret2); (exact ⟨by rfl, hb_ HB⟩)

end Go.Proofs.Ytgacodhpniehiaa.XA
