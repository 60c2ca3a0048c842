import Derived.Test.YtgacodhpniehiaaXAx0
namespace Go.Proofs.Ytgacodhpniehiaa.XA
open Go.RowKit Opens YtgacodhpniehiaaW.PrintWords YtgacodhpniehiaaW.PrintLast YtgacodhpniehiaaW.PrintMore
attribute [local go_sem] max2_int min2_int max_two min_two max_three min_three max_four min_four cell_some cell_same
set_option linter.unusedVariables false
set_option linter.unusedSimpArgs false

def boxpack_Problem_size.f (a0_0 : Int) (a0_1 : Int) (a0_2 : Int) (a0_3 : Int) (l0_4 : List (S56)) (a1 : Int) : Option (Int × Int × Int) := if a0_0 = 0 then (none) else (if a0_1 = 0 then (none) else (some (wrap64 ((Int.tmod a1 a0_0) + 1), wrap64 ((Int.tmod (wrap64 (Int.tdiv a1 a0_0)) a0_1) + 1), wrap64 ((wrap64 (Int.tdiv (wrap64 (Int.tdiv a1 a0_0)) a0_1)) + 1))))
def boxpack_Problem_size.T1 : Bool × List (List Nat × List Nat) := (true, [([], []), ([], []), ([1], [1]), ([2], [2]), ([0, 3], [0, 3]), ([4], [4]), ([], []), ([], []), ([7], [7]), ([8], [8]), ([6, 9], [6, 9]), ([], []), ([11], [11]), ([12], [12]), ([10, 13], [10, 13]), ([14], [14]), ([], []), ([], []), ([17], [17]), ([18], [18]), ([16, 19], [16, 19]), ([], []), ([21], [21]), ([22], [22]), ([20, 23], [20, 23]), ([24], [24]), ([5, 15, 25], [5, 15, 25]), ([26, 0, 1, 2, 3, 4, 5, 6, 7, 8, 9, 10, 11, 12, 13, 14, 15, 16, 17, 18, 19, 20, 21, 22, 23, 24, 25, 26], [26])])
def boxpack_Problem_size.B1 : List Nat := [0, 0, 2, 6, 15, 31, 0, 0, 128, 384, 960, 0, 2048, 6144, 16320, 32704, 0, 0, 131072, 393216, 983040, 0, 2097152, 6291456, 16711680, 33488896, 67108863, 134217727]
theorem boxpack_Problem_size.tab1 : rtab .any (opsOf Try.f58 1) = boxpack_Problem_size.T1 := by kernel_rfl
theorem boxpack_Problem_size.bits1 : waitsOk boxpack_Problem_size.T1.2 boxpack_Problem_size.B1 = true := by kernel_rfl
set_option maxHeartbeats 8000000 in
set_option maxRecDepth 100000 in
theorem boxpack_Problem_size.calls (a0_0 : Int) (a0_1 : Int) (a0_2 : Int) (a0_3 : Int) (A0_4 : Option Addr) (c0_4 : Nat) (l0_4 : List (S56)) (a1 : Int) (r1 : Int) (r2 : Int) (r3 : Int) (w : World) (hr0_4 : Kd.C k56 w A0_4 l0_4.length l0_4) (hc0_4 : l0_4.length ≤ c0_4) (h : boxpack_Problem_size.f a0_0 a0_1 a0_2 a0_3 l0_4 a1 = some (r1, r2, r3)) :
    Calls Try.prog 58 #[.agg #[.int .i64 a0_0, .int .i64 a0_1, .int .i64 a0_2, .int .i64 a0_3, .slice A0_4 l0_4.length c0_4], .int .i64 a1] w fun e w' => e = .returned (.agg #[.int .i64 r1, .int .i64 r2, .int .i64 r3]) ∧ Below w.heap.size w w' := by
  have hu33 := Try.underlying33
  have hu64 := Try.underlying64
  have HR0_4 := ak hr0_4
  have HC0_4 := ak hc0_4
  clear hr0_4 hc0_4
  have HB := ak (Below.refl w.heap.size w)
  have H : (if a0_0 = 0 then (none) else (if a0_1 = 0 then (none) else (some (wrap64 ((Int.tmod a1 a0_0) + 1), wrap64 ((Int.tmod (wrap64 (Int.tdiv a1 a0_0)) a0_1) + 1), wrap64 ((wrap64 (Int.tdiv (wrap64 (Int.tdiv a1 a0_0)) a0_1)) + 1))))) = some (r1, r2, r3) := h
  clear h
  by_cases c3 : a0_0 = 0
  · rw [if_pos c3] at H
    exact absurd H (by simp)
  rw [if_neg c3] at H
  have c3b0 : (a0_0 == 0) = false := beq_eq_false_iff_ne.mpr c3
  have c3b1 : (a0_0 != 0) = true := bne_iff_ne.mpr c3
  by_cases c4 : a0_1 = 0
  · rw [if_pos c4] at H
    exact absurd H (by simp)
  rw [if_neg c4] at H
  have c4b0 : (a0_1 == 0) = false := beq_eq_false_iff_ne.mpr c4
  have c4b1 : (a0_1 != 0) = true := bne_iff_ne.mpr c4
  simp only [Option.some.injEq, Prod.mk.injEq] at H
  obtain ⟨rfl, rfl, rfl⟩ := H
  go_enter Try.func58, Try.ntmps58
  try go_wp2_with (first | ((with_reducible refine gate_dst (N := 2) rfl ?_); refine bx_ 2 #[.int .i64 a0_0, .int .i64 a0_1, .int .i64 a0_2, .int .i64 a0_3, .slice A0_4 l0_4.length c0_4] 33 ?_; intro gb154 hg w5 hbox hb; have n0_ := ak (below_step HB.1 hb); have n1_ := ak (hbox); have n2_ := ak ((by rw [hg]; exact (below_size HB.1) : w.heap.size ≤ gb154)); have n3_ := ak ((by rw [hg]; exact (below_size HB.1) : w.heap.size ≤ gb154)); clear HB; have HB := n0_; have BK154 := n1_; have GW154 := n2_; have GE154 := n3_; clear n0_ n1_ n2_ n3_; clear hb hbox hg) | ((with_reducible refine gate_dst (N := 4) rfl ?_); refine bx_ 4 #[.int .i64 0, .int .i64 0, .int .i64 0] 64 ?_; intro gb155 hg w6 hbox hb; have n0_ := ak (blk_below (g := gb154) (o := .cells #[.int .i64 a0_0, .int .i64 a0_1, .int .i64 a0_2, .int .i64 a0_3, .slice A0_4 l0_4.length c0_4] 33 (0, 0)) (by exact BK154.1) hb); have n1_ := ak (below_step HB.1 hb); have n2_ := ak (hbox); have n3_ := ak ((by rw [hg]; exact (below_size HB.1) : w.heap.size ≤ gb155)); have n4_ := ak ((by rw [hg]; exact (below_size HB.1) : w.heap.size ≤ gb155)); have n5_ := ak ((by rw [hg]; exact Nat.ne_of_lt (blk_lt (g := gb154) (o := .cells #[.int .i64 a0_0, .int .i64 a0_1, .int .i64 a0_2, .int .i64 a0_3, .slice A0_4 l0_4.length c0_4] 33 (0, 0)) (by exact BK154.1)) : gb154 ≠ gb155)); have n6_ := ak ((by rw [hg]; exact Nat.ne_of_gt (blk_lt (g := gb154) (o := .cells #[.int .i64 a0_0, .int .i64 a0_1, .int .i64 a0_2, .int .i64 a0_3, .slice A0_4 l0_4.length c0_4] 33 (0, 0)) (by exact BK154.1)) : gb155 ≠ gb154)); clear BK154; clear HB; have BK154 := n0_; have HB := n1_; have BK155 := n2_; have GW155 := n3_; have GE155 := n4_; have NB154_155 := n5_; have NB155_154 := n6_; clear n0_ n1_ n2_ n3_ n4_ n5_ n6_; clear hb hbox hg))
  have n0_ := bq_ BK154
  have n1_ := bq_ BK155
  have n2_ := ak (below_drew1 HB.1)
  clear BK154
  clear BK155
  clear HB
  have BK154 := n0_
  have BK155 := n1_
  have HB := n2_
  clear n0_ n1_ n2_
  refine start_ (n := 28) (S := fun w' => w'.cell? ⟨gb154, 0, none⟩ = some (.int .i64 a0_0) ∧ w'.cell? ⟨gb154, 1, none⟩ = some (.int .i64 a0_1) ∧ w'.cell? ⟨gb154, 2, none⟩ = some (.int .i64 a0_2) ∧ w'.cell? ⟨gb154, 3, none⟩ = some (.int .i64 a0_3) ∧ w'.cell? ⟨gb154, 4, none⟩ = some (.slice A0_4 l0_4.length c0_4)) (ds := []) #[false, false, false, false, false, false, false, false, false, false, false, false, false, false, false, false, false, false, false, false, false, false, false, false, false, false, false, false] (by kernel_rfl) rfl rfl ⟨bc_ BK154 0, bc_ BK154 1, bc_ BK154 2, bc_ BK154 3, bc_ BK154 4⟩ (fun hHeld => ?_); refine with_tabW boxpack_Problem_size.tab1 boxpack_Problem_size.bits1 (fun HT_ HW_ => ?_)
  generalize w6.drew = w7 at BK154 BK155 HB hHeld ⊢
  refine pr_ 0 HT_ ?_
  refine pr_ 1 HT_ ?_
  refine pr_ 2 HT_ ?_
  refine pr_ 6 HT_ ?_
  refine pr_ 7 HT_ ?_
  refine pr_ 8 HT_ ?_
  refine pr_ 11 HT_ ?_
  refine pr_ 12 HT_ ?_
  refine pr_ 16 HT_ ?_
  refine pr_ 17 HT_ ?_
  refine pr_ 18 HT_ ?_
  refine pr_ 21 HT_ ?_
  refine pr_ 22 HT_ ?_
  refine take_ (i := 3) (N := some 8) (v := ?_) (a' := ?_) #[true, true, true, true, false, false, true, true, true, false, false, true, true, false, false, false, true, true, true, false, false, true, true, false, false, false, false, false] rfl rfl (take_ofW HT_.1 HW_.1 (by kernel_rfl)) (fun _ _ _ h => h) (Or.inl ⟨by rfl, ?_⟩) hHeld ?_ ?_
  rotate_left
  · rintro w' ⟨s0, s1, s2, s3, s4⟩
    go_simp
    with_reducible rfl
  rotate_left
  · simp only [Act.put, List.setIfInBounds_toArray, List.set_cons_zero, List.set_cons_succ, i64_w, i32_w]
    rfl
  refine pr_ 4 HT_ ?_
  refine pr_ 5 HT_ ?_
  refine take_ (i := 9) (N := some 14) (v := ?_) (a' := ?_) #[true, true, true, true, true, true, true, true, true, true, false, true, true, false, false, false, true, true, true, false, false, true, true, false, false, false, false, false] rfl rfl (take_ofW HT_.1 HW_.1 (by kernel_rfl)) (fun _ _ _ h => h) (Or.inl ⟨by rfl, ?_⟩) hHeld ?_ ?_
  rotate_left
  · rintro w' ⟨s0, s1, s2, s3, s4⟩
    go_simp
    with_reducible rfl
  rotate_left
  · simp only [Act.put, List.setIfInBounds_toArray, List.set_cons_zero, List.set_cons_succ, i64_w, i32_w]
    rfl
  refine pr_ 10 HT_ ?_
  refine take_ (i := 13) (N := some 18) (v := ?_) (a' := ?_) #[true, true, true, true, true, true, true, true, true, true, true, true, true, true, false, false, true, true, true, false, false, true, true, false, false, false, false, false] rfl rfl (take_ofW HT_.1 HW_.1 (by kernel_rfl)) (fun _ _ _ h => h) (Or.inl ⟨by rfl, ?_⟩) hHeld ?_ ?_
  rotate_left
  · rintro w' ⟨s0, s1, s2, s3, s4⟩
    go_simp
    with_reducible rfl
  rotate_left
  · simp only [Act.put, List.setIfInBounds_toArray, List.set_cons_zero, List.set_cons_succ, i64_w, i32_w]
    rfl
  refine pr_ 14 HT_ ?_
  refine pr_ 15 HT_ ?_
  refine take_ (i := 19) (N := some 24) (v := ?_) (a' := ?_) #[true, true, true, true, true, true, true, true, true, true, true, true, true, true, true, true, true, true, true, true, false, true, true, false, false, false, false, false] rfl rfl (take_ofW HT_.1 HW_.1 (by kernel_rfl)) (fun _ _ _ h => h) (Or.inl ⟨by rfl, ?_⟩) hHeld ?_ ?_
  rotate_left
  · rintro w' ⟨s0, s1, s2, s3, s4⟩
    go_simp
    with_reducible rfl
  rotate_left
  · simp only [Act.put, List.setIfInBounds_toArray, List.set_cons_zero, List.set_cons_succ, i64_w, i32_w]
    rfl
  refine pr_ 20 HT_ ?_
  refine take_ (i := 23) (N := some 28) (v := ?_) (a' := ?_) #[true, true, true, true, true, true, true, true, true, true, true, true, true, true, true, true, true, true, true, true, true, true, true, true, false, false, false, false] rfl rfl (take_ofW HT_.1 HW_.1 (by kernel_rfl)) (fun _ _ _ h => h) (Or.inl ⟨by rfl, ?_⟩) hHeld ?_ ?_
  rotate_left
  · rintro w' ⟨s0, s1, s2, s3, s4⟩
    go_simp
    with_reducible rfl
  rotate_left
  · simp only [Act.put, List.setIfInBounds_toArray, List.set_cons_zero, List.set_cons_succ, i64_w, i32_w]
    rfl
  refine pr_ 24 HT_ ?_
  refine pr_ 25 HT_ ?_
  refine pr_ 26 HT_ ?_
  refine one_ (i := 27) (N := none) #[true, true, true, true, true, true, true, true, true, true, true, true, true, true, true, true, true, true, true, true, true, true, true, true, true, true, true, true] rfl rfl (one_of HT_.1 (by kernel_rfl)) (by decide) (fun K hK => ?_)
  have hs8 : w7.cell? ⟨gb155, 0, none⟩ = some (.int .i64 0) := bc_ BK155 0
  have hfs8 := blk_frozen BK155.1 0
  have hns8_0 := NB154_155.1
  have hms8_0 := NB155_154.1
  have hs9 : w7.cell? ⟨gb155, 1, none⟩ = some (.int .i64 0) := bc_ BK155 1
  have hfs9 := blk_frozen BK155.1 1
  have hns9_0 := NB154_155.1
  have hms9_0 := NB155_154.1
  have hs10 : w7.cell? ⟨gb155, 2, none⟩ = some (.int .i64 0) := bc_ BK155 2
  have hfs10 := blk_frozen BK155.1 2
  have hns10_0 := NB154_155.1
  have hms10_0 := NB155_154.1
  refine skip_ (w1 := ?_) (by rfl) rfl ?_ ?_
  rotate_left
  · go_simp
    rfl
  refine hK.out _ _ ⟨(cf_ NB154_155 (cf_ NB154_155 (cf_ NB154_155 hHeld.1))), (cf_ NB154_155 (cf_ NB154_155 (cf_ NB154_155 hHeld.2.1))), (cf_ NB154_155 (cf_ NB154_155 (cf_ NB154_155 hHeld.2.2.1))), (cf_ NB154_155 (cf_ NB154_155 (cf_ NB154_155 hHeld.2.2.2.1))), (cf_ NB154_155 (cf_ NB154_155 (cf_ NB154_155 hHeld.2.2.2.2)))⟩ (fun hHeld => ?_)
  clear hK K
  refine done_ (done_of HT_.1 (by kernel_rfl)) ?_
  try go_wp2
  refine bodyPost_ret (results_cell_row rfl _ _ gb155 64 #[.int .i64 (wrap64 ((Int.tmod a1 a0_0) + 1)), .int .i64 (wrap64 ((Int.tmod (wrap64 (Int.tdiv a1 a0_0)) a0_1) + 1)), .int .i64 (wrap64 ((wrap64 (Int.tdiv (wrap64 (Int.tdiv a1 a0_0)) a0_1)) + 1))] (0, 0) _ rfl (by refine blk_put (cs := #[.int .i64 (wrap64 ((Int.tmod a1 a0_0) + 1)), .int .i64 (wrap64 ((Int.tmod (wrap64 (Int.tdiv a1 a0_0)) a0_1) + 1)), .int .i64 0]) ?_ 2 _ rfl; refine blk_put (cs := #[.int .i64 (wrap64 ((Int.tmod a1 a0_0) + 1)), .int .i64 0, .int .i64 0]) ?_ 1 _ rfl; refine blk_put (cs := #[.int .i64 0, .int .i64 0, .int .i64 0]) ?_ 0 _ rfl; exact BK155.1) Try.underlying64 rfl (by kernel_rfl)) rfl ?_
  exact ⟨by rfl, by repeat (with_reducible first | exact HB.1 | refine below_set ?_ GE155.1)⟩

end Go.Proofs.Ytgacodhpniehiaa.XA
