import Derived.Test.YtgacodhpniehiaaXAx24
import Derived.Test.YtgacodhpniehiaaXAx25
namespace Go.Proofs.Ytgacodhpniehiaa.XA
open Go.RowKit Opens YtgacodhpniehiaaW.PrintWords YtgacodhpniehiaaW.PrintLast YtgacodhpniehiaaW.PrintMore
attribute [local go_sem] max2_int min2_int max_two min_two max_three min_three max_four min_four cell_some cell_same
set_option linter.unusedVariables false
set_option linter.unusedSimpArgs false

def rf_Table.l0 : Nat → List Int → Int → Int → Int → Int → Int → List (S56) → Option (List Int)
  | 0, _, _, _, _, _, _, _ => none
  | k + 1, x3, x4, x349000, x349001, x349002, x349003, x349004 => if x4 < (x3.length : Int) then ((rf_size.f x349000 x349001 x349002 x349003 x349004 x4).bind fun bt353 => ((rf_need.f k x349000 x349001 x349002 x349003 x349004 x3 bt353.1 bt353.2.1 bt353.2.2).bind fun t356 => (if 0 ≤ x4 then (rf_Table.l0 k (x3.set (x4 : Int).toNat t356) (wrap64 (x4 + 1)) x349000 x349001 x349002 x349003 x349004) else (none)))) else (some x3)
def rf_Table.f (k : Nat) (a0_0 : Int) (a0_1 : Int) (a0_2 : Int) (a0_3 : Int) (l0_4 : List (S56)) : Option (List Int) := (rf_count.f a0_0 a0_1 a0_2 a0_3 l0_4).bind fun t349 => (if 0 ≤ t349 then (if (t349 : Int).toNat ≤ 35184372088832 then (rf_Table.l0 k (List.replicate (t349 : Int).toNat 0) 0 a0_0 a0_1 a0_2 a0_3 l0_4) else (none)) else (none))
theorem rf_Table.mono_l : ∀ k, (∀ y0 y1 y2 y3 y4 y5 y6, LeO (rf_Table.l0 k y0 y1 y2 y3 y4 y5 y6) (rf_Table.l0 (k + 1) y0 y1 y2 y3 y4 y5 y6))
  | 0 => fun _ _ _ _ _ _ _ r h => by simp [rf_Table.l0] at h
  | k + 1 => by
    have ih0 := rf_Table.mono_l k
    intro y0 y1 y2 y3 y4 y5 y6
    unfold rf_Table.l0
    repeat' first
    | (with_reducible exact ih0 _ _ _ _ _ _ _)
    | (with_reducible exact rf_need.mono _ _ _ _ _ _ _ _ _ _)
    | (with_reducible exact LeO.refl _)
    | (with_reducible refine LeO.ite ?_ ?_)
    | (with_reducible refine LeO.bind ?_ (fun _ => ?_))
theorem rf_Table.mono : ∀ a0 a1 a2 a3 a4 k, LeO (rf_Table.f k a0 a1 a2 a3 a4) (rf_Table.f (k + 1) a0 a1 a2 a3 a4) := by
  intro a0 a1 a2 a3 a4 k
  have ih0 := rf_Table.mono_l k
  unfold rf_Table.f
  repeat' first
      | (with_reducible exact ih0 _ _ _ _ _ _ _)
      | (with_reducible exact LeO.refl _)
      | (with_reducible refine LeO.ite ?_ ?_)
      | (with_reducible refine LeO.bind ?_ (fun _ => ?_))
def rf_Table.T5 : Bool × List (List Nat × List Nat) := (true, [([], []), ([], []), ([], []), ([], []), ([], []), ([], []), ([4, 5], [4, 5]), ([2, 3, 6, 6], [2, 3, 6]), ([0, 1, 0, 1, 2, 3, 4, 5, 6, 7], [0, 1]), ([8, 7, 7, 0, 1, 2, 3, 4, 5, 6, 7], [7, 8])])
def rf_Table.B5 : List Nat := [0, 0, 0, 0, 0, 0, 48, 124, 255, 511]
theorem rf_Table.tab5 : rtab .any (opsOf Try.f17 5) = rf_Table.T5 := by kernel_rfl
theorem rf_Table.bits5 : waitsOk rf_Table.T5.2 rf_Table.B5 = true := by kernel_rfl
set_option maxHeartbeats 8000000 in
set_option maxRecDepth 100000 in
theorem rf_Table.calls (k : Nat) (a0_0 : Int) (a0_1 : Int) (a0_2 : Int) (a0_3 : Int) (A0_4 : Option Addr) (c0_4 : Nat) (l0_4 : List (S56)) (r : List Int) (w : World) (hr0_4 : Kd.C k56 w A0_4 l0_4.length l0_4) (hc0_4 : l0_4.length ≤ c0_4) (h : rf_Table.f k a0_0 a0_1 a0_2 a0_3 l0_4 = some r) :
    Calls Try.prog 17 #[.agg #[.int .i64 a0_0, .int .i64 a0_1, .int .i64 a0_2, .int .i64 a0_3, .slice A0_4 l0_4.length c0_4]] w fun e w' => ∃ v0_ : Value, e = .returned (v0_) ∧ Kd.R (Kd.int .i64) 2 w' w.heap.size (fun _ => True) v0_ r ∧ Below w.heap.size w w' := by
  have hu26 := Try.underlying26
  have HR0_4 := ak hr0_4
  have HC0_4 := ak hc0_4
  clear hr0_4 hc0_4
  have HB := ak (Below.refl w.heap.size w)
  have H : ((rf_count.f a0_0 a0_1 a0_2 a0_3 l0_4).bind fun t349 => (if 0 ≤ t349 then (if (t349 : Int).toNat ≤ 35184372088832 then (rf_Table.l0 k (List.replicate (t349 : Int).toNat 0) 0 a0_0 a0_1 a0_2 a0_3 l0_4) else (none)) else (none))) = some r := h
  clear h
  replace H := Option.bind_eq_some_iff.mp H
  obtain ⟨t349, A20, H⟩ := H
  (try dsimp only at H)
  have A2 := ak A20
  clear A20
  by_cases c3 : 0 ≤ t349
  · rw [if_pos c3] at H
    have c3b0 := eq_true c3
    have c3b1 : decide (0 ≤ t349) = true := decide_eq_true c3
    clear c3
    by_cases c4 : (t349 : Int).toNat ≤ 35184372088832
    · rw [if_pos c4] at H
      have c4b0 := eq_true c4
      have c4b1 : decide ((t349 : Int).toNat ≤ 35184372088832) = true := decide_eq_true c4
      clear c4
      obtain ⟨y350, hy350⟩ : ∃ y_ : List Int, y_ = (List.replicate (t349 : Int).toNat 0) := ⟨_, rfl⟩
      replace H : (rf_Table.l0 k y350 0 a0_0 a0_1 a0_2 a0_3 l0_4) = some r := by (rw [hy350]; with_reducible exact H)
      have Ny350 := ak hy350
      clear hy350
      have H' := ak H
      clear H
      go_enter Try.func17, Try.ntmps17
      go_wp2_with (first | ((with_reducible refine gate_dst (N := 1) rfl ?_); refine bx_ 1 #[.int .i64 a0_0, .int .i64 a0_1, .int .i64 a0_2, .int .i64 a0_3, .slice A0_4 l0_4.length c0_4] 26 ?_; intro gb348 hg w5 hbox hb; have n0_ := ak (below_step HB.1 hb); have n1_ := ak (hbox); have n2_ := ak ((by rw [hg]; exact (below_size HB.1) : w.heap.size ≤ gb348)); have n3_ := ak ((by rw [hg]; exact (below_size HB.1) : w.heap.size ≤ gb348)); clear HB; have HB := n0_; have BK348 := n1_; have GW348 := n2_; have GE348 := n3_; clear n0_ n1_ n2_ n3_; clear hb hbox hg; have hcz6_0 : w5.cell? ⟨gb348, 0, none⟩ = some (.int .i64 a0_0) := bc_ BK348 0; have hcz6_1 : w5.cell? ⟨gb348, 1, none⟩ = some (.int .i64 a0_1) := bc_ BK348 1; have hcz6_2 : w5.cell? ⟨gb348, 2, none⟩ = some (.int .i64 a0_2) := bc_ BK348 2; have hcz6_3 : w5.cell? ⟨gb348, 3, none⟩ = some (.int .i64 a0_3) := bc_ BK348 3; have hcz6_4 : w5.cell? ⟨gb348, 4, none⟩ = some (.slice A0_4 l0_4.length c0_4) := bc_ BK348 4; have hfz6_0 := blk_frozen BK348.1 0; have hfz6_1 := blk_frozen BK348.1 1; have hfz6_2 := blk_frozen BK348.1 2; have hfz6_3 := blk_frozen BK348.1 3; have hfz6_4 := blk_frozen BK348.1 4) | ((with_reducible refine gate_callee (f := 50) rfl ?_); refine gl_ 6 Try.func50 #[.agg #[.int .i64 a0_0, .int .i64 a0_1, .int .i64 a0_2, .int .i64 a0_3, .slice A0_4 l0_4.length c0_4]] ?_; (with_reducible refine (rf_count.calls a0_0 a0_1 a0_2 a0_3 _ _ l0_4 t349 _ ?side1 ?side2 A2.1).mono ?_); (case side1 => exact (Kd.C_below HR0_4.1 HB.1)); (case side2 => exact HC0_4.1); rintro e w7 ⟨rfl, hb⟩; refine ⟨_, rfl, ?_⟩; have n0_ := ak (blk_below (g := gb348) (o := .cells #[.int .i64 a0_0, .int .i64 a0_1, .int .i64 a0_2, .int .i64 a0_3, .slice A0_4 l0_4.length c0_4] 26 (0, 0)) (by exact BK348.1) hb); have n1_ := ak (below_step HB.1 hb); clear BK348; clear HB; have BK348 := n0_; have HB := n1_; clear n0_ n1_; (try clear hb)) | ((with_reducible refine gate_dst (N := 7) rfl ?_); refine Kd.R_make (Kd.int .i64) _ 2 rfl (N := 7) rfl 40 _ _ rfl t349 rfl rfl Try.underlying40 (.int .i64 0) 8 info2 rfl (by decide) (by omega) 0 (ok := fun _ => True) (okp := fun _ => True) rfl (fun _ hk => hk) trivial (od_) (Nat.le_trans (Nat.mul_le_mul_right _ (od_ : t349.toNat ≤ 35184372088832)) (by omega)) (Below.refl _ _) (Nat.le_refl _) ?_; intro v351 w8 ho9 hb hg_ hnew_; clear hg_ hnew_; (rw [← Ny350.1] at ho9); have n0_ := ak (Kd.R_lower ho9 (below_size HB.1)); have n1_ := ak (blk_below (g := gb348) (o := .cells #[.int .i64 a0_0, .int .i64 a0_1, .int .i64 a0_2, .int .i64 a0_3, .slice A0_4 l0_4.length c0_4] 26 (0, 0)) (by exact BK348.1) hb); have n2_ := ak (below_step HB.1 hb); clear BK348; clear HB; have HO352 := n0_; have BK348 := n1_; have HB := n2_; clear n0_ n1_ n2_; clear hb ho9))
      go_loopg [4] k (fun kq v4 w' => ∃ (x3_1 : List Int) (x4_1 : Int), v4 = .int .i64 x4_1 ∧ Aside0 (rf_Table.l0 kq x3_1 x4_1 a0_0 a0_1 a0_2 a0_3 l0_4 = some r) ∧ Aside0 (kq ≤ k) ∧ Aside0 (Kd.R (Kd.int .i64) 2 w' w.heap.size (fun _ => True) v351 x3_1) ∧ Aside0 (w'.heap[gb348]? = some (.cells #[.int .i64 a0_0, .int .i64 a0_1, .int .i64 a0_2, .int .i64 a0_3, (.slice A0_4 l0_4.length c0_4)] 26 (0, 0))) ∧ Aside0 (Below w.heap.size w w'))
      case atStart => exact ⟨(y350), (0), (by rfl), H', ⟨Nat.le_refl _⟩, ⟨by exact HO352.1⟩, ⟨by exact BK348.1⟩, ⟨by repeat (with_reducible exact HB.1)⟩⟩
      clear H'
      try clear c3b0
      try clear c3b1
      try clear c4b0
      try clear c4b1
      try clear hcz6_0
      try clear hcz6_1
      try clear hcz6_2
      try clear hcz6_3
      try clear hcz6_4
      try clear hfz6_0
      try clear hfz6_1
      try clear hfz6_2
      try clear hfz6_3
      try clear hfz6_4
      obtain ⟨x3_1, x4_1, rfl, HA, HK1, HO_3, BK348, HB⟩ := hrel
      cases gk with
      | zero => exact absurd HA.1 (by simp [rf_Table.l0])
      | succ k1 =>
        have H := HA.1
        clear HA
        simp only [rf_Table.l0] at H
        by_cases c10 : x4_1 < (x3_1.length : Int)
        · rw [if_pos c10] at H
          have c10b0 : decide (x4_1 < (x3_1.length : Int)) = true := decide_eq_true c10
          clear c10
          replace H := Option.bind_eq_some_iff.mp H
          obtain ⟨⟨t353, t354, t355⟩, A110, H⟩ := H
          (try dsimp only at H)
          have A11 := ak A110
          clear A110
          replace H := Option.bind_eq_some_iff.mp H
          obtain ⟨t356, A120, H⟩ := H
          (try dsimp only at H)
          have A12 := ak A120
          clear A120
          by_cases c13 : 0 ≤ x4_1
          · rw [if_pos c13] at H
            have c13b0 : decide (0 ≤ x4_1) = true := decide_eq_true c13
            clear c13
            obtain ⟨y357, hy357⟩ : ∃ y_ : List Int, y_ = (x3_1.set (x4_1 : Int).toNat t356) := ⟨_, rfl⟩
            replace H : (rf_Table.l0 k1 y357 (wrap64 (x4_1 + 1)) a0_0 a0_1 a0_2 a0_3 l0_4) = some r := by (rw [hy357]; with_reducible exact H)
            have Ny357 := ak hy357
            clear hy357
            have H' := ak H
            clear H
            obtain ⟨Ao15, co15, eo15⟩ := Kd.R_slice HO_3.1
            subst eo15
            try go_wp2
            have n0_ := ak (Kd.R_drew HO_3.1)
            have n1_ := bq_ BK348
            have n2_ := ak (below_drew1 HB.1)
            clear HO_3
            clear BK348
            clear HB
            have HO_3 := n0_
            have BK348 := n1_
            have HB := n2_
            clear n0_ n1_ n2_
            refine start_ (n := 10) (S := fun w' => w'.cell? ⟨gb348, 0, none⟩ = some (.int .i64 a0_0) ∧ w'.cell? ⟨gb348, 1, none⟩ = some (.int .i64 a0_1) ∧ w'.cell? ⟨gb348, 2, none⟩ = some (.int .i64 a0_2) ∧ w'.cell? ⟨gb348, 3, none⟩ = some (.int .i64 a0_3) ∧ w'.cell? ⟨gb348, 4, none⟩ = some (.slice A0_4 l0_4.length c0_4)) (ds := [9]) #[false, false, false, false, false, false, false, false, false, false] (by kernel_rfl) rfl rfl ⟨bc_ BK348 0, bc_ BK348 1, bc_ BK348 2, bc_ BK348 3, bc_ BK348 4⟩ (fun hHeld => ?_); refine with_tabW rf_Table.tab5 rf_Table.bits5 (fun HT_ HW_ => ?_)
            generalize wr.drew = w16 at HO_3 BK348 HB hHeld ⊢
            refine pr_ 0 HT_ ?_
            refine pr_ 1 HT_ ?_
            refine pr_ 3 HT_ ?_
            refine pr_ 5 HT_ ?_
            refine take_ (i := 2) (N := some 16) (v := ?_) (a' := ?_) #[true, true, true, true, false, true, false, false, false, false] rfl rfl (take_ofW HT_.1 HW_.1 (by kernel_rfl)) (fun _ _ _ h => h) (Or.inl ⟨by rfl, ?_⟩) hHeld ?_ ?_
            rotate_left
            · rintro w' ⟨s0, s1, s2, s3, s4⟩
              go_simp
              with_reducible rfl
            rotate_left
            · simp only [Act.put, List.setIfInBounds_toArray, List.set_cons_zero, List.set_cons_succ, i64_w, i32_w]
              rfl
            refine take_ (i := 4) (N := some 18) (v := ?_) (a' := ?_) #[true, true, true, true, true, true, false, false, false, false] rfl rfl (take_ofW HT_.1 HW_.1 (by kernel_rfl)) (fun _ _ _ h => h) (Or.inl ⟨by rfl, ?_⟩) hHeld ?_ ?_
            rotate_left
            · rintro w' ⟨s0, s1, s2, s3, s4⟩
              go_simp
              with_reducible rfl
            rotate_left
            · simp only [Act.put, List.setIfInBounds_toArray, List.set_cons_zero, List.set_cons_succ, i64_w, i32_w]
              rfl
            refine one_ (i := 6) (N := some 20) #[true, true, true, true, true, true, true, false, false, false] rfl rfl (one_of HT_.1 (by kernel_rfl)) (by decide) (fun K hK => ?_)
            refine goes_ Try.func52 (by kernel_rfl) rfl #[.agg #[.int .i64 a0_0, .int .i64 a0_1, .int .i64 a0_2, .int .i64 a0_3, .slice A0_4 l0_4.length c0_4], .int .i64 x4_1] (by rfl) rfl rfl am_ ?_
            with_reducible refine (rf_size.calls a0_0 a0_1 a0_2 a0_3 _ _ l0_4 x4_1 t353 t354 t355 _ ?side1 ?side2 A11.1).mono ?_
            (case side1 => exact (Kd.C_below HR0_4.1 HB.1))
            (case side2 => exact HC0_4.1)
            rintro e w17 ⟨rfl, hb⟩
            refine ⟨_, rfl, ?_⟩
            have n0_ := ak (Kd.R_below (by exact HO_3.1) hb)
            have n1_ := ak (blk_below (g := gb348) (o := .cells #[.int .i64 a0_0, .int .i64 a0_1, .int .i64 a0_2, .int .i64 a0_3, .slice A0_4 l0_4.length c0_4] 26 (0, 0)) (by exact BK348.1) hb)
            have n2_ := ak (below_step HB.1 hb)
            clear HO_3
            clear BK348
            clear HB
            have HO_3 := n0_
            have BK348 := n1_
            have HB := n2_
            clear n0_ n1_ n2_
            (try clear hb)
            refine hK.out _ _ ⟨bc_ BK348 0, bc_ BK348 1, bc_ BK348 2, bc_ BK348 3, bc_ BK348 4⟩ (fun hHeld => ?_)
            clear hK K
            refine norm_ (a' := ?_) ?_ ?_
            rotate_left
            · show Act.put _ (some 20) _ = _
              simp only [Act.put, List.setIfInBounds_toArray, List.set_cons_zero, List.set_cons_succ, i64_w, i32_w]
              rfl
            refine one_ (i := 7) (N := some 21) #[true, true, true, true, true, true, true, true, false, false] rfl rfl (one_of HT_.1 (by kernel_rfl)) (by decide) (fun K hK => ?_)
            refine goes_ Try.func51 (by kernel_rfl) rfl #[.agg #[.int .i64 a0_0, .int .i64 a0_1, .int .i64 a0_2, .int .i64 a0_3, .slice A0_4 l0_4.length c0_4], .slice Ao15 x3_1.length co15, .agg #[.int .i64 t353, .int .i64 t354, .int .i64 t355]] (by rfl) rfl rfl am_ ?_
            with_reducible refine (rf_need.calls k1 a0_0 a0_1 a0_2 a0_3 _ _ l0_4 _ _ x3_1 t353 t354 t355 t356 _ ?side1 ?side2 ?side3 ?side4 A12.1).mono ?_
            (case side1 => exact (Kd.C_below HR0_4.1 HB.1))
            (case side2 => exact HC0_4.1)
            (case side3 => exact (Kd.R_reads' HO_3.1).2.2)
            (case side4 => exact (Kd.R_reads' HO_3.1).2.1)
            rintro e w18 ⟨rfl, hb⟩
            refine ⟨_, rfl, ?_⟩
            have n0_ := ak (Kd.R_below (by exact HO_3.1) hb)
            have n1_ := ak (blk_below (g := gb348) (o := .cells #[.int .i64 a0_0, .int .i64 a0_1, .int .i64 a0_2, .int .i64 a0_3, .slice A0_4 l0_4.length c0_4] 26 (0, 0)) (by exact BK348.1) hb)
            have n2_ := ak (below_step HB.1 hb)
            clear HO_3
            clear BK348
            clear HB
            have HO_3 := n0_
            have BK348 := n1_
            have HB := n2_
            clear n0_ n1_ n2_
            (try clear hb)
            have p14 : 0 ≤ (x4_1 : Int) := od_
            have q14 : (x4_1 : Int) < ((x3_1.length : Int) : Int) := od_
            obtain ⟨go14, co14, eo14, gb14, gl14, cl14, HG14⟩ := Kd.R_form HO_3.1 (by omega)
            (cases eo14)
            have GB14 := ak gb14
            have GG14 := ak HG14
            clear gb14 gl14 HG14
            obtain ⟨hx14_0, hf14_0⟩ := Kd.R_celln 0 HO_3.1 (x4_1 : Int) p14 q14
            replace p14 := eq_true p14
            replace q14 := eq_true q14
            have HP19 := Kd.R_putn HO_3.1 (x4_1 : Int) t356
            rw [← Ny357.1] at HP19
            have HQ19 := ak HP19
            clear HP19
            refine hK.out _ _ ⟨bc_ BK348 0, bc_ BK348 1, bc_ BK348 2, bc_ BK348 3, bc_ BK348 4⟩ (fun hHeld => ?_)
            clear hK K
            refine norm_ (a' := ?_) ?_ ?_
            rotate_left
            · show Act.put _ (some 21) _ = _
              simp only [Act.put, List.setIfInBounds_toArray, List.set_cons_zero, List.set_cons_succ, i64_w, i32_w]
              rfl
            refine pr_ 8 HT_ ?_
            refine last_ (i := 9) (N := none) #[true, true, true, true, true, true, true, true, true, true] rfl rfl (one_of HT_.1 (by kernel_rfl)) (by decide) (fun K hK => ?_)
            refine skip_ (w1 := ?_) (by rfl) rfl ?_ ?_
            rotate_left
            · go_simp
              rfl
            refine hK.out _ _ ?_
            clear hK K
            refine done_ (done_of HT_.1 (by kernel_rfl)) ?_
            try go_wp2
            go_roundg k1
            case measure => have := HK1.1; omega
            case rel => exact ⟨(y357), (wrap64 (x4_1 + 1)), (by rfl), H', ⟨by have := HK1.1; omega⟩, ⟨by exact HQ19.1⟩, ⟨by refine blk_far ?_ (by have h_ := Kd.R_ne HO_3.1 BK348.1 (by decide); intro e_; exact h_ (by rw [e_]; rfl)) _; exact BK348.1⟩, ⟨by repeat (with_reducible first | exact HB.1 | refine below_set ?_ GB14.1)⟩⟩
          rw [if_neg c13] at H
          exact absurd H (by simp)
        rw [if_neg c10] at H
        have c10b0 : decide (x4_1 < (x3_1.length : Int)) = false := decide_eq_false c10
        clear c10
        obtain rfl := Option.some.inj H
        obtain ⟨Ao20, co20, eo20⟩ := Kd.R_slice HO_3.1
        subst eo20
        go_wp2
        go_ret
        exact ⟨_, by rfl, by exact HO_3.1, by repeat (with_reducible exact HB.1)⟩
    rw [if_neg c4] at H
    exact absurd H (by simp)
  rw [if_neg c3] at H
  exact absurd H (by simp)

end Go.Proofs.Ytgacodhpniehiaa.XA
