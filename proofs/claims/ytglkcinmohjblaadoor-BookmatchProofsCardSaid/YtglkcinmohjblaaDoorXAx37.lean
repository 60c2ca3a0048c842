import Derived.Test.YtglkcinmohjblaaDoorXAx36
namespace Go.Proofs.YtglkcinmohjblaaDoor.XA
open Go.RowKit Opens YtglkcinmohjblaaDoorW.PrintWords YtglkcinmohjblaaDoorW.PrintLast YtglkcinmohjblaaDoorW.PrintMore
attribute [local go_sem] max2_int min2_int max_two min_two max_three min_three max_four min_four cell_some cell_same
set_option linter.unusedVariables false
set_option linter.unusedSimpArgs false

def rf_Cost.l0 : Nat → List (S62) → List (S68) → Int → Int → Option (Int)
  | 0, _, _, _, _ => none
  | k + 1, x0, x1, x5, x6 => if x6 < (x1.length : Int) then (if 0 ≤ (wrap64 (x6 - 1)) then (if (wrap64 (x6 - 1)) < (x1.length : Int) then (if 0 ≤ x6 then ((rf_Joint.f k x0 ((rd_T68 x1 (wrap64 (x6 - 1))).f0) ((rd_T68 x1 (wrap64 (x6 - 1))).f1) ((rd_T68 x1 x6).f0) ((rd_T68 x1 x6).f1)).bind fun t392 => (rf_Cost.l0 k x0 x1 (wrap64 (x5 + t392)) (wrap64 (x6 + 1)))) else (none)) else (none)) else (none)) else (some x5)
def rf_Cost.f (k : Nat) (l0 : List (S62)) (l1 : List (S68)) : Option (Int) := rf_Cost.l0 k l0 l1 0 1
theorem rf_Cost.mono_l : ∀ k, (∀ y0 y1 y2 y3, LeO (rf_Cost.l0 k y0 y1 y2 y3) (rf_Cost.l0 (k + 1) y0 y1 y2 y3))
  | 0 => fun _ _ _ _ r h => by simp [rf_Cost.l0] at h
  | k + 1 => by
    have ih0 := rf_Cost.mono_l k
    intro y0 y1 y2 y3
    unfold rf_Cost.l0
    repeat' first
    | (with_reducible exact ih0 _ _ _ _)
    | (with_reducible exact rf_Joint.mono _ _ _ _ _ _)
    | (with_reducible exact LeO.refl _)
    | (with_reducible refine LeO.ite ?_ ?_)
    | (with_reducible refine LeO.bind ?_ (fun _ => ?_))
      
theorem rf_Cost.mono : ∀ a0 a1 k, LeO (rf_Cost.f k a0 a1) (rf_Cost.f (k + 1) a0 a1) := by
  intro a0 a1 k
  have ih0 := rf_Cost.mono_l k
  unfold rf_Cost.f
  repeat' (with_reducible exact ih0 _ _ _ _)
def rf_Cost.T5 : Bool × List (List Nat × List Nat) := (true, [([], []), ([], []), ([], []), ([], []), ([3], [3]), ([2, 4], [2, 4]), ([5], [5]), ([], []), ([], []), ([7, 8], [7, 8]), ([9], [9]), ([1, 6, 10], [1, 6, 10]), ([0, 11], [0, 11]), ([12, 11, 0, 1, 2, 3, 4, 5, 6, 7, 8, 9, 10, 11, 12], [0, 12])])
def rf_Cost.B5 : List Nat := [0, 0, 0, 0, 8, 28, 60, 0, 0, 384, 896, 2046, 4095, 8191]
theorem rf_Cost.tab5 : rtab .any (opsOf Tryd.f18 5) = rf_Cost.T5 := by kernel_rfl
theorem rf_Cost.bits5 : waitsOk rf_Cost.T5.2 rf_Cost.B5 = true := by kernel_rfl
set_option maxHeartbeats 8000000 in
set_option maxRecDepth 100000 in
theorem rf_Cost.calls (k : Nat) (A0 : Option Addr) (c0 : Nat) (l0 : List (S62)) (A1 : Option Addr) (c1 : Nat) (l1 : List (S68)) (r : Int) (w : World) (hr0 : Kd.C k62 w A0 l0.length l0) (hc0 : l0.length ≤ c0) (hr1 : Kd.C k68 w A1 l1.length l1) (hc1 : l1.length ≤ c1) (h : rf_Cost.f k l0 l1 = some r) :
    Calls Tryd.prog 18 #[.slice A0 l0.length c0, .slice A1 l1.length c1] w fun e w' => e = .returned (.int .i64 r) ∧ Below w.heap.size w w' := by
  have hu68 := Tryd.underlying68
  have HR0 := ak hr0
  have HC0 := ak hc0
  clear hr0 hc0
  have HR1 := ak hr1
  have HC1 := ak hc1
  clear hr1 hc1
  have HB := ak (Below.refl w.heap.size w)
  have H : (rf_Cost.l0 k l0 l1 0 1) = some r := h
  clear h
  have H' := ak H
  clear H
  go_enter Tryd.func18, Tryd.ntmps18
  go_wp2
  go_loopg [5, 6] k (fun kq v5 v6 w' => ∃ (x5_1 : Int) (x6_1 : Int), v5 = .int .i64 x5_1 ∧ v6 = .int .i64 x6_1 ∧ Aside0 (rf_Cost.l0 kq l0 l1 x5_1 x6_1 = some r) ∧ Aside0 (kq ≤ k) ∧ Aside0 (Below w.heap.size w w'))
  case atStart => exact ⟨(0), (1), (by rfl), (by rfl), H', ⟨Nat.le_refl _⟩, ⟨by repeat (with_reducible exact HB.1)⟩⟩
  clear H'
  obtain ⟨x5_1, x6_1, rfl, rfl, HA, HK1, HB⟩ := hrel
  cases gk with
  | zero => exact absurd HA.1 (by simp [rf_Cost.l0])
  | succ k1 =>
    have H := HA.1
    clear HA
    simp only [rf_Cost.l0] at H
    by_cases c3 : x6_1 < (l1.length : Int)
    · rw [if_pos c3] at H
      have c3b0 : decide (x6_1 < (l1.length : Int)) = true := decide_eq_true c3
      clear c3
      obtain ⟨ji4, hji4⟩ : ∃ j_ : Int, (wrap64 (x6_1 - 1)) = j_ := ⟨_, rfl⟩
      replace H : (if 0 ≤ (ji4) then (if (ji4) < (l1.length : Int) then (if 0 ≤ x6_1 then ((rf_Joint.f k1 l0 ((rd_T68 l1 (ji4)).f0) ((rd_T68 l1 (ji4)).f1) ((rd_T68 l1 x6_1).f0) ((rd_T68 l1 x6_1).f1)).bind fun t392 => (rf_Cost.l0 k1 l0 l1 (wrap64 (x5_1 + t392)) (wrap64 (x6_1 + 1)))) else (none)) else (none)) else (none)) = some r := by (rw [hji4] at H; exact H)
      have hji4w : (IntKind.i64.wrap (x6_1 - 1)) = ji4 := (i64_w _).trans hji4
      by_cases c5 : 0 ≤ (ji4)
      · rw [if_pos c5] at H
        have c5b0 : decide (0 ≤ (ji4)) = true := decide_eq_true c5
        clear c5
        by_cases c6 : (ji4) < (l1.length : Int)
        · rw [if_pos c6] at H
          have c6b0 : decide ((ji4) < (l1.length : Int)) = true := decide_eq_true c6
          clear c6
          by_cases c7 : 0 ≤ x6_1
          · rw [if_pos c7] at H
            have c7b0 : decide (0 ≤ x6_1) = true := decide_eq_true c7
            clear c7
            replace H := Option.bind_eq_some_iff.mp H
            obtain ⟨t392, A80, H⟩ := H
            replace H : (rf_Cost.l0 k1 l0 l1 (wrap64 (x5_1 + t392)) (wrap64 (x6_1 + 1))) = some r := H
            have A8 := ak A80
            clear A80
            have H' := ak H
            clear H
            try go_wp2
            have n0_ := ak (below_drew1 HB.1)
            clear HB
            have HB := n0_
            clear n0_
            have p390 : 0 ≤ ((ji4) : Int) := od_
            have q390 : (ji4) < (l1.length : Int) := od_
            obtain ⟨ad390, e390, hx390_0, hx390_1⟩ := at_T68 HR1.1 (ji4) p390 q390
            have hw390_1 := hx390_1
            have hw390_0 := hx390_0
            cases e390
            replace hx390_0 := (hc_ HB hx390_0).trans hx390_0
            replace hx390_1 := (hc_ HB hx390_1).trans hx390_1
            replace p390 := eq_true p390
            replace q390 := eq_true q390
            have p391 : 0 ≤ (x6_1 : Int) := od_
            have q391 : x6_1 < (l1.length : Int) := od_
            obtain ⟨ad391, e391, hx391_0, hx391_1⟩ := at_T68 HR1.1 x6_1 p391 q391
            have hw391_1 := hx391_1
            have hw391_0 := hx391_0
            obtain rfl : ad390 = ad391 := (by injection e391)
            replace hx391_0 := (hc_ HB hx391_0).trans hx391_0
            replace hx391_1 := (hc_ HB hx391_1).trans hx391_1
            replace p391 := eq_true p391
            replace q391 := eq_true q391
            refine start_ (n := 14) (S := fun w' => w'.cell? (ad390.add (((ji4)).toNat * 2)) = some (.int .i64 ((rd_T68 l1 (ji4)).f0)) ∧ w'.cell? ⟨(ad390.add (((ji4)).toNat * 2)).block, (ad390.add (((ji4)).toNat * 2)).off + 1, none⟩ = some (.bool ((rd_T68 l1 (ji4)).f1)) ∧ w'.cell? (ad390.add ((x6_1).toNat * 2)) = some (.int .i64 ((rd_T68 l1 x6_1).f0)) ∧ w'.cell? ⟨(ad390.add ((x6_1).toNat * 2)).block, (ad390.add ((x6_1).toNat * 2)).off + 1, none⟩ = some (.bool ((rd_T68 l1 x6_1).f1))) (ds := []) #[false, false, false, false, false, false, false, false, false, false, false, false, false, false] (by kernel_rfl) rfl rfl ⟨((hc_ HB hw390_0).trans hw390_0), ((hc_ HB hw390_1).trans hw390_1), ((hc_ HB hw391_0).trans hw391_0), ((hc_ HB hw391_1).trans hw391_1)⟩ (fun hHeld => ?_); refine with_tabW rf_Cost.tab5 rf_Cost.bits5 (fun HT_ HW_ => ?_)
            generalize wr.drew = w9 at HB hx390_0 hx390_1 hx391_0 hx391_1 hHeld ⊢
            refine pure_ (i := 0) (N := some 13) (v := ?_) (a' := ?_) #[true, false, false, false, false, false, false, false, false, false, false, false, false, false] rfl rfl (any_of HT_.1 (by kernel_rfl)) (fun _ _ _ h => h) (Or.inl ⟨by rfl, ?_⟩) ?_ ?_
            rotate_left
            · intro w'
              go_simp
              with_reducible rfl
            rotate_left
            · simp only [Act.put, List.setIfInBounds_toArray, List.set_cons_zero, List.set_cons_succ, i64_w, i32_w]
              rfl
            refine pure_ (i := 1) (N := some 14) (v := ?_) (a' := ?_) #[true, true, false, false, false, false, false, false, false, false, false, false, false, false] rfl rfl (any_of HT_.1 (by kernel_rfl)) (fun _ _ _ h => h) (Or.inl ⟨by rfl, ?_⟩) ?_ ?_
            rotate_left
            · intro w'
              go_simp
              with_reducible rfl
            rotate_left
            · simp only [Act.put, List.setIfInBounds_toArray, List.set_cons_zero, List.set_cons_succ, i64_w, i32_w]
              rfl
            refine pure_ (i := 2) (N := some 15) (v := ?_) (a' := ?_) #[true, true, true, false, false, false, false, false, false, false, false, false, false, false] rfl rfl (any_of HT_.1 (by kernel_rfl)) (fun _ _ _ h => h) (Or.inl ⟨by rfl, ?_⟩) ?_ ?_
            rotate_left
            · intro w'
              go_simp
              with_reducible rfl
            rotate_left
            · simp only [Act.put, List.setIfInBounds_toArray, List.set_cons_zero, List.set_cons_succ, i64_w, i32_w]
              rfl
            refine pure_ (i := 3) (N := some 16) (v := ?_) (a' := ?_) #[true, true, true, true, false, false, false, false, false, false, false, false, false, false] rfl rfl (any_of HT_.1 (by kernel_rfl)) (fun _ _ _ h => h) (Or.inl ⟨by rfl, ?_⟩) ?_ ?_
            rotate_left
            · intro w'
              go_simp
              with_reducible rfl
            rotate_left
            · simp only [Act.put, List.setIfInBounds_toArray, List.set_cons_zero, List.set_cons_succ, i64_w, i32_w]
              rfl
            refine pure_ (i := 4) (N := some 17) (v := ?_) (a' := ?_) #[true, true, true, true, true, false, false, false, false, false, false, false, false, false] rfl rfl (any_of HT_.1 (by kernel_rfl)) (fun _ _ _ h => h) (Or.inl ⟨by rfl, ?_⟩) ?_ ?_
            rotate_left
            · intro w'
              go_simp
              with_reducible rfl
            rotate_left
            · simp only [Act.put, List.setIfInBounds_toArray, List.set_cons_zero, List.set_cons_succ, i64_w, i32_w]
              rfl
            refine pure_ (i := 5) (N := some 18) (v := ?_) (a' := ?_) #[true, true, true, true, true, true, false, false, false, false, false, false, false, false] rfl rfl (any_of HT_.1 (by kernel_rfl)) (fun _ _ _ h => h) (Or.inl ⟨by rfl, ?_⟩) ?_ ?_
            rotate_left
            · intro w'
              go_simp
              with_reducible rfl
            rotate_left
            · simp only [Act.put, List.setIfInBounds_toArray, List.set_cons_zero, List.set_cons_succ, i64_w, i32_w]
              rfl
            refine pure_ (i := 7) (N := some 20) (v := ?_) (a' := ?_) #[true, true, true, true, true, true, false, true, false, false, false, false, false, false] rfl rfl (any_of HT_.1 (by kernel_rfl)) (fun _ _ _ h => h) (Or.inl ⟨by rfl, ?_⟩) ?_ ?_
            rotate_left
            · intro w'
              go_simp
              with_reducible rfl
            rotate_left
            · simp only [Act.put, List.setIfInBounds_toArray, List.set_cons_zero, List.set_cons_succ, i64_w, i32_w]
              rfl
            refine pure_ (i := 8) (N := some 21) (v := ?_) (a' := ?_) #[true, true, true, true, true, true, false, true, true, false, false, false, false, false] rfl rfl (any_of HT_.1 (by kernel_rfl)) (fun _ _ _ h => h) (Or.inl ⟨by rfl, ?_⟩) ?_ ?_
            rotate_left
            · intro w'
              go_simp
              with_reducible rfl
            rotate_left
            · simp only [Act.put, List.setIfInBounds_toArray, List.set_cons_zero, List.set_cons_succ, i64_w, i32_w]
              rfl
            refine pure_ (i := 9) (N := some 22) (v := ?_) (a' := ?_) #[true, true, true, true, true, true, false, true, true, true, false, false, false, false] rfl rfl (any_of HT_.1 (by kernel_rfl)) (fun _ _ _ h => h) (Or.inl ⟨by rfl, ?_⟩) ?_ ?_
            rotate_left
            · intro w'
              go_simp
              with_reducible rfl
            rotate_left
            · simp only [Act.put, List.setIfInBounds_toArray, List.set_cons_zero, List.set_cons_succ, i64_w, i32_w]
              rfl
            refine take_ (i := 6) (N := some 19) (v := ?_) (a' := ?_) #[true, true, true, true, true, true, true, true, true, true, false, false, false, false] rfl rfl (take_ofW HT_.1 HW_.1 (by kernel_rfl)) (fun _ _ _ h => h) (Or.inl ⟨by rfl, ?_⟩) hHeld ?_ ?_
            rotate_left
            · rintro w' ⟨s0, s1, s2, s3⟩
              go_simp
              with_reducible rfl
            rotate_left
            · simp only [Act.put, List.setIfInBounds_toArray, List.set_cons_zero, List.set_cons_succ, i64_w, i32_w]
              rfl
            refine take_ (i := 10) (N := some 23) (v := ?_) (a' := ?_) #[true, true, true, true, true, true, true, true, true, true, true, false, false, false] rfl rfl (take_ofW HT_.1 HW_.1 (by kernel_rfl)) (fun _ _ _ h => h) (Or.inl ⟨by rfl, ?_⟩) hHeld ?_ ?_
            rotate_left
            · rintro w' ⟨s0, s1, s2, s3⟩
              go_simp
              with_reducible rfl
            rotate_left
            · simp only [Act.put, List.setIfInBounds_toArray, List.set_cons_zero, List.set_cons_succ, i64_w, i32_w]
              rfl
            refine one_ (i := 11) (N := some 24) #[true, true, true, true, true, true, true, true, true, true, true, true, false, false] rfl rfl (one_of HT_.1 (by kernel_rfl)) (by decide) (fun K hK => ?_)
            refine goes_ Tryd.func37 (by kernel_rfl) rfl #[.slice A0 l0.length c0, .agg #[.int .i64 ((rd_T68 l1 (ji4)).f0), .bool ((rd_T68 l1 (ji4)).f1)], .agg #[.int .i64 ((rd_T68 l1 x6_1).f0), .bool ((rd_T68 l1 x6_1).f1)]] (by rfl) rfl rfl am_ ?_
            with_reducible refine (rf_Joint.calls k1 _ _ l0 ((rd_T68 l1 (ji4)).f0) ((rd_T68 l1 (ji4)).f1) ((rd_T68 l1 x6_1).f0) ((rd_T68 l1 x6_1).f1) t392 _ ?side1 ?side2 A8.1).mono ?_
            (case side1 => exact (Kd.C_below HR0.1 HB.1))
            (case side2 => exact HC0.1)
            rintro e w10 ⟨rfl, hb⟩
            refine ⟨_, rfl, ?_⟩
            have n0_ := ak (below_step HB.1 hb)
            clear HB
            have HB := n0_
            clear n0_
            (try clear hb)
            refine hK.out _ _ ⟨((hc_ HB hw390_0).trans hw390_0), ((hc_ HB hw390_1).trans hw390_1), ((hc_ HB hw391_0).trans hw391_0), ((hc_ HB hw391_1).trans hw391_1)⟩ (fun hHeld => ?_)
            clear hK K
            refine norm_ (a' := ?_) ?_ ?_
            rotate_left
            · show Act.put _ (some 24) _ = _
              simp only [Act.put, List.setIfInBounds_toArray, List.set_cons_zero, List.set_cons_succ, i64_w, i32_w]
              rfl
            refine pure_ (i := 12) (N := some 25) (v := ?_) (a' := ?_) #[true, true, true, true, true, true, true, true, true, true, true, true, true, false] rfl rfl (any_of HT_.1 (by kernel_rfl)) (fun _ _ _ h => h) (Or.inl ⟨by rfl, ?_⟩) ?_ ?_
            rotate_left
            · intro w'
              go_simp
              with_reducible rfl
            rotate_left
            · simp only [Act.put, List.setIfInBounds_toArray, List.set_cons_zero, List.set_cons_succ, i64_w, i32_w]
              rfl
            refine pure_ (i := 13) (N := some 5) (v := ?_) (a' := ?_) #[true, true, true, true, true, true, true, true, true, true, true, true, true, true] rfl rfl (any_of HT_.1 (by kernel_rfl)) (fun _ _ _ h => h) (Or.inl ⟨by rfl, ?_⟩) ?_ ?_
            rotate_left
            · intro w'
              go_simp
              with_reducible rfl
            rotate_left
            · simp only [Act.put, List.setIfInBounds_toArray, List.set_cons_zero, List.set_cons_succ, i64_w, i32_w]
              rfl
            refine done_ (done_of HT_.1 (by kernel_rfl)) ?_
            try go_wp2
            go_roundg k1
            case measure => have := HK1.1; omega
            case rel => exact ⟨(wrap64 (x5_1 + t392)), (wrap64 (x6_1 + 1)), (by rfl), (by rfl), H', ⟨by have := HK1.1; omega⟩, ⟨by repeat (with_reducible exact HB.1)⟩⟩
          rw [if_neg c7] at H
          exact absurd H (by simp)
        rw [if_neg c6] at H
        exact absurd H (by simp)
      rw [if_neg c5] at H
      exact absurd H (by simp)
    rw [if_neg c3] at H
    have c3b0 : decide (x6_1 < (l1.length : Int)) = false := decide_eq_false c3
    clear c3
    obtain rfl := Option.some.inj H
    go_wp2
    go_ret
    exact ⟨by rfl, by repeat (with_reducible exact HB.1)⟩

end Go.Proofs.YtglkcinmohjblaaDoor.XA
