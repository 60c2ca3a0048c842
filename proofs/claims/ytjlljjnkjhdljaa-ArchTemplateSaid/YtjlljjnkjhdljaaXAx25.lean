-- written by xprint.py, this project's own program (wip/), over the words of print.sh
import Derived.Test.YtjlljjnkjhdljaaXAx0
import Derived.Test.YtjlljjnkjhdljaaXAx24
namespace Go.Proofs.Ytjlljjnkjhdljaa.XA
open Go.RowKit Go.Proofs.Ytjlljjnkjhdljaa.Opens Go.Proofs.YtjlljjnkjhdljaaW.PrintWords Go.Proofs.YtjlljjnkjhdljaaW.PrintLast Go.Proofs.YtjlljjnkjhdljaaW.PrintMore
attribute [local go_sem] max2_int min2_int max_two min_two max_three min_three max_four min_four cell_some cell_same   -- for this text's walks alone
set_option linter.unusedVariables false
set_option linter.unusedSimpArgs false

/-! ### gangsawref40_Mirror: function 18 -/
def gangsawref40_Mirror.l0 : Nat → List (List (S46)) → Int → List (List (S46)) → Int → Option ((List (List (S46))))
  | 0, _, _, _, _ => none
  | k + 1, x0, x3, x4, x5 => if x5 ≥ 0 then (if 0 ≤ x5 then (if x5 < (x0.length : Int) then ((gangsawref40_flip.f k (rd_L2 x0 x5) x3).bind fun t354 => (if x4.length < 5864062014805 then (gangsawref40_Mirror.l0 k x0 x3 (x4 ++ [t354]) (wrap64 (x5 - 1))) else (none))) else (none)) else (none)) else (some x4)
def gangsawref40_Mirror.f (k : Nat) (l0 : List (List (S46))) : Option ((List (List (S46)))) := if 0 < (l0.length : Int) then (if 0 < ((rd_L2 l0 0).length : Int) then (if 0 ≤ (wrap64 ((l0.length : Int) - 1)) then (if (wrap64 ((l0.length : Int) - 1)) < (l0.length : Int) then (if 1 < ((rd_L2 l0 (wrap64 ((l0.length : Int) - 1))).length : Int) then (gangsawref40_Mirror.l0 k l0 (wrap64 (((rd_T46 (rd_L2 l0 0) 0).f0) + ((rd_T46 (rd_L2 l0 (wrap64 ((l0.length : Int) - 1))) 1).f0))) (([] : List (List (S46)))) (wrap64 ((l0.length : Int) - 1))) else (none)) else (none)) else (none)) else (none)) else (none)
theorem gangsawref40_Mirror.mono_l : ∀ k, (∀ y0 y1 y2 y3, LeO (gangsawref40_Mirror.l0 k y0 y1 y2 y3) (gangsawref40_Mirror.l0 (k + 1) y0 y1 y2 y3))
  | 0 => fun _ _ _ _ r h => by simp [gangsawref40_Mirror.l0] at h
  | k + 1 => by
    have ih0 := gangsawref40_Mirror.mono_l k
    · intro y0 y1 y2 y3
      unfold gangsawref40_Mirror.l0
      repeat' first
      | (with_reducible exact ih0 _ _ _ _)
      | (with_reducible exact gangsawref40_flip.mono _ _ _)
      | (with_reducible exact LeO.refl _)
      | (with_reducible exact LeO.none _)
      | (with_reducible refine LeO.ite ?_ ?_)
      | (with_reducible refine LeO.bind ?_ (fun _ => ?_))
      | exact ih0 _ _ _ _
      | exact gangsawref40_flip.mono _ _ _
      | exact LeO.none _
      | refine LeO.ite ?_ ?_
      | refine LeO.bind ?_ (fun _ => ?_)
theorem gangsawref40_Mirror.mono : ∀ a0 k, LeO (gangsawref40_Mirror.f k a0) (gangsawref40_Mirror.f (k + 1) a0) := by
  intro a0 k
  have ih0 := gangsawref40_Mirror.mono_l k
  unfold gangsawref40_Mirror.f
  repeat' first
      | (with_reducible exact ih0 _ _ _ _)
      | (with_reducible exact gangsawref40_flip.mono _ _ _)
      | (with_reducible exact LeO.refl _)
      | (with_reducible exact LeO.none _)
      | (with_reducible refine LeO.ite ?_ ?_)
      | (with_reducible refine LeO.bind ?_ (fun _ => ?_))
      | exact ih0 _ _ _ _
      | exact gangsawref40_flip.mono _ _ _
      | exact LeO.none _
      | refine LeO.ite ?_ ?_
      | refine LeO.bind ?_ (fun _ => ?_)
set_option maxHeartbeats 8000000 in
set_option maxRecDepth 100000 in
theorem gangsawref40_Mirror.calls (k : Nat) (A0 : Option Addr) (c0 : Nat) (l0 : List (List (S46))) (r : List (List (S46))) (w : World) (hr0 : Kd.C (Kd.slice 46 k46) w A0 l0.length l0) (hc0 : l0.length ≤ c0) (h : gangsawref40_Mirror.f k l0 = some r) :
    Calls Try.prog 18 #[.slice A0 l0.length c0] w fun e w' => ∃ v0_ : Value, e = .returned (v0_) ∧ Kd.S (Kd.slice 46 k46) 38 w' w.heap.size (fun _ => True) v0_ r ∧ Below w.heap.size w w' := by
  have HR0 := Aside0.mk hr0
  have HC0 := Aside0.mk hc0
  clear hr0 hc0
  have HB := Aside0.mk (Below.refl w.heap.size w)
  have H : (if 0 < (l0.length : Int) then (if 0 < ((rd_L2 l0 0).length : Int) then (if 0 ≤ (wrap64 ((l0.length : Int) - 1)) then (if (wrap64 ((l0.length : Int) - 1)) < (l0.length : Int) then (if 1 < ((rd_L2 l0 (wrap64 ((l0.length : Int) - 1))).length : Int) then (gangsawref40_Mirror.l0 k l0 (wrap64 (((rd_T46 (rd_L2 l0 0) 0).f0) + ((rd_T46 (rd_L2 l0 (wrap64 ((l0.length : Int) - 1))) 1).f0))) (([] : List (List (S46)))) (wrap64 ((l0.length : Int) - 1))) else (none)) else (none)) else (none)) else (none)) else (none)) = some r := h
  clear h
  by_cases c2 : 0 < (l0.length : Int)
  · rw [if_pos c2] at H
    have c2b0 : decide (0 < (l0.length : Int)) = true := decide_eq_true c2
    have c2b1 : decide (0 < l0.length) = true := decide_eq_true (by omega)
    clear c2
    by_cases c3 : 0 < ((rd_L2 l0 0).length : Int)
    · rw [if_pos c3] at H
      have c3b0 : decide (0 < ((rd_L2 l0 0).length : Int)) = true := decide_eq_true c3
      have c3b1 : decide (0 < (rd_L2 l0 0).length) = true := decide_eq_true (by omega)
      clear c3
      obtain ⟨ji4, hji4⟩ : ∃ j_ : Int, (wrap64 ((l0.length : Int) - 1)) = j_ := ⟨_, rfl⟩
      replace H : (if 0 ≤ (ji4) then (if (ji4) < (l0.length : Int) then (if 1 < ((rd_L2 l0 (ji4)).length : Int) then (gangsawref40_Mirror.l0 k l0 (wrap64 (((rd_T46 (rd_L2 l0 0) 0).f0) + ((rd_T46 (rd_L2 l0 (ji4)) 1).f0))) (([] : List (List (S46)))) ji4) else (none)) else (none)) else (none)) = some r := by first | (rw [hji4] at H; exact H) | (simp only [hji4] at H ⊢; exact H)
      have hji4w : (IntKind.i64.wrap ((l0.length : Int) - 1)) = ji4 := (i64_w _).trans hji4
      by_cases c5 : 0 ≤ (ji4)
      · rw [if_pos c5] at H
        have c5b0 : decide (0 ≤ (ji4)) = true := decide_eq_true c5
        clear c5
        by_cases c6 : (ji4) < (l0.length : Int)
        · rw [if_pos c6] at H
          have c6b0 : decide ((ji4) < (l0.length : Int)) = true := decide_eq_true c6
          clear c6
          by_cases c7 : 1 < ((rd_L2 l0 (ji4)).length : Int)
          · rw [if_pos c7] at H
            have c7b0 : decide (1 < ((rd_L2 l0 (ji4)).length : Int)) = true := decide_eq_true c7
            have c7b1 : decide (1 < (rd_L2 l0 (ji4)).length) = true := decide_eq_true (by omega)
            clear c7
            obtain ⟨y350, hy350⟩ : ∃ y_ : List (List (S46)), y_ = (([] : List (List (S46)))) := ⟨_, rfl⟩
            replace H : (gangsawref40_Mirror.l0 k l0 (wrap64 (((rd_T46 (rd_L2 l0 0) 0).f0) + ((rd_T46 (rd_L2 l0 (ji4)) 1).f0))) y350 ji4) = some r := by first | (rw [hy350]; with_reducible exact H) | (have H2_ := (Option.bind_some _ _).symm.trans H; rw [hy350]; with_reducible exact H2_) | (have H2_ := (Option.bind_some _ _).symm.trans H; with_reducible exact H2_) | with_reducible exact H | (rw [hy350]; exact H) | exact H
            have Ny350 := Aside0.mk hy350
            clear hy350
            have H' := Aside0.mk H
            clear H
            have p346 : 0 ≤ (0 : Int) := (by omega)
            have q346 : 0 < (l0.length : Int) := of_decide_eq_true (by first | (with_reducible assumption) | assumption)
            obtain ⟨ad346, A346_0, c346_0, e346, hx346_0, hl346_0, hi346_0⟩ := at_L2 HR0.out 0 p346 q346
            cases e346
            have qi346 : (0 < l0.length) = True := eq_true (by omega)
            (try rw [show ((0 : Int)).toNat = 0 from rfl] at hx346_0)
            (try rw [Addr.add_zero'] at hx346_0)
            have HR346_0 := Aside0.mk hi346_0
            have HC346_0 := Aside0.mk hl346_0
            clear hi346_0 hl346_0
            replace p346 := eq_true p346
            replace q346 := eq_true q346
            have p347 : 0 ≤ (0 : Int) := (by omega)
            have q347 : 0 < ((rd_L2 l0 0).length : Int) := of_decide_eq_true (by first | (with_reducible assumption) | assumption)
            obtain ⟨ad347, e347, hx347_0, hx347_1⟩ := at_T46 HR346_0.out 0 p347 q347
            cases e347
            have qi347 : (0 < (rd_L2 l0 0).length) = True := eq_true (by omega)
            (try rw [show ((0 : Int)).toNat = 0 from rfl] at hx347_0)
            (try rw [show 0 * 2 = 0 from rfl] at hx347_0)
            (try rw [Addr.add_zero'] at hx347_0)
            (try rw [show ((0 : Int)).toNat = 0 from rfl] at hx347_1)
            (try rw [show 0 * 2 = 0 from rfl] at hx347_1)
            (try rw [Addr.add_zero'] at hx347_1)
            replace p347 := eq_true p347
            replace q347 := eq_true q347
            have p348 : 0 ≤ ((ji4) : Int) := of_decide_eq_true (by first | (with_reducible assumption) | assumption)
            have q348 : (ji4) < (l0.length : Int) := of_decide_eq_true (by first | (with_reducible assumption) | assumption)
            obtain ⟨ad348, A348_0, c348_0, e348, hx348_0, hl348_0, hi348_0⟩ := at_L2 HR0.out (ji4) p348 q348
            obtain rfl : ad346 = ad348 := (by injection e348)
            have HR348_0 := Aside0.mk hi348_0
            have HC348_0 := Aside0.mk hl348_0
            clear hi348_0 hl348_0
            replace p348 := eq_true p348
            replace q348 := eq_true q348
            have p349 : 0 ≤ (1 : Int) := (by omega)
            have q349 : 1 < ((rd_L2 l0 (ji4)).length : Int) := of_decide_eq_true (by first | (with_reducible assumption) | assumption)
            obtain ⟨ad349, e349, hx349_0, hx349_1⟩ := at_T46 HR348_0.out 1 p349 q349
            cases e349
            (try simp only [show (1 : Int).toNat = 1 from rfl, Nat.reduceMul, Nat.reduceEqDiff, Go.Addr.add, ↓reduceIte] at hx349_0)
            (try simp only [show (1 : Int).toNat = 1 from rfl, Nat.reduceMul, Nat.reduceEqDiff, Go.Addr.add, ↓reduceIte] at hx349_1)
            have qi349 : (1 < (rd_L2 l0 (ji4)).length) = True := eq_true (by omega)
            (try rw [show ((1 : Int)).toNat = 1 from rfl] at hx349_0)
            (try rw [show 1 * 2 = 2 from rfl] at hx349_0)
            (try rw [show ((1 : Int)).toNat = 1 from rfl] at hx349_1)
            (try rw [show 1 * 2 = 2 from rfl] at hx349_1)
            replace p349 := eq_true p349
            replace q349 := eq_true q349
            go_enter Try.func18, Try.ntmps18
            iterate 2 ((try go_quiet (fail)); go_wp2_with (first | ((with_reducible refine gate_dst (N := 22) rfl ?_); refine Kd.S_lit (Kd.slice 46 k46) _ 38 ?hg (N := 22) ?hd (xs := ([] : List (List (S46)))) (inner := []) (ok := fun _ => True) (okp := fun _ => True) ?hr ?hp (fun _ hk => hk) trivial (Below.refl _ _) (Nat.le_refl _) (by simp) ?_; (case hd => rfl); (case hg => first | rfl | (go_simp; done)); (case hr => first | (go_simp; done) | (go_simp; rfl)); (case hp => exact (Reps.none _ _)); intro v351 w8 ho9 hb hg_ hnew_; clear hg_ hnew_; (first | rw [← Ny350.out] at ho9 | (simp only [Int.reduceToNat] at ho9; rw [← Ny350.out] at ho9)); have n0_ := Aside0.mk (Kd.S_lower ho9 (below_size (by repeat (first | (with_reducible first | exact HB.out | apply below_alloc | apply pw_below_drewN | apply below_drew1) | exact HB.out)))); have n1_ := Aside0.mk (below_step (by repeat (first | (with_reducible first | exact HB.out | apply below_alloc | apply pw_below_drewN | apply below_drew1) | exact HB.out)) hb); clear HB; have HO352 := n0_; have HB := n1_; clear n0_ n1_; clear hb ho9)))
            go_loopg [4, 5] k (fun kq v4 v5 w' => ∃ (x4_1 : List (List (S46))) (x5_1 : Int), v5 = .int .i64 x5_1 ∧ Aside0 (gangsawref40_Mirror.l0 kq l0 (wrap64 (((rd_T46 (rd_L2 l0 0) 0).f0) + ((rd_T46 (rd_L2 l0 (ji4)) 1).f0))) x4_1 x5_1 = some r) ∧ Aside0 (kq ≤ k) ∧ Aside0 (Kd.S (Kd.slice 46 k46) 38 w' w.heap.size (fun _ => True) v4 x4_1) ∧ Aside0 (Below w.heap.size w w'))
            case atStart => exact ⟨(y350), (ji4), (by first | rfl | (simp; done) | (simp only [← hji4] <;> (first | rfl | simp)) | (simp [*]; done)), H', ⟨Nat.le_refl _⟩, ⟨by (with_reducible repeat (first | apply Kd.S_alloc | apply Kd.S_drewN | apply Kd.S_drew)); exact HO352.out⟩, ⟨by repeat (first | (with_reducible first | exact HB.out | apply below_alloc | apply pw_below_drewN | apply below_drew1) | exact HB.out)⟩⟩
            case round =>
              clear H'
              try clear c1
              try clear c2
              try clear c2b0
              try clear c2b1
              try clear p2
              try clear c3
              try clear c3b0
              try clear c3b1
              try clear p3
              try clear q3
              try clear hx3
              try clear qi3
              try clear c5
              try clear c5b0
              try clear c6
              try clear c6b0
              try clear p6
              try clear c7
              try clear c7b0
              try clear c7b1
              try clear hx346_0
              try clear hx347_0
              try clear hx347_1
              try clear hx348_0
              try clear hx349_0
              try clear hx349_1
              try clear p346
              try clear p347
              try clear p348
              try clear p349
              try clear q346
              try clear q347
              try clear q348
              try clear q349
              obtain ⟨x4_1, x5_1, rfl, HA, HK1, HO_4, HB⟩ := hrel
              cases gk with
              | zero => exact absurd HA.out (by simp [gangsawref40_Mirror.l0])
              | succ k1 =>
                have H := HA.out
                clear HA
                simp only [gangsawref40_Mirror.l0] at H
                by_cases c10 : x5_1 ≥ 0
                · rw [if_pos c10] at H
                  have c10b0 : decide (0 ≤ x5_1) = true := decide_eq_true c10
                  clear c10
                  by_cases c11 : 0 ≤ x5_1
                  · rw [if_pos c11] at H
                    have c11b0 : decide (0 ≤ x5_1) = true := decide_eq_true c11
                    clear c11
                    by_cases c12 : x5_1 < (l0.length : Int)
                    · rw [if_pos c12] at H
                      have c12b0 : decide (x5_1 < (l0.length : Int)) = true := decide_eq_true c12
                      clear c12
                      replace H := Option.bind_eq_some_iff.mp H
                      obtain ⟨t354, A130, H⟩ := H
                      replace H : (if x4_1.length < 5864062014805 then (gangsawref40_Mirror.l0 k1 l0 (wrap64 (((rd_T46 (rd_L2 l0 0) 0).f0) + ((rd_T46 (rd_L2 l0 (ji4)) 1).f0))) (x4_1 ++ [t354]) (wrap64 (x5_1 - 1))) else (none)) = some r := H
                      have A13 := Aside0.mk A130
                      clear A130
                      by_cases c14 : x4_1.length < 5864062014805
                      · rw [if_pos c14] at H
                        have LMc14 := Aside0.mk c14
                        clear c14
                        obtain ⟨y357, hy357⟩ : ∃ y_ : List (List (S46)), y_ = (x4_1 ++ [t354]) := ⟨_, rfl⟩
                        replace H : (gangsawref40_Mirror.l0 k1 l0 (wrap64 (((rd_T46 (rd_L2 l0 0) 0).f0) + ((rd_T46 (rd_L2 l0 (ji4)) 1).f0))) y357 (wrap64 (x5_1 - 1))) = some r := by first | (rw [hy357]; with_reducible exact H) | (have H2_ := (Option.bind_some _ _).symm.trans H; rw [hy357]; with_reducible exact H2_) | (have H2_ := (Option.bind_some _ _).symm.trans H; with_reducible exact H2_) | with_reducible exact H | (rw [hy357]; exact H) | exact H
                        have Ny357 := Aside0.mk hy357
                        clear hy357
                        have H' := Aside0.mk H
                        clear H
                        have p353 : 0 ≤ (x5_1 : Int) := of_decide_eq_true (by first | (with_reducible assumption) | assumption)
                        have q353 : x5_1 < (l0.length : Int) := of_decide_eq_true (by first | (with_reducible assumption) | assumption)
                        obtain ⟨ad353, A353_0, c353_0, e353, hx353_0, hl353_0, hi353_0⟩ := at_L2 HR0.out x5_1 p353 q353
                        obtain rfl : ad346 = ad353 := (by injection e353)
                        replace hx353_0 := (HB.out.cell (World.block_lt_of_cell? w _ hx353_0)).trans hx353_0
                        have HR353_0 := Aside0.mk hi353_0
                        have HC353_0 := Aside0.mk hl353_0
                        clear hi353_0 hl353_0
                        replace p353 := eq_true p353
                        replace q353 := eq_true q353
                        iterate 2 ((try go_quiet (first | (go_at_call 47; (with_reducible refine (gangsawref40_flip.calls k1 _ _ (rd_L2 l0 x5_1) (wrap64 (((rd_T46 (rd_L2 l0 0) 0).f0) + ((rd_T46 (rd_L2 l0 (ji4)) 1).f0))) t354 _ ?side1 ?side2 A13.out).mono ?_); (case side1 => repeat (first | exact (Kd.C_below HR353_0.out HB.out) | (with_reducible refine Kd.C_alloc ?_ _) | (with_reducible refine Kd.C_drewN ?_ _) | (with_reducible refine Kd.C_drew ?_))); (case side2 => exact HC353_0.out); rintro e w15 ⟨v355, rfl, ho0, hb⟩; have n0_ := Aside0.mk (Kd.S_elder' (by (with_reducible repeat (first | apply Kd.S_alloc | apply Kd.S_drewN | apply Kd.S_drew)); exact HO_4.out) (Kd.R_base ho0) hb); have n1_ := Aside0.mk (Kd.R_lower ho0 (below_size (by repeat (first | (with_reducible first | exact HB.out | apply below_alloc | apply pw_below_drewN | apply below_drew1) | exact HB.out)))); have n2_ := Aside0.mk (below_step (by repeat (first | (with_reducible first | exact HB.out | apply below_alloc | apply pw_below_drewN | apply below_drew1) | exact HB.out)) hb); clear HO_4; clear HB; have HO_4 := n0_; have HO356 := n1_; have HB := n2_; clear n0_ n1_ n2_; (try clear hb); (try clear hb2); (try clear hk); (try clear hi); (try clear ho0); obtain ⟨Ao17, co17, eo17⟩ := Kd.R_slice HO356.out; subst eo17))); go_wp2_with (first | (go_at_call 47; (with_reducible refine (gangsawref40_flip.calls k1 _ _ (rd_L2 l0 x5_1) (wrap64 (((rd_T46 (rd_L2 l0 0) 0).f0) + ((rd_T46 (rd_L2 l0 (ji4)) 1).f0))) t354 _ ?side1 ?side2 A13.out).mono ?_); (case side1 => repeat (first | exact (Kd.C_below HR353_0.out HB.out) | (with_reducible refine Kd.C_alloc ?_ _) | (with_reducible refine Kd.C_drewN ?_ _) | (with_reducible refine Kd.C_drew ?_))); (case side2 => exact HC353_0.out); rintro e w15 ⟨v355, rfl, ho0, hb⟩; have n0_ := Aside0.mk (Kd.S_elder' (by (with_reducible repeat (first | apply Kd.S_alloc | apply Kd.S_drewN | apply Kd.S_drew)); exact HO_4.out) (Kd.R_base ho0) hb); have n1_ := Aside0.mk (Kd.R_lower ho0 (below_size (by repeat (first | (with_reducible first | exact HB.out | apply below_alloc | apply pw_below_drewN | apply below_drew1) | exact HB.out)))); have n2_ := Aside0.mk (below_step (by repeat (first | (with_reducible first | exact HB.out | apply below_alloc | apply pw_below_drewN | apply below_drew1) | exact HB.out)) hb); clear HO_4; clear HB; have HO_4 := n0_; have HO356 := n1_; have HB := n2_; clear n0_ n1_ n2_; (try clear hb); (try clear hb2); (try clear hk); (try clear hi); (try clear ho0); obtain ⟨Ao17, co17, eo17⟩ := Kd.R_slice HO356.out; subst eo17) | ((with_reducible refine gate_builtin (b := .append) (xs := #[.tmp 30, .tmp 37]) rfl ?_); at_builtin; refine Kd.S_append (Kd.slice 46 k46) (w0 := w) w.heap.size rfl (.tmp 30) (.tmp 37) 22 38 (.slice none 0 0) 24 rfl Try.underlying22 info38 rfl (by decide) (by omega) u4 x4_1 t354 [.slice Ao17 t354.length co17] (fun _ => True) (fun k_ => some k_ = (.slice Ao17 t354.length co17 : Value).ownBlock) rfl rfl ?aP (fun k_ hk_ => ((Kd.R_mono (ok' := fun k_ => ((fun _ => True)) k_ ∧ some k_ ≠ (u4 : Value).ownBlock) (Kd.R_apart' (HO356.out) (Kd.S_typed HO_4.out) (by decide)) (fun k_ hk => ⟨trivial, hk.2⟩))).1 k_ hk_.symm) ?aF ?aO ?aB ?aS ?aL ?_; (case aP => exact Kd.M_row (Kd.R_mono (Kd.R_tight rfl (Kd.R_mono (ok' := fun k_ => ((fun _ => True)) k_ ∧ some k_ ≠ (u4 : Value).ownBlock) (Kd.R_apart' (HO356.out) (Kd.S_typed HO_4.out) (by decide)) (fun k_ hk => ⟨trivial, hk.2⟩))) (fun _ h_ => h_))); (case aB => exact (by repeat (first | (with_reducible first | exact HB.out | apply below_alloc | apply pw_below_drewN | apply below_drew1) | exact HB.out))); (case aF => exact (fun _ _ => trivial)); (case aO => exact (by (with_reducible repeat (first | apply Kd.S_alloc | apply Kd.S_drewN | apply Kd.S_drew)); exact Kd.S_mono HO_4.out (fun k_ hk => ⟨trivial, fun e_ => hk.2 e_⟩))); (case aS => exact (below_size (by repeat (first | (with_reducible first | exact HB.out | apply below_alloc | apply pw_below_drewN | apply below_drew1) | exact HB.out)))); (case aL => have := LMc14.out; omega); intro v358 w16 ho hb hg hat; rw [← Ny357.out] at ho; have n0_ := Aside0.mk (hb); have n1_ := Aside0.mk (ho); clear HB; clear HO_4; clear HO356; have HB := n0_; have HO359 := n1_; clear n0_ n1_; clear ho hb hg hat)))
                        go_roundg k1
                        case measure => have := HK1.out; omega
                        case rel => exact ⟨(y357), (wrap64 (x5_1 - 1)), (by first | rfl | (simp; done) | (simp [*]; done)), H', ⟨by have := HK1.out; omega⟩, ⟨by (with_reducible repeat (first | apply Kd.S_alloc | apply Kd.S_drewN | apply Kd.S_drew)); exact HO359.out⟩, ⟨by repeat (first | (with_reducible first | exact HB.out | apply below_alloc | apply pw_below_drewN | apply below_drew1) | exact HB.out)⟩⟩
                      · rw [if_neg c14] at H
                        exact absurd H (by simp)
                    · rw [if_neg c12] at H
                      exact absurd H (by simp)
                  · rw [if_neg c11] at H
                    exact absurd H (by simp)
                · rw [if_neg c10] at H
                  have c10b0 : decide (0 ≤ x5_1) = false := decide_eq_false c10
                  clear c10
                  obtain rfl := Option.some.inj H
                  go_wp2
                  repeat (go_quiet (fail); try go_wp2)
                  go_ret
                  exact ⟨_, by first | rfl | (simp [errW_none, errW_some] <;> rfl) | (simp only [← hji4]; first | rfl | (simp [errW_none, errW_some] <;> rfl)) | (simp [*, errW_none, errW_some] <;> rfl), by (with_reducible repeat (first | apply Kd.S_alloc | apply Kd.S_drewN | apply Kd.S_drew)); exact HO_4.out, by repeat (first | (with_reducible first | exact HB.out | apply below_alloc | apply pw_below_drewN | apply below_drew1) | exact HB.out)⟩
          · rw [if_neg c7] at H
            exact absurd H (by simp)
        · rw [if_neg c6] at H
          exact absurd H (by simp)
      · rw [if_neg c5] at H
        exact absurd H (by simp)
    · rw [if_neg c3] at H
      exact absurd H (by simp)
  · rw [if_neg c2] at H
    exact absurd H (by simp)

/-! ### gangsawref40_Area2: function 24 -/
def gangsawref40_Area2.l0 : Nat → List (S46) → Int → Int → Option (Int)
  | 0, _, _, _ => none
  | k + 1, x0, x3, x4 => if x4 < (x0.length : Int) then (if (x0.length : Int) = 0 then (none) else (if 0 ≤ x4 then (if 0 ≤ (Int.tmod (wrap64 (x4 + 1)) (x0.length : Int)) then (if (Int.tmod (wrap64 (x4 + 1)) (x0.length : Int)) < (x0.length : Int) then (gangsawref40_Area2.l0 k x0 (wrap64 (x3 + (wrap64 ((wrap64 (((rd_T46 x0 x4).f0) * ((rd_T46 x0 (Int.tmod (wrap64 (x4 + 1)) (x0.length : Int))).f1))) - (wrap64 (((rd_T46 x0 (Int.tmod (wrap64 (x4 + 1)) (x0.length : Int))).f0) * ((rd_T46 x0 x4).f1))))))) (wrap64 (x4 + 1))) else (none)) else (none)) else (none))) else (some x3)
def gangsawref40_Area2.f (k : Nat) (l0 : List (S46)) : Option (Int) := gangsawref40_Area2.l0 k l0 0 0
theorem gangsawref40_Area2.mono_l : ∀ k, (∀ y0 y1 y2, LeO (gangsawref40_Area2.l0 k y0 y1 y2) (gangsawref40_Area2.l0 (k + 1) y0 y1 y2))
  | 0 => fun _ _ _ r h => by simp [gangsawref40_Area2.l0] at h
  | k + 1 => by
    have ih0 := gangsawref40_Area2.mono_l k
    · intro y0 y1 y2
      unfold gangsawref40_Area2.l0
      repeat' first
      | (with_reducible exact ih0 _ _ _)
      | (with_reducible exact LeO.refl _)
      | (with_reducible exact LeO.none _)
      | (with_reducible refine LeO.ite ?_ ?_)
      | (with_reducible refine LeO.bind ?_ (fun _ => ?_))
      | exact ih0 _ _ _
      | exact LeO.none _
      | refine LeO.ite ?_ ?_
      | refine LeO.bind ?_ (fun _ => ?_)
theorem gangsawref40_Area2.mono : ∀ a0 k, LeO (gangsawref40_Area2.f k a0) (gangsawref40_Area2.f (k + 1) a0) := by
  intro a0 k
  have ih0 := gangsawref40_Area2.mono_l k
  unfold gangsawref40_Area2.f
  repeat' first
      | (with_reducible exact ih0 _ _ _)
      | (with_reducible exact LeO.refl _)
      | (with_reducible exact LeO.none _)
      | (with_reducible refine LeO.ite ?_ ?_)
      | (with_reducible refine LeO.bind ?_ (fun _ => ?_))
      | exact ih0 _ _ _
      | exact LeO.none _
      | refine LeO.ite ?_ ?_
      | refine LeO.bind ?_ (fun _ => ?_)
set_option maxHeartbeats 8000000 in
set_option maxRecDepth 100000 in
theorem gangsawref40_Area2.calls (k : Nat) (A0 : Option Addr) (c0 : Nat) (l0 : List (S46)) (r : Int) (w : World) (hr0 : Kd.C k46 w A0 l0.length l0) (hc0 : l0.length ≤ c0) (h : gangsawref40_Area2.f k l0 = some r) :
    Calls Try.prog 24 #[.slice A0 l0.length c0] w fun e w' => e = .returned (.int .i64 r) ∧ Drawn0 w w' := by
  have HR0 := Aside0.mk hr0
  have HC0 := Aside0.mk hc0
  clear hr0 hc0
  have H : (gangsawref40_Area2.l0 k l0 0 0) = some r := h
  clear h
  have H' := Aside0.mk H
  clear H
  go_enter Try.func24, Try.ntmps24
  go_wp2
  repeat (go_quiet (fail); try go_wp2)
  go_loopg [3, 4] k (fun kq v3 v4 w' => ∃ (x3_1 : Int) (x4_1 : Int), v3 = .int .i64 x3_1 ∧ v4 = .int .i64 x4_1 ∧ Aside0 (gangsawref40_Area2.l0 kq l0 x3_1 x4_1 = some r) ∧ Aside0 (kq ≤ k) ∧ Drawn0 w w')
  case atStart => exact ⟨(0), (0), (by first | rfl | (simp; done) | (simp [*]; done)), (by first | rfl | (simp; done) | (simp [*]; done)), H', ⟨Nat.le_refl _⟩, by repeat (first | exact Drawn0.refl _ | apply Drawn0.step)⟩
  case round =>
    clear H'
    obtain ⟨x3_1, x4_1, rfl, rfl, HA, HK1, ⟨m1, rfl⟩⟩ := hrel
    cases gk with
    | zero => exact absurd HA.out (by simp [gangsawref40_Area2.l0])
    | succ k1 =>
      have H := HA.out
      clear HA
      simp only [gangsawref40_Area2.l0] at H
      by_cases c2 : x4_1 < (l0.length : Int)
      · rw [if_pos c2] at H
        have c2b0 : decide (x4_1 < (l0.length : Int)) = true := decide_eq_true c2
        clear c2
        by_cases c3 : (l0.length : Int) = 0
        · rw [if_pos c3] at H
          exact absurd H (by simp)
        · rw [if_neg c3] at H
          have c3b0 : ((l0.length : Int) == 0) = false := beq_eq_false_iff_ne.mpr c3
          have c3b1 : ((l0.length : Int) != 0) = true := bne_iff_ne.mpr c3
          have c3b2 : ¬ (l0 = []) := fun h_ => c3 (by rw [h_]; rfl)
          by_cases c4 : 0 ≤ x4_1
          · rw [if_pos c4] at H
            have c4b0 : decide (0 ≤ x4_1) = true := decide_eq_true c4
            clear c4
            obtain ⟨ji5, hji5⟩ : ∃ j_ : Int, (Int.tmod (wrap64 (x4_1 + 1)) (l0.length : Int)) = j_ := ⟨_, rfl⟩
            replace H : (if 0 ≤ (ji5) then (if (ji5) < (l0.length : Int) then (gangsawref40_Area2.l0 k1 l0 (wrap64 (x3_1 + (wrap64 ((wrap64 (((rd_T46 l0 x4_1).f0) * ((rd_T46 l0 (ji5)).f1))) - (wrap64 (((rd_T46 l0 (ji5)).f0) * ((rd_T46 l0 x4_1).f1))))))) (wrap64 (x4_1 + 1))) else (none)) else (none)) = some r := by first | (rw [hji5] at H; exact H) | (simp only [hji5] at H ⊢; exact H)
            by_cases c6 : 0 ≤ (ji5)
            · rw [if_pos c6] at H
              have c6b0 : decide (0 ≤ (ji5)) = true := decide_eq_true c6
              clear c6
              by_cases c7 : (ji5) < (l0.length : Int)
              · rw [if_pos c7] at H
                have c7b0 : decide ((ji5) < (l0.length : Int)) = true := decide_eq_true c7
                clear c7
                have H' := Aside0.mk H
                clear H
                have p360 : 0 ≤ (x4_1 : Int) := of_decide_eq_true (by first | (with_reducible assumption) | assumption)
                have q360 : x4_1 < (l0.length : Int) := of_decide_eq_true (by first | (with_reducible assumption) | assumption)
                obtain ⟨ad360, e360, hx360_0, hx360_1⟩ := at_T46 HR0.out x4_1 p360 q360
                cases e360
                replace p360 := eq_true p360
                replace q360 := eq_true q360
                have p361 : 0 ≤ ((ji5) : Int) := of_decide_eq_true (by first | (with_reducible assumption) | assumption)
                have q361 : (ji5) < (l0.length : Int) := of_decide_eq_true (by first | (with_reducible assumption) | assumption)
                obtain ⟨ad361, e361, hx361_0, hx361_1⟩ := at_T46 HR0.out (ji5) p361 q361
                obtain rfl : ad360 = ad361 := (by injection e361)
                replace p361 := eq_true p361
                replace q361 := eq_true q361
                have p362 : 0 ≤ ((ji5) : Int) := of_decide_eq_true (by first | (with_reducible assumption) | assumption)
                have q362 : (ji5) < (l0.length : Int) := of_decide_eq_true (by first | (with_reducible assumption) | assumption)
                obtain ⟨ad362, e362, hx362_0, hx362_1⟩ := at_T46 HR0.out (ji5) p362 q362
                obtain rfl : ad360 = ad362 := (by injection e362)
                replace p362 := eq_true p362
                replace q362 := eq_true q362
                have p363 : 0 ≤ (x4_1 : Int) := of_decide_eq_true (by first | (with_reducible assumption) | assumption)
                have q363 : x4_1 < (l0.length : Int) := of_decide_eq_true (by first | (with_reducible assumption) | assumption)
                obtain ⟨ad363, e363, hx363_0, hx363_1⟩ := at_T46 HR0.out x4_1 p363 q363
                obtain rfl : ad360 = ad363 := (by injection e363)
                replace p363 := eq_true p363
                replace q363 := eq_true q363
                go_wp2
                repeat (go_quiet (fail); try go_wp2)
                go_roundg k1
                case measure => have := HK1.out; omega
                case rel => exact ⟨(wrap64 (x3_1 + (wrap64 ((wrap64 (((rd_T46 l0 x4_1).f0) * ((rd_T46 l0 (ji5)).f1))) - (wrap64 (((rd_T46 l0 (ji5)).f0) * ((rd_T46 l0 x4_1).f1))))))), (wrap64 (x4_1 + 1)), (by first | rfl | (simp; done) | (simp only [← hji5] <;> (first | rfl | simp)) | (simp [*]; done)), (by first | rfl | (simp; done) | (simp [*]; done)), H', ⟨by have := HK1.out; omega⟩, by repeat (first | exact Drawn0.refl _ | apply Drawn0.step)⟩
              · rw [if_neg c7] at H
                exact absurd H (by simp)
            · rw [if_neg c6] at H
              exact absurd H (by simp)
          · rw [if_neg c4] at H
            exact absurd H (by simp)
      · rw [if_neg c2] at H
        have c2b0 : decide (x4_1 < (l0.length : Int)) = false := decide_eq_false c2
        clear c2
        obtain rfl := Option.some.inj H
        go_wp2
        repeat (go_quiet (fail); try go_wp2)
        go_ret
        exact ⟨by first | rfl | (simp; done) | (simp [*]; done), by repeat (first | exact Drawn0.refl _ | apply Drawn0.step)⟩

end Go.Proofs.Ytjlljjnkjhdljaa.XA
