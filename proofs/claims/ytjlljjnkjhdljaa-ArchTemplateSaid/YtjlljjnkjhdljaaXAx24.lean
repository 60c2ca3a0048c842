-- written by xprint.py, this project's own program (wip/), over the words of print.sh
import Derived.Test.YtjlljjnkjhdljaaXAx0
import Derived.Test.YtjlljjnkjhdljaaXAx19
namespace Go.Proofs.Ytjlljjnkjhdljaa.XA
open Go.RowKit Go.Proofs.Ytjlljjnkjhdljaa.Opens Go.Proofs.YtjlljjnkjhdljaaW.PrintWords Go.Proofs.YtjlljjnkjhdljaaW.PrintLast Go.Proofs.YtjlljjnkjhdljaaW.PrintMore
attribute [local go_sem] max2_int min2_int max_two min_two max_three min_three max_four min_four cell_some cell_same   -- for this text's walks alone
set_option linter.unusedVariables false
set_option linter.unusedSimpArgs false

/-! ### gangsawref40_Same: function 17 -/
def gangsawref40_Same.l0 : Nat → List (List (S46)) → List (List (S46)) → Int → Option (Bool)
  | 0, _, _, _ => none
  | k + 1, x0, x1, x5 => if x5 < (x0.length : Int) then (if 0 ≤ x5 then (if x5 < (x1.length : Int) then ((gangsawref40_SameLine.f k (rd_L2 x0 x5) (rd_L2 x1 x5)).bind fun t333 => (if t333 = true then (gangsawref40_Same.l0 k x0 x1 (wrap64 (x5 + 1))) else (some false))) else (none)) else (none)) else (some true)
def gangsawref40_Same.f (k : Nat) (l0 : List (List (S46))) (l1 : List (List (S46))) : Option (Bool) := if (l0.length : Int) = (l1.length : Int) then (gangsawref40_Same.l0 k l0 l1 0) else (some false)
theorem gangsawref40_Same.mono_l : ∀ k, (∀ y0 y1 y2, LeO (gangsawref40_Same.l0 k y0 y1 y2) (gangsawref40_Same.l0 (k + 1) y0 y1 y2))
  | 0 => fun _ _ _ r h => by simp [gangsawref40_Same.l0] at h
  | k + 1 => by
    have ih0 := gangsawref40_Same.mono_l k
    · intro y0 y1 y2
      unfold gangsawref40_Same.l0
      repeat' first
      | (with_reducible exact ih0 _ _ _)
      | (with_reducible exact gangsawref40_SameLine.mono _ _ _)
      | (with_reducible exact LeO.refl _)
      | (with_reducible exact LeO.none _)
      | (with_reducible refine LeO.ite ?_ ?_)
      | (with_reducible refine LeO.bind ?_ (fun _ => ?_))
      | exact ih0 _ _ _
      | exact gangsawref40_SameLine.mono _ _ _
      | exact LeO.none _
      | refine LeO.ite ?_ ?_
      | refine LeO.bind ?_ (fun _ => ?_)
theorem gangsawref40_Same.mono : ∀ a0 a1 k, LeO (gangsawref40_Same.f k a0 a1) (gangsawref40_Same.f (k + 1) a0 a1) := by
  intro a0 a1 k
  have ih0 := gangsawref40_Same.mono_l k
  unfold gangsawref40_Same.f
  repeat' first
      | (with_reducible exact ih0 _ _ _)
      | (with_reducible exact gangsawref40_SameLine.mono _ _ _)
      | (with_reducible exact LeO.refl _)
      | (with_reducible exact LeO.none _)
      | (with_reducible refine LeO.ite ?_ ?_)
      | (with_reducible refine LeO.bind ?_ (fun _ => ?_))
      | exact ih0 _ _ _
      | exact gangsawref40_SameLine.mono _ _ _
      | exact LeO.none _
      | refine LeO.ite ?_ ?_
      | refine LeO.bind ?_ (fun _ => ?_)
set_option maxHeartbeats 8000000 in
set_option maxRecDepth 100000 in
theorem gangsawref40_Same.calls (k : Nat) (A0 : Option Addr) (c0 : Nat) (l0 : List (List (S46))) (A1 : Option Addr) (c1 : Nat) (l1 : List (List (S46))) (r : Bool) (w : World) (hr0 : Kd.C (Kd.slice 46 k46) w A0 l0.length l0) (hc0 : l0.length ≤ c0) (hr1 : Kd.C (Kd.slice 46 k46) w A1 l1.length l1) (hc1 : l1.length ≤ c1) (h : gangsawref40_Same.f k l0 l1 = some r) :
    Calls Try.prog 17 #[.slice A0 l0.length c0, .slice A1 l1.length c1] w fun e w' => e = .returned (.bool r) ∧ Drawn0 w w' := by
  have HR0 := Aside0.mk hr0
  have HC0 := Aside0.mk hc0
  clear hr0 hc0
  have HR1 := Aside0.mk hr1
  have HC1 := Aside0.mk hc1
  clear hr1 hc1
  have H : (if (l0.length : Int) = (l1.length : Int) then (gangsawref40_Same.l0 k l0 l1 0) else (some false)) = some r := h
  clear h
  by_cases c3 : (l0.length : Int) = (l1.length : Int)
  · rw [if_pos c3] at H
    have c3b0 : ((l0.length : Int) == (l1.length : Int)) = true := beq_iff_eq.mpr c3
    have c3b1 : ((l0.length : Int) != (l1.length : Int)) = false := bne_eq_false_iff_eq.mpr c3
    have c3b2 : (l0.length == l1.length) = true := by first | simpa using c3 | (simp at c3 ⊢; omega)
    clear c3
    have H' := Aside0.mk H
    clear H
    go_enter Try.func17, Try.ntmps17
    go_wp2
    repeat (go_quiet (fail); try go_wp2)
    go_loopg [5] k (fun kq v5 w' => ∃ (x5_1 : Int), v5 = .int .i64 x5_1 ∧ Aside0 (gangsawref40_Same.l0 kq l0 l1 x5_1 = some r) ∧ Aside0 (kq ≤ k) ∧ Drawn0 w w')
    case atStart => exact ⟨(0), (by first | rfl | (simp; done) | (simp [*]; done)), H', ⟨Nat.le_refl _⟩, by repeat (first | exact Drawn0.refl _ | apply Drawn0.step)⟩
    case round =>
      clear H'
      try clear c1
      try clear p2
      try clear c3
      try clear c3b0
      try clear c3b1
      try clear c3b2
      obtain ⟨x5_1, rfl, HA, HK1, ⟨m1, rfl⟩⟩ := hrel
      cases gk with
      | zero => exact absurd HA.out (by simp [gangsawref40_Same.l0])
      | succ k1 =>
        have H := HA.out
        clear HA
        simp only [gangsawref40_Same.l0] at H
        by_cases c4 : x5_1 < (l0.length : Int)
        · rw [if_pos c4] at H
          have c4b0 : decide (x5_1 < (l0.length : Int)) = true := decide_eq_true c4
          clear c4
          by_cases c5 : 0 ≤ x5_1
          · rw [if_pos c5] at H
            have c5b0 : decide (0 ≤ x5_1) = true := decide_eq_true c5
            clear c5
            by_cases c6 : x5_1 < (l1.length : Int)
            · rw [if_pos c6] at H
              have c6b0 : decide (x5_1 < (l1.length : Int)) = true := decide_eq_true c6
              clear c6
              replace H := Option.bind_eq_some_iff.mp H
              obtain ⟨t333, A70, H⟩ := H
              replace H : (if t333 = true then (gangsawref40_Same.l0 k1 l0 l1 (wrap64 (x5_1 + 1))) else (some false)) = some r := H
              have A7 := Aside0.mk A70
              clear A70
              by_cases c8 : t333 = true
              · subst c8
                have H1 : (gangsawref40_Same.l0 k1 l0 l1 (wrap64 (x5_1 + 1))) = some r := by rw [if_pos rfl] at H; exact H
                clear H
                have H := H1
                clear H1
                have H' := Aside0.mk H
                clear H
                have p331 : 0 ≤ (x5_1 : Int) := of_decide_eq_true (by first | (with_reducible assumption) | assumption)
                have q331 : x5_1 < (l0.length : Int) := of_decide_eq_true (by first | (with_reducible assumption) | assumption)
                obtain ⟨ad331, A331_0, c331_0, e331, hx331_0, hl331_0, hi331_0⟩ := at_L2 HR0.out x5_1 p331 q331
                cases e331
                have HR331_0 := Aside0.mk hi331_0
                have HC331_0 := Aside0.mk hl331_0
                clear hi331_0 hl331_0
                replace p331 := eq_true p331
                replace q331 := eq_true q331
                have p332 : 0 ≤ (x5_1 : Int) := of_decide_eq_true (by first | (with_reducible assumption) | assumption)
                have q332 : x5_1 < (l1.length : Int) := of_decide_eq_true (by first | (with_reducible assumption) | assumption)
                obtain ⟨ad332, A332_0, c332_0, e332, hx332_0, hl332_0, hi332_0⟩ := at_L2 HR1.out x5_1 p332 q332
                cases e332
                have HR332_0 := Aside0.mk hi332_0
                have HC332_0 := Aside0.mk hl332_0
                clear hi332_0 hl332_0
                replace p332 := eq_true p332
                replace q332 := eq_true q332
                iterate 2 ((try go_quiet (first | (go_at_call 29; (with_reducible refine (gangsawref40_SameLine.calls k1 _ _ (rd_L2 l0 x5_1) _ _ (rd_L2 l1 x5_1) true _ ?side1 ?side2 ?side3 ?side4 A7.out).mono ?_); (case side1 => repeat (first | exact HR331_0.out | (with_reducible refine Kd.C_alloc ?_ _) | (with_reducible refine Kd.C_drewN ?_ _) | (with_reducible refine Kd.C_drew ?_))); (case side2 => exact HC331_0.out); (case side3 => repeat (first | exact HR332_0.out | (with_reducible refine Kd.C_alloc ?_ _) | (with_reducible refine Kd.C_drewN ?_ _) | (with_reducible refine Kd.C_drew ?_))); (case side4 => exact HC332_0.out); rintro e w' ⟨rfl, ⟨nd, rfl⟩⟩; (try first | exact ⟨rfl, _, World.drewN_drewN _ _ _⟩ | exact ⟨rfl, _, Eq.trans (World.drewN_drewN _ _ _) (congrArg (World.drewN _) (Nat.add_assoc _ _ _))⟩)))); go_wp2_with (first | (go_at_call 29; (with_reducible refine (gangsawref40_SameLine.calls k1 _ _ (rd_L2 l0 x5_1) _ _ (rd_L2 l1 x5_1) true _ ?side1 ?side2 ?side3 ?side4 A7.out).mono ?_); (case side1 => repeat (first | exact HR331_0.out | (with_reducible refine Kd.C_alloc ?_ _) | (with_reducible refine Kd.C_drewN ?_ _) | (with_reducible refine Kd.C_drew ?_))); (case side2 => exact HC331_0.out); (case side3 => repeat (first | exact HR332_0.out | (with_reducible refine Kd.C_alloc ?_ _) | (with_reducible refine Kd.C_drewN ?_ _) | (with_reducible refine Kd.C_drew ?_))); (case side4 => exact HC332_0.out); rintro e w' ⟨rfl, ⟨nd, rfl⟩⟩; (try first | exact ⟨rfl, _, World.drewN_drewN _ _ _⟩ | exact ⟨rfl, _, Eq.trans (World.drewN_drewN _ _ _) (congrArg (World.drewN _) (Nat.add_assoc _ _ _))⟩))))
                go_roundg k1
                case measure => have := HK1.out; omega
                case rel => exact ⟨(wrap64 (x5_1 + 1)), (by first | rfl | (simp; done) | (simp [*]; done)), H', ⟨by have := HK1.out; omega⟩, by repeat (first | exact Drawn0.refl _ | apply Drawn0.step)⟩
              · replace c8 := Bool.eq_false_iff.mpr c8
                subst c8
                have H1 : (some false) = some r := by rw [if_neg (show ¬ (false = true) by decide)] at H; exact H
                clear H
                have H := H1
                clear H1
                obtain rfl := Option.some.inj H
                have p331 : 0 ≤ (x5_1 : Int) := of_decide_eq_true (by first | (with_reducible assumption) | assumption)
                have q331 : x5_1 < (l0.length : Int) := of_decide_eq_true (by first | (with_reducible assumption) | assumption)
                obtain ⟨ad331, A331_0, c331_0, e331, hx331_0, hl331_0, hi331_0⟩ := at_L2 HR0.out x5_1 p331 q331
                cases e331
                have HR331_0 := Aside0.mk hi331_0
                have HC331_0 := Aside0.mk hl331_0
                clear hi331_0 hl331_0
                replace p331 := eq_true p331
                replace q331 := eq_true q331
                have p332 : 0 ≤ (x5_1 : Int) := of_decide_eq_true (by first | (with_reducible assumption) | assumption)
                have q332 : x5_1 < (l1.length : Int) := of_decide_eq_true (by first | (with_reducible assumption) | assumption)
                obtain ⟨ad332, A332_0, c332_0, e332, hx332_0, hl332_0, hi332_0⟩ := at_L2 HR1.out x5_1 p332 q332
                cases e332
                have HR332_0 := Aside0.mk hi332_0
                have HC332_0 := Aside0.mk hl332_0
                clear hi332_0 hl332_0
                replace p332 := eq_true p332
                replace q332 := eq_true q332
                iterate 2 ((try go_quiet (first | (go_at_call 29; (with_reducible refine (gangsawref40_SameLine.calls k1 _ _ (rd_L2 l0 x5_1) _ _ (rd_L2 l1 x5_1) false _ ?side1 ?side2 ?side3 ?side4 A7.out).mono ?_); (case side1 => repeat (first | exact HR331_0.out | (with_reducible refine Kd.C_alloc ?_ _) | (with_reducible refine Kd.C_drewN ?_ _) | (with_reducible refine Kd.C_drew ?_))); (case side2 => exact HC331_0.out); (case side3 => repeat (first | exact HR332_0.out | (with_reducible refine Kd.C_alloc ?_ _) | (with_reducible refine Kd.C_drewN ?_ _) | (with_reducible refine Kd.C_drew ?_))); (case side4 => exact HC332_0.out); rintro e w' ⟨rfl, ⟨nd, rfl⟩⟩; (try first | exact ⟨rfl, _, World.drewN_drewN _ _ _⟩ | exact ⟨rfl, _, Eq.trans (World.drewN_drewN _ _ _) (congrArg (World.drewN _) (Nat.add_assoc _ _ _))⟩)))); go_wp2_with (first | (go_at_call 29; (with_reducible refine (gangsawref40_SameLine.calls k1 _ _ (rd_L2 l0 x5_1) _ _ (rd_L2 l1 x5_1) false _ ?side1 ?side2 ?side3 ?side4 A7.out).mono ?_); (case side1 => repeat (first | exact HR331_0.out | (with_reducible refine Kd.C_alloc ?_ _) | (with_reducible refine Kd.C_drewN ?_ _) | (with_reducible refine Kd.C_drew ?_))); (case side2 => exact HC331_0.out); (case side3 => repeat (first | exact HR332_0.out | (with_reducible refine Kd.C_alloc ?_ _) | (with_reducible refine Kd.C_drewN ?_ _) | (with_reducible refine Kd.C_drew ?_))); (case side4 => exact HC332_0.out); rintro e w' ⟨rfl, ⟨nd, rfl⟩⟩; (try first | exact ⟨rfl, _, World.drewN_drewN _ _ _⟩ | exact ⟨rfl, _, Eq.trans (World.drewN_drewN _ _ _) (congrArg (World.drewN _) (Nat.add_assoc _ _ _))⟩))))
                go_ret
                exact ⟨by first | rfl | (simp; done) | (simp [*]; done), by repeat (first | exact Drawn0.refl _ | apply Drawn0.step)⟩
            · rw [if_neg c6] at H
              exact absurd H (by simp)
          · rw [if_neg c5] at H
            exact absurd H (by simp)
        · rw [if_neg c4] at H
          have c4b0 : decide (x5_1 < (l0.length : Int)) = false := decide_eq_false c4
          clear c4
          obtain rfl := Option.some.inj H
          go_wp2
          repeat (go_quiet (fail); try go_wp2)
          go_ret
          exact ⟨by first | rfl | (simp; done) | (simp [*]; done), by repeat (first | exact Drawn0.refl _ | apply Drawn0.step)⟩
  · rw [if_neg c3] at H
    have c3b0 : ((l0.length : Int) == (l1.length : Int)) = false := beq_eq_false_iff_ne.mpr c3
    have c3b1 : ((l0.length : Int) != (l1.length : Int)) = true := bne_iff_ne.mpr c3
    have c3b2 : (l0.length == l1.length) = false := by first | simpa using c3 | (simp at c3 ⊢; omega)
    obtain rfl := Option.some.inj H
    go_enter Try.func17, Try.ntmps17
    go_wp2
    repeat (go_quiet (fail); try go_wp2)
    go_ret
    exact ⟨by first | rfl | (simp; done) | (simp [*]; done), by repeat (first | exact Drawn0.refl _ | apply Drawn0.step)⟩

/-! ### gangsawref40_flip: function 47 -/
def gangsawref40_flip.l0 : Nat → List (S46) → Int → List (S46) → List Int → Int → Option ((List (S46)))
  | 0, _, _, _, _, _ => none
  | k + 1, x0, x1, x5, x6, x7 => if x7 < 4 then (if 0 ≤ x7 then (if x7 < (x6.length : Int) then (if 0 ≤ (rd x6 x7) then (if (rd x6 x7) < (x0.length : Int) then (if x5.length < 8796093022208 then (gangsawref40_flip.l0 k x0 x1 (x5 ++ [(⟨wrap64 (x1 - ((rd_T46 x0 (rd x6 x7)).f0)), (rd_T46 x0 (rd x6 x7)).f1⟩ : S46)]) x6 (wrap64 (x7 + 1))) else (none)) else (none)) else (none)) else (none)) else (none)) else (some x5)
def gangsawref40_flip.f (k : Nat) (l0 : List (S46)) (a1 : Int) : Option ((List (S46))) := gangsawref40_flip.l0 k l0 a1 (([] : List (S46))) (([1, 0, 3, 2] : List Int)) 0
theorem gangsawref40_flip.mono_l : ∀ k, (∀ y0 y1 y2 y3 y4, LeO (gangsawref40_flip.l0 k y0 y1 y2 y3 y4) (gangsawref40_flip.l0 (k + 1) y0 y1 y2 y3 y4))
  | 0 => fun _ _ _ _ _ r h => by simp [gangsawref40_flip.l0] at h
  | k + 1 => by
    have ih0 := gangsawref40_flip.mono_l k
    · intro y0 y1 y2 y3 y4
      unfold gangsawref40_flip.l0
      repeat' first
      | (with_reducible exact ih0 _ _ _ _ _)
      | (with_reducible exact LeO.refl _)
      | (with_reducible exact LeO.none _)
      | (with_reducible refine LeO.ite ?_ ?_)
      | (with_reducible refine LeO.bind ?_ (fun _ => ?_))
      | exact ih0 _ _ _ _ _
      | exact LeO.none _
      | refine LeO.ite ?_ ?_
      | refine LeO.bind ?_ (fun _ => ?_)
theorem gangsawref40_flip.mono : ∀ a0 a1 k, LeO (gangsawref40_flip.f k a0 a1) (gangsawref40_flip.f (k + 1) a0 a1) := by
  intro a0 a1 k
  have ih0 := gangsawref40_flip.mono_l k
  unfold gangsawref40_flip.f
  repeat' first
      | (with_reducible exact ih0 _ _ _ _ _)
      | (with_reducible exact LeO.refl _)
      | (with_reducible exact LeO.none _)
      | (with_reducible refine LeO.ite ?_ ?_)
      | (with_reducible refine LeO.bind ?_ (fun _ => ?_))
      | exact ih0 _ _ _ _ _
      | exact LeO.none _
      | refine LeO.ite ?_ ?_
      | refine LeO.bind ?_ (fun _ => ?_)
set_option maxHeartbeats 8000000 in
set_option maxRecDepth 100000 in
theorem gangsawref40_flip.calls (k : Nat) (A0 : Option Addr) (c0 : Nat) (l0 : List (S46)) (a1 : Int) (r : List (S46)) (w : World) (hr0 : Kd.C k46 w A0 l0.length l0) (hc0 : l0.length ≤ c0) (h : gangsawref40_flip.f k l0 a1 = some r) :
    Calls Try.prog 47 #[.slice A0 l0.length c0, .int .i64 a1] w fun e w' => ∃ v0_ : Value, e = .returned (v0_) ∧ Kd.R k46 46 w' w.heap.size (fun _ => True) v0_ r ∧ Below w.heap.size w w' := by
  have hu46 := Try.underlying46
  have HR0 := Aside0.mk hr0
  have HC0 := Aside0.mk hc0
  clear hr0 hc0
  have HB := Aside0.mk (Below.refl w.heap.size w)
  have H : (gangsawref40_flip.l0 k l0 a1 (([] : List (S46))) (([1, 0, 3, 2] : List Int)) 0) = some r := h
  clear h
  obtain ⟨y334, hy334⟩ : ∃ y_ : List (S46), y_ = (([] : List (S46))) := ⟨_, rfl⟩
  replace H : (gangsawref40_flip.l0 k l0 a1 y334 (([1, 0, 3, 2] : List Int)) 0) = some r := by first | (rw [hy334]; with_reducible exact H) | (have H2_ := (Option.bind_some _ _).symm.trans H; rw [hy334]; with_reducible exact H2_) | (have H2_ := (Option.bind_some _ _).symm.trans H; with_reducible exact H2_) | with_reducible exact H | (rw [hy334]; exact H) | exact H
  have Ny334 := Aside0.mk hy334
  clear hy334
  obtain ⟨y337, hy337⟩ : ∃ y_ : List Int, y_ = (([1, 0, 3, 2] : List Int)) := ⟨_, rfl⟩
  replace H : (gangsawref40_flip.l0 k l0 a1 y334 y337 0) = some r := by first | (rw [hy337]; with_reducible exact H) | (have H2_ := (Option.bind_some _ _).symm.trans H; rw [hy337]; with_reducible exact H2_) | (have H2_ := (Option.bind_some _ _).symm.trans H; with_reducible exact H2_) | with_reducible exact H | (rw [hy337]; exact H) | exact H
  have Ny337 := Aside0.mk hy337
  clear hy337
  have H' := Aside0.mk H
  clear H
  go_enter Try.func47, Try.ntmps47
  go_wp2_with (first | ((with_reducible refine gate_dst (N := 9) rfl ?_); refine Kd.R_lit k46 _ 46 ?hg (N := 9) ?hd (xs := ([] : List (S46))) (inner := []) (ok := fun _ => True) (okp := fun _ => True) ?hr ?hp (fun _ hk => hk) trivial (Below.refl _ _) (Nat.le_refl _) (by simp) ?_; (case hd => rfl); (case hg => first | rfl | (go_simp; done)); (case hr => first | (go_simp; done) | (go_simp; rfl)); (case hp => exact (Reps.none _ _)); intro v335 w3 ho4 hb hg_ hnew_; clear hg_ hnew_; (first | rw [← Ny334.out] at ho4 | (simp only [Int.reduceToNat] at ho4; rw [← Ny334.out] at ho4)); have n0_ := Aside0.mk (Kd.R_lower ho4 (below_size (by repeat (first | (with_reducible first | exact HB.out | apply below_alloc | apply pw_below_drewN | apply below_drew1) | exact HB.out)))); have n1_ := Aside0.mk (below_step (by repeat (first | (with_reducible first | exact HB.out | apply below_alloc | apply pw_below_drewN | apply below_drew1) | exact HB.out)) hb); clear HB; have HO336 := n0_; have HB := n1_; clear n0_ n1_; clear hb ho4) | ((with_reducible refine gate_dst (N := 10) rfl ?_); refine Kd.R_lit (Kd.int .i64) _ 3 ?hg (N := 10) ?hd (xs := ([1, 0, 3, 2] : List Int)) (inner := [.int .i64 1, .int .i64 0, .int .i64 3, .int .i64 2]) (ok := fun _ => True) (okp := fun _ => True) ?hr ?hp (fun _ hk => hk) trivial (Below.refl _ _) (Nat.le_refl _) (by simp) ?_; (case hd => rfl); (case hg => first | rfl | (go_simp; done)); (case hr => first | (go_simp; done) | (go_simp; rfl)); (case hp => exact (Reps.one (show Kd.M (Kd.int .i64) _ _ _ 1 [.int .i64 1] from rfl) (Reps.one (show Kd.M (Kd.int .i64) _ _ _ 0 [.int .i64 0] from rfl) (Reps.one (show Kd.M (Kd.int .i64) _ _ _ 3 [.int .i64 3] from rfl) (Reps.one (show Kd.M (Kd.int .i64) _ _ _ 2 [.int .i64 2] from rfl) (Reps.none _ _)))))); intro v338 w5 ho6 hb hg_ hnew_; clear hg_ hnew_; (first | rw [← Ny337.out] at ho6 | (simp only [Int.reduceToNat] at ho6; rw [← Ny337.out] at ho6)); have n0_ := Aside0.mk (Kd.R_below (by (with_reducible repeat (first | apply Kd.R_alloc | apply Kd.R_drewN | apply Kd.R_drew)); exact HO336.out) hb); have n1_ := Aside0.mk (Kd.R_lower ho6 (below_size (by repeat (first | (with_reducible first | exact HB.out | apply below_alloc | apply pw_below_drewN | apply below_drew1) | exact HB.out)))); have n2_ := Aside0.mk (below_step (by repeat (first | (with_reducible first | exact HB.out | apply below_alloc | apply pw_below_drewN | apply below_drew1) | exact HB.out)) hb); clear HO336; clear HB; have HO336 := n0_; have HO339 := n1_; have HB := n2_; clear n0_ n1_ n2_; clear hb ho6))
  go_loopg [5, 7] k (fun kq v5 v7 w' => ∃ (x5_1 : List (S46)) (x7_1 : Int), v7 = .int .i64 x7_1 ∧ Aside0 (gangsawref40_flip.l0 kq l0 a1 x5_1 y337 x7_1 = some r) ∧ Aside0 (kq ≤ k) ∧ Aside0 (Kd.R k46 46 w' w.heap.size (fun _ => True) v5 x5_1) ∧ Aside0 (Kd.R (Kd.int .i64) 3 w' w.heap.size (fun _ => True) v338 y337) ∧ Aside0 (Below w.heap.size w w'))
  case atStart => exact ⟨(y334), (0), (by first | rfl | (simp; done) | (simp [*]; done)), H', ⟨Nat.le_refl _⟩, ⟨by (with_reducible repeat (first | apply Kd.R_alloc | apply Kd.R_drewN | apply Kd.R_drew)); exact HO336.out⟩, ⟨by (with_reducible repeat (first | apply Kd.R_alloc | apply Kd.R_drewN | apply Kd.R_drew)); exact HO339.out⟩, ⟨by repeat (first | (with_reducible first | exact HB.out | apply below_alloc | apply pw_below_drewN | apply below_drew1) | exact HB.out)⟩⟩
  case round =>
    clear H'
    try clear p2
    try clear c4
    obtain ⟨x5_1, x7_1, rfl, HA, HK1, HO_5, HO_6, HB⟩ := hrel
    cases gk with
    | zero => exact absurd HA.out (by simp [gangsawref40_flip.l0])
    | succ k1 =>
      have H := HA.out
      clear HA
      simp only [gangsawref40_flip.l0] at H
      by_cases c7 : x7_1 < 4
      · rw [if_pos c7] at H
        have c7b0 : decide (x7_1 < 4) = true := decide_eq_true c7
        clear c7
        by_cases c8 : 0 ≤ x7_1
        · rw [if_pos c8] at H
          have c8b0 : decide (0 ≤ x7_1) = true := decide_eq_true c8
          clear c8
          by_cases c9 : x7_1 < (y337.length : Int)
          · rw [if_pos c9] at H
            have c9b0 : decide (x7_1 < (y337.length : Int)) = true := decide_eq_true c9
            clear c9
            by_cases c10 : 0 ≤ (rd y337 x7_1)
            · rw [if_pos c10] at H
              have c10b0 : decide (0 ≤ (rd y337 x7_1)) = true := decide_eq_true c10
              clear c10
              by_cases c11 : (rd y337 x7_1) < (l0.length : Int)
              · rw [if_pos c11] at H
                have c11b0 : decide ((rd y337 x7_1) < (l0.length : Int)) = true := decide_eq_true c11
                clear c11
                by_cases c12 : x5_1.length < 8796093022208
                · rw [if_pos c12] at H
                  have LMc12 := Aside0.mk c12
                  clear c12
                  obtain ⟨y343, hy343⟩ : ∃ y_ : List (S46), y_ = (x5_1 ++ [(⟨wrap64 (a1 - ((rd_T46 l0 (rd y337 x7_1)).f0)), (rd_T46 l0 (rd y337 x7_1)).f1⟩ : S46)]) := ⟨_, rfl⟩
                  replace H : (gangsawref40_flip.l0 k1 l0 a1 y343 y337 (wrap64 (x7_1 + 1))) = some r := by first | (rw [hy343]; with_reducible exact H) | (have H2_ := (Option.bind_some _ _).symm.trans H; rw [hy343]; with_reducible exact H2_) | (have H2_ := (Option.bind_some _ _).symm.trans H; with_reducible exact H2_) | with_reducible exact H | (rw [hy343]; exact H) | exact H
                  have Ny343 := Aside0.mk hy343
                  clear hy343
                  have H' := Aside0.mk H
                  clear H
                  obtain ⟨Ao13, co13, eo13⟩ := Kd.R_slice HO_6.out
                  subst eo13
                  have p340 : 0 ≤ (x7_1 : Int) := of_decide_eq_true (by first | (with_reducible assumption) | assumption)
                  have q340 : x7_1 < (y337.length : Int) := of_decide_eq_true (by first | (with_reducible assumption) | assumption)
                  obtain ⟨ad340, e340, hx340_0⟩ := Kd.at_int (Kd.R_reads' HO_6.out).2.2 x7_1 p340 q340
                  cases e340
                  replace p340 := eq_true p340
                  replace q340 := eq_true q340
                  have p341 : 0 ≤ ((rd y337 x7_1) : Int) := of_decide_eq_true (by first | (with_reducible assumption) | assumption)
                  have q341 : (rd y337 x7_1) < (l0.length : Int) := of_decide_eq_true (by first | (with_reducible assumption) | assumption)
                  obtain ⟨ad341, e341, hx341_0, hx341_1⟩ := at_T46 HR0.out (rd y337 x7_1) p341 q341
                  cases e341
                  replace hx341_0 := (HB.out.cell (World.block_lt_of_cell? w _ hx341_0)).trans hx341_0
                  replace hx341_1 := (HB.out.cell (World.block_lt_of_cell? w _ hx341_1)).trans hx341_1
                  replace p341 := eq_true p341
                  replace q341 := eq_true q341
                  go_wp2_with (first | ((with_reducible refine gate_dst (N := 8) rfl ?_); refine box_event ?hg (N := 8) ?hd (cs := #[.int .i64 0, .int .i64 0]) (t := 46) ?hr ?_; (case hd => rfl); (case hg => first | rfl | (go_simp; done)); (case hr => first | (go_simp; done) | (go_simp; rfl)); intro gb342 hg w14 hbox hb; have n0_ := Aside0.mk (Kd.R_below (Kd.R_elderB (by (with_reducible repeat (first | apply Kd.R_alloc | apply Kd.R_drewN | apply Kd.R_drew)); exact HO_5.out) gb342 (Nat.le_of_eq hg.symm)) hb); have n1_ := Aside0.mk (Kd.R_below (by (with_reducible repeat (first | apply Kd.R_alloc | apply Kd.R_drewN | apply Kd.R_drew)); exact HO_6.out) hb); have n2_ := Aside0.mk (below_step (by repeat (first | (with_reducible first | exact HB.out | apply below_alloc | apply pw_below_drewN | apply below_drew1) | exact HB.out)) hb); have n3_ := Aside0.mk (hbox); have n4_ := Aside0.mk ((by rw [hg]; exact (below_size (by repeat (first | (with_reducible first | exact HB.out | apply below_alloc | apply pw_below_drewN | apply below_drew1) | exact HB.out))) : w.heap.size ≤ gb342)); have n5_ := Aside0.mk ((by rw [hg]; exact (below_size (by repeat (first | (with_reducible first | exact HB.out | apply below_alloc | apply pw_below_drewN | apply below_drew1) | exact HB.out))) : w.heap.size ≤ gb342)); clear HO_5; clear HO_6; clear HB; have HO_5 := n0_; have HO_6 := n1_; have HB := n2_; have BK342 := n3_; have GW342 := n4_; have GE342 := n5_; clear n0_ n1_ n2_ n3_ n4_ n5_; clear hb hbox hg; have hcz15_0 : w14.cell? ⟨gb342, 0, none⟩ = some (.int .i64 0) := (blk_cell BK342.out 0).trans rfl; have hcz15_1 : w14.cell? ⟨gb342, 1, none⟩ = some (.int .i64 0) := (blk_cell BK342.out 1).trans rfl; have hfz15_0 := blk_frozen BK342.out 0; have hfz15_1 := blk_frozen BK342.out 1) | ((with_reducible refine gate_builtin (b := .append) (xs := #[.tmp 22, .tmp 30]) rfl ?_); at_builtin; refine Kd.R_append k46 (w0 := w) w.heap.size rfl (.tmp 22) (.tmp 30) 38 46 (.agg #[(.int .i64 0), (.int .i64 0)]) 16 rfl Try.underlying38 info46 rfl (by decide) (by omega) u5 x5_1 (⟨wrap64 (a1 - ((rd_T46 l0 (rd y337 x7_1)).f0)), (rd_T46 l0 (rd y337 x7_1)).f1⟩ : S46) [.int .i64 (wrap64 (a1 - ((rd_T46 l0 (rd y337 x7_1)).f0))), .int .i64 ((rd_T46 l0 (rd y337 x7_1)).f1)] (fun k_ => k_ ≠ gb342) (fun _ => False) rfl (by first | (go_simp; done) | (go_simp; rfl)) ?aP (fun _ hk => hk.elim) ?aF ?aO ?aB ?aS ?aL ?_; (case aP => exact k46_mkM _ _ _ (⟨wrap64 (a1 - ((rd_T46 l0 (rd y337 x7_1)).f0)), (rd_T46 l0 (rd y337 x7_1)).f1⟩ : S46)); (case aB => exact (by repeat (first | (with_reducible first | exact HB.out | apply below_alloc | apply pw_below_drewN | apply below_drew1 | refine below_set ?_ GE342.out) | exact HB.out))); (case aF => exact (fun k_ hk => Kd.freshB (g := gb342) (o := .cells #[.int .i64 ((rd_T46 l0 (rd y337 x7_1)).f0), .int .i64 ((rd_T46 l0 (rd y337 x7_1)).f1)] 46 (0, 0)) (by (with_reducible repeat (first | refine blk_drewN ?_ _ | refine blk_drew ?_ | refine blk_alloc ?_ _)); refine blk_put (cs := #[.int .i64 ((rd_T46 l0 (rd y337 x7_1)).f0), .int .i64 0]) ?_ 1 _ rfl; (with_reducible repeat (first | refine blk_drewN ?_ _ | refine blk_drew ?_ | refine blk_alloc ?_ _)); refine blk_put (cs := #[.int .i64 0, .int .i64 0]) ?_ 0 _ rfl; (with_reducible repeat (first | refine blk_drewN ?_ _ | refine blk_drew ?_ | refine blk_alloc ?_ _)); exact BK342.out) k_ hk)); (case aO => exact (by (with_reducible repeat (first | apply Kd.R_alloc | apply Kd.R_drewN | apply Kd.R_drew)); exact Kd.R_mono (Kd.R_far (p := ⟨gb342, 1, none⟩) (Kd.R_far (p := ⟨gb342, 0, none⟩) (Kd.R_mono HO_5.out (fun k_ hk => (⟨hk, hk.2⟩ : _ ∧ k_ ≠ gb342))) (fun _ hk => hk.2) (.int .i64 ((rd_T46 l0 (rd y337 x7_1)).f0))) (fun _ hk => hk.2) (.int .i64 ((rd_T46 l0 (rd y337 x7_1)).f1))) (fun _ hk => hk.1.2))); (case aS => exact (below_size (by repeat (first | (with_reducible first | exact HB.out | apply below_alloc | apply pw_below_drewN | apply below_drew1 | refine below_set ?_ GE342.out) | exact HB.out)))); (case aL => have := LMc12.out; omega); intro v344 w16 ho hb hg hat; rw [← Ny343.out] at ho; have n0_ := Aside0.mk (Kd.R_over' (by (with_reducible repeat (first | apply Kd.R_alloc | apply Kd.R_drewN | apply Kd.R_drew)); exact (Kd.R_mono (Kd.R_far (p := ⟨gb342, 1, none⟩) (Kd.R_far (p := ⟨gb342, 0, none⟩) (Kd.R_types HO_6.out BK342.out (by decide)) (fun _ hk => hk.2) (.int .i64 ((rd_T46 l0 (rd y337 x7_1)).f0))) (fun _ hk => hk.2) (.int .i64 ((rd_T46 l0 (rd y337 x7_1)).f1))) (fun _ h_ => h_.1))) (Kd.R_typed (by (with_reducible repeat (first | apply Kd.R_alloc | apply Kd.R_drewN | apply Kd.R_drew)); exact (Kd.R_mono (Kd.R_far (p := ⟨gb342, 1, none⟩) (Kd.R_far (p := ⟨gb342, 0, none⟩) (Kd.R_mono HO_5.out (fun k_ hk => (⟨hk, hk.2⟩ : _ ∧ k_ ≠ gb342))) (fun _ hk => hk.2) (.int .i64 ((rd_T46 l0 (rd y337 x7_1)).f0))) (fun _ hk => hk.2) (.int .i64 ((rd_T46 l0 (rd y337 x7_1)).f1))) (fun _ h_ => h_.1)))) (by decide) hg); have n1_ := Aside0.mk (blk_grown (g := gb342) (o := .cells #[.int .i64 ((rd_T46 l0 (rd y337 x7_1)).f0), .int .i64 ((rd_T46 l0 (rd y337 x7_1)).f1)] 46 (0, 0)) (by (with_reducible repeat (first | refine blk_drewN ?_ _ | refine blk_drew ?_ | refine blk_alloc ?_ _)); refine blk_put (cs := #[.int .i64 ((rd_T46 l0 (rd y337 x7_1)).f0), .int .i64 0]) ?_ 1 _ rfl; (with_reducible repeat (first | refine blk_drewN ?_ _ | refine blk_drew ?_ | refine blk_alloc ?_ _)); refine blk_put (cs := #[.int .i64 0, .int .i64 0]) ?_ 0 _ rfl; (with_reducible repeat (first | refine blk_drewN ?_ _ | refine blk_drew ?_ | refine blk_alloc ?_ _)); exact BK342.out) hg (Kd.R_away HO_5.out (fun _ hk => hk.2))); have n2_ := Aside0.mk (hb); have n3_ := Aside0.mk (ho); clear HO_6; clear BK342; clear HB; clear HO_5; have HO_6 := n0_; have BK342 := n1_; have HB := n2_; have HO345 := n3_; clear n0_ n1_ n2_ n3_; clear ho hb hg hat))
                  go_roundg k1
                  case measure => have := HK1.out; omega
                  case rel => exact ⟨(y343), (wrap64 (x7_1 + 1)), (by first | rfl | (simp; done) | (simp [*]; done)), H', ⟨by have := HK1.out; omega⟩, ⟨by (with_reducible repeat (first | apply Kd.R_alloc | apply Kd.R_drewN | apply Kd.R_drew)); exact Kd.R_mono HO345.out (fun _ hk => trivial)⟩, ⟨by (with_reducible repeat (first | apply Kd.R_alloc | apply Kd.R_drewN | apply Kd.R_drew)); exact HO_6.out⟩, ⟨by repeat (first | (with_reducible first | exact HB.out | apply below_alloc | apply pw_below_drewN | apply below_drew1 | refine below_set ?_ GE342.out) | exact HB.out)⟩⟩
                · rw [if_neg c12] at H
                  exact absurd H (by simp)
              · rw [if_neg c11] at H
                exact absurd H (by simp)
            · rw [if_neg c10] at H
              exact absurd H (by simp)
          · rw [if_neg c9] at H
            exact absurd H (by simp)
        · rw [if_neg c8] at H
          exact absurd H (by simp)
      · rw [if_neg c7] at H
        have c7b0 : decide (x7_1 < 4) = false := decide_eq_false c7
        clear c7
        obtain rfl := Option.some.inj H
        go_wp2
        go_ret
        exact ⟨_, by first | rfl | (simp [errW_none, errW_some] <;> rfl) | (simp [*, errW_none, errW_some] <;> rfl), by (with_reducible repeat (first | apply Kd.R_alloc | apply Kd.R_drewN | apply Kd.R_drew)); exact HO_5.out, by repeat (first | (with_reducible first | exact HB.out | apply below_alloc | apply pw_below_drewN | apply below_drew1) | exact HB.out)⟩

end Go.Proofs.Ytjlljjnkjhdljaa.XA
