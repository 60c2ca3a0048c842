import Derived.Test.YtglkcinmohjblaaDoorXAx0
namespace Go.Proofs.YtglkcinmohjblaaDoor.XA
open Go.RowKit Opens YtglkcinmohjblaaDoorW.PrintWords YtglkcinmohjblaaDoorW.PrintLast YtglkcinmohjblaaDoorW.PrintMore
attribute [local go_sem] max2_int min2_int max_two min_two max_three min_three max_four min_four cell_some cell_same
set_option linter.unusedVariables false
set_option linter.unusedSimpArgs false

def lw_mirror.l0 : Nat → List Int → List Int → Int → Option (List Int)
  | 0, _, _, _ => none
  | k + 1, x0, x3, x4 => if x4 ≥ 0 then (if 0 ≤ x4 then (if x4 < (x0.length : Int) then (if x3.length < 17592186044416 then (lw_mirror.l0 k x0 (x3 ++ [rd x0 x4]) (wrap64 (x4 - 1))) else (none)) else (none)) else (none)) else (some x3)
def lw_mirror.f (k : Nat) (l0 : List Int) : Option (List Int) := lw_mirror.l0 k l0 (([] : List Int)) (wrap64 ((l0.length : Int) - 1))
theorem lw_mirror.mono_l : ∀ k, (∀ y0 y1 y2, LeO (lw_mirror.l0 k y0 y1 y2) (lw_mirror.l0 (k + 1) y0 y1 y2))
  | 0 => fun _ _ _ r h => by simp [lw_mirror.l0] at h
  | k + 1 => by
    have ih0 := lw_mirror.mono_l k
    intro y0 y1 y2
    unfold lw_mirror.l0
    repeat' first
    | (with_reducible exact ih0 _ _ _)
    | (with_reducible exact LeO.refl _)
    | (with_reducible refine LeO.ite ?_ ?_)
      
theorem lw_mirror.mono : ∀ a0 k, LeO (lw_mirror.f k a0) (lw_mirror.f (k + 1) a0) := by
  intro a0 k
  have ih0 := lw_mirror.mono_l k
  unfold lw_mirror.f
  repeat' (with_reducible exact ih0 _ _ _)
set_option maxHeartbeats 8000000 in
set_option maxRecDepth 100000 in
theorem lw_mirror.calls (k : Nat) (A0 : Option Addr) (c0 : Nat) (l0 : List Int) (r : List Int) (w : World) (hr0 : Kd.C (Kd.int .i64) w A0 l0.length l0) (hc0 : l0.length ≤ c0) (h : lw_mirror.f k l0 = some r) :
    Calls Tryd.prog 30 #[.slice A0 l0.length c0] w fun e w' => ∃ v0_ : Value, e = .returned (v0_) ∧ Kd.R (Kd.int .i64) 3 w' w.heap.size (fun _ => True) v0_ r ∧ Below w.heap.size w w' := by
  have HR0 := ak hr0
  have HC0 := ak hc0
  clear hr0 hc0
  have HB := ak (Below.refl w.heap.size w)
  have H : (lw_mirror.l0 k l0 (([] : List Int)) (wrap64 ((l0.length : Int) - 1))) = some r := h
  clear h
  obtain ⟨y664, hy664⟩ : ∃ y_ : List Int, y_ = (([] : List Int)) := ⟨_, rfl⟩
  replace H : (lw_mirror.l0 k l0 y664 (wrap64 ((l0.length : Int) - 1))) = some r := by (rw [hy664]; with_reducible exact H)
  have Ny664 := ak hy664
  clear hy664
  have H' := ak H
  clear H
  go_enter Tryd.func30, Tryd.ntmps30
  go_wp2_with (first | ((with_reducible refine gate_dst (N := 5) rfl ?_); refine Kd.R_lit (Kd.int .i64) _ 3 ?hg (N := 5) ?hd (xs := ([] : List Int)) (inner := []) (ok := fun _ => True) (okp := fun _ => True) ?hr ?hp (fun _ hk => hk) trivial (Below.refl _ _) (Nat.le_refl _) (by simp) ?_; (case hd => rfl); (case hg => rfl); (case hr => (go_simp; done)); (case hp => exact (Reps.none _ _)); intro v665 w2 ho3 hb hg_ hnew_; clear hg_ hnew_; (rw [← Ny664.1] at ho3); have n0_ := ak (Kd.R_lower ho3 (below_size HB.1)); have n1_ := ak (below_step HB.1 hb); clear HB; have HO666 := n0_; have HB := n1_; clear n0_ n1_; clear hb ho3))
  go_loopg [3, 4] k (fun kq v3 v4 w' => ∃ (x3_1 : List Int) (x4_1 : Int), v4 = .int .i64 x4_1 ∧ Aside0 (lw_mirror.l0 kq l0 x3_1 x4_1 = some r) ∧ Aside0 (kq ≤ k) ∧ Aside0 (Kd.R (Kd.int .i64) 3 w' w.heap.size (fun _ => True) v3 x3_1) ∧ Aside0 (Below w.heap.size w w'))
  case atStart => exact ⟨(y664), (wrap64 ((l0.length : Int) - 1)), (by rfl), H', ⟨Nat.le_refl _⟩, ⟨by exact HO666.1⟩, ⟨by repeat (with_reducible exact HB.1)⟩⟩
  clear H'
  obtain ⟨x3_1, x4_1, rfl, HA, HK1, HO_3, HB⟩ := hrel
  cases gk with
  | zero => exact absurd HA.1 (by simp [lw_mirror.l0])
  | succ k1 =>
    have H := HA.1
    clear HA
    simp only [lw_mirror.l0] at H
    by_cases c4 : x4_1 ≥ 0
    · rw [if_pos c4] at H
      have c4b0 : decide (0 ≤ x4_1) = true := decide_eq_true c4
      clear c4
      by_cases c5 : 0 ≤ x4_1
      · rw [if_pos c5] at H
        have c5b0 : decide (0 ≤ x4_1) = true := decide_eq_true c5
        clear c5
        by_cases c6 : x4_1 < (l0.length : Int)
        · rw [if_pos c6] at H
          have c6b0 : decide (x4_1 < (l0.length : Int)) = true := decide_eq_true c6
          clear c6
          by_cases c7 : x3_1.length < 17592186044416
          · rw [if_pos c7] at H
            have LMc7 := ak c7
            clear c7
            obtain ⟨y668, hy668⟩ : ∃ y_ : List Int, y_ = (x3_1 ++ [rd l0 x4_1]) := ⟨_, rfl⟩
            replace H : (lw_mirror.l0 k1 l0 y668 (wrap64 (x4_1 - 1))) = some r := by (rw [hy668]; with_reducible exact H)
            have Ny668 := ak hy668
            clear hy668
            have H' := ak H
            clear H
            have p667 : 0 ≤ (x4_1 : Int) := od_
            have q667 : x4_1 < (l0.length : Int) := od_
            obtain ⟨ad667, e667, hx667_0⟩ := Kd.at_int HR0.1 x4_1 p667 q667
            cases e667
            replace hx667_0 := (hc_ HB hx667_0).trans hx667_0
            replace p667 := eq_true p667
            replace q667 := eq_true q667
            go_wp2_with (first | ((with_reducible refine gate_builtin (b := .append) (xs := #[.tmp 13, .tmp 18]) rfl ?_); at_builtin; refine Kd.R_append (Kd.int .i64) (w0 := w) w.heap.size rfl (.tmp 13) (.tmp 18) 55 3 (.int .i64 0) 8 rfl Tryd.underlying55 info3 rfl (by decide) (by omega) u3 x3_1 (rd l0 x4_1) [.int .i64 (rd l0 x4_1)] (fun _ => True) (fun _ => False) rfl rfl ?aP (fun _ hk => hk.elim) ?aF ?aO ?aB ?aS ?aL ?_; (case aP => exact rfl); (case aB => exact HB.1); (case aF => exact (fun _ _ => trivial)); (case aO => exact (by exact HO_3.1)); (case aS => exact (below_size HB.1)); (case aL => have := LMc7.1; omega); intro v669 w8 ho hb hg hat; rw [← Ny668.1] at ho; have n0_ := ak (hb); have n1_ := ak (ho); clear HB; clear HO_3; have HB := n0_; have HO670 := n1_; clear n0_ n1_; clear ho hb hg hat))
            go_roundg k1
            case measure => have := HK1.1; omega
            case rel => exact ⟨(y668), (wrap64 (x4_1 - 1)), (by rfl), H', ⟨by have := HK1.1; omega⟩, ⟨by exact HO670.1⟩, ⟨by repeat (with_reducible exact HB.1)⟩⟩
          rw [if_neg c7] at H
          exact absurd H (by simp)
        rw [if_neg c6] at H
        exact absurd H (by simp)
      rw [if_neg c5] at H
      exact absurd H (by simp)
    rw [if_neg c4] at H
    have c4b0 : decide (0 ≤ x4_1) = false := decide_eq_false c4
    clear c4
    obtain rfl := Option.some.inj H
    go_wp2
    go_ret
    exact ⟨_, by rfl, by exact HO_3.1, by repeat (with_reducible exact HB.1)⟩

end Go.Proofs.YtglkcinmohjblaaDoor.XA
