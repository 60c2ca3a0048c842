-- written by xprint.py, this project's own program (wip/), over the words of print.sh
import Derived.Test.YtecbmcheojolnaaXAx0
namespace Go.Proofs.Ytecbmcheojolnaa.XA
open Go.RowKit Go.Proofs.Ytecbmcheojolnaa.Opens Go.Proofs.YtecbmcheojolnaaW.PrintWords Go.Proofs.YtecbmcheojolnaaW.PrintLast Go.Proofs.YtecbmcheojolnaaW.PrintMore
attribute [local go_sem] max2_int min2_int max_two min_two max_three min_three max_four min_four cell_some cell_same   -- for this text's walks alone
set_option linter.unusedVariables false
set_option linter.unusedSimpArgs false

/-! ### precedence_indices: function 30 -/
def precedence_indices.l0 : Nat → List Int → List Bool → Int → Int → Option (List Int)
  | 0, _, _, _, _ => none
  | k + 1, x3, x6, x7, x8 => if x8 < x7 then (if 0 ≤ x8 then (if x8 < (x6.length : Int) then (if rdOf false x6 x8 = true then (if x3.length < 17592186044416 then (precedence_indices.l0 k (x3 ++ [x8]) x6 x7 (wrap64 (x8 + 1))) else (none)) else (precedence_indices.l0 k x3 x6 x7 (wrap64 (x8 + 1)))) else (none)) else (none)) else (some x3)
def precedence_indices.f (k : Nat) (l0 : List Bool) : Option (List Int) := precedence_indices.l0 k ([] : List Int) l0 (l0.length : Int) 0
theorem precedence_indices.mono_l : ∀ k, (∀ y0 y1 y2 y3, LeO (precedence_indices.l0 k y0 y1 y2 y3) (precedence_indices.l0 (k + 1) y0 y1 y2 y3))
  | 0 => fun _ _ _ _ r h => by simp [precedence_indices.l0] at h
  | k + 1 => by
    have ih0 := precedence_indices.mono_l k
    intro y0 y1 y2 y3
    unfold precedence_indices.l0
    repeat' first
    | (with_reducible exact ih0 _ _ _ _)
    | (with_reducible exact LeO.refl _)
    | (with_reducible refine LeO.ite ?_ ?_)
      
theorem precedence_indices.mono : ∀ a0 k, LeO (precedence_indices.f k a0) (precedence_indices.f (k + 1) a0) := by
  intro a0 k
  have ih0 := precedence_indices.mono_l k
  unfold precedence_indices.f
  repeat' (with_reducible exact ih0 _ _ _ _)
set_option maxHeartbeats 8000000 in
set_option maxRecDepth 100000 in
theorem precedence_indices.calls (k : Nat) (A0 : Option Addr) (c0 : Nat) (l0 : List Bool) (r : List Int) (w : World) (hr0 : Kd.C Kd.bool w A0 l0.length l0) (hc0 : l0.length ≤ c0) (h : precedence_indices.f k l0 = some r) :
    Calls Try.prog 30 #[.slice A0 l0.length c0] w fun e w' => ∃ v0_ : Value, e = .returned (v0_) ∧ Kd.R (Kd.int .i64) 3 w' w.heap.size (fun _ => True) v0_ r ∧ Below w.heap.size w w' := by
  have HR0 := ak hr0
  have HC0 := ak hc0
  clear hr0 hc0
  have HB := ak (Below.refl w.heap.size w)
  have H : (precedence_indices.l0 k ([] : List Int) l0 (l0.length : Int) 0) = some r := h
  clear h
  have H' := ak H
  clear H
  go_enter Try.func30, Try.ntmps30
  go_wp2
  go_loopg [3, 8] k (fun kq v3 v8 w' => ∃ (x3_1 : List Int) (x8_1 : Int), v8 = .int .i64 x8_1 ∧ Aside0 (precedence_indices.l0 kq x3_1 l0 (l0.length : Int) x8_1 = some r) ∧ Aside0 (kq ≤ k) ∧ Aside0 (Kd.R (Kd.int .i64) 3 w' w.heap.size (fun _ => True) v3 x3_1) ∧ Aside0 (Below w.heap.size w w'))
  case atStart => exact ⟨(([] : List Int)), (0), (by rfl), H', ⟨Nat.le_refl _⟩, ⟨by exact Kd.R_nil _ _ _ _ _⟩, ⟨by repeat (with_reducible exact HB.1)⟩⟩
  clear H'
  obtain ⟨x3_1, x8_1, rfl, HA, HK1, HO_3, HB⟩ := hrel
  cases gk with
  | zero => exact absurd HA.1 (by simp [precedence_indices.l0])
  | succ k1 =>
    have H := HA.1
    clear HA
    simp only [precedence_indices.l0] at H
    by_cases c2 : x8_1 < (l0.length : Int)
    · rw [if_pos c2] at H
      have c2b0 : decide (x8_1 < (l0.length : Int)) = true := decide_eq_true c2
      clear c2
      by_cases c3 : 0 ≤ x8_1
      · rw [if_pos c3] at H
        have c3b0 : decide (0 ≤ x8_1) = true := decide_eq_true c3
        clear c3
        by_cases c4 : x8_1 < (l0.length : Int)
        · rw [if_pos c4] at H
          have c4b0 : decide (x8_1 < (l0.length : Int)) = true := decide_eq_true c4
          clear c4
          obtain ⟨bq5, hbq5⟩ : ∃ b_ : Bool, b_ = (rdOf false l0 x8_1) := ⟨_, rfl⟩
          replace H : (if bq5 = true then (if x3_1.length < 17592186044416 then (precedence_indices.l0 k1 (x3_1 ++ [x8_1]) l0 (l0.length : Int) (wrap64 (x8_1 + 1))) else (none)) else (precedence_indices.l0 k1 x3_1 l0 (l0.length : Int) (wrap64 (x8_1 + 1)))) = some r := by rw [← hbq5] at H; exact H
          have Nbq5 := ak hbq5
          clear hbq5
          by_cases c6 : bq5 = true
          · subst c6
            have H1 : (if x3_1.length < 17592186044416 then (precedence_indices.l0 k1 (x3_1 ++ [x8_1]) l0 (l0.length : Int) (wrap64 (x8_1 + 1))) else (none)) = some r := by rw [if_pos rfl] at H; exact H
            clear H
            have H := H1
            clear H1
            by_cases c7 : x3_1.length < 17592186044416
            · rw [if_pos c7] at H
              have LMc7 := ak c7
              clear c7
              obtain ⟨y147, hy147⟩ : ∃ y_ : List Int, y_ = (x3_1 ++ [x8_1]) := ⟨_, rfl⟩
              replace H : (precedence_indices.l0 k1 y147 l0 (l0.length : Int) (wrap64 (x8_1 + 1))) = some r := by (rw [hy147]; with_reducible exact H)
              have Ny147 := ak hy147
              clear hy147
              have H' := ak H
              clear H
              have p146 : 0 ≤ (x8_1 : Int) := od_
              have q146 : x8_1 < (l0.length : Int) := od_
              obtain ⟨ad146, e146, hx146_0⟩ := Kd.at_bool HR0.1 x8_1 p146 q146
              (try rw [← Nbq5.1] at hx146_0)
              cases e146
              replace hx146_0 := (hc_ HB hx146_0).trans hx146_0
              replace p146 := eq_true p146
              replace q146 := eq_true q146
              go_wp2_with (first | ((with_reducible refine gate_builtin (b := .append) (xs := #[.tmp 14, .tmp 16]) rfl ?_); at_builtin; refine Kd.R_append (Kd.int .i64) (w0 := w) w.heap.size rfl (.tmp 14) (.tmp 16) 27 3 (.int .i64 0) 8 rfl Try.underlying27 info3 rfl (by decide) (by omega) u3 x3_1 x8_1 [.int .i64 x8_1] (fun _ => True) (fun _ => False) rfl rfl ?aP (fun _ hk => hk.elim) ?aF ?aO ?aB ?aS ?aL ?_; (case aP => exact rfl); (case aB => exact HB.1); (case aF => exact (fun _ _ => trivial)); (case aO => exact (by exact HO_3.1)); (case aS => exact (below_size HB.1)); (case aL => have := LMc7.1; omega); intro v148 w8 ho hb hg hat; rw [← Ny147.1] at ho; have n0_ := ak (hb); have n1_ := ak (ho); clear HB; clear HO_3; have HB := n0_; have HO149 := n1_; clear n0_ n1_; clear ho hb hg hat))
              go_roundg k1
              case measure => have := HK1.1; omega
              case rel => exact ⟨(y147), (wrap64 (x8_1 + 1)), (by rfl), H', ⟨by have := HK1.1; omega⟩, ⟨by exact HO149.1⟩, ⟨by repeat (with_reducible exact HB.1)⟩⟩
            rw [if_neg c7] at H
            exact absurd H (by simp)
          replace c6 := Bool.eq_false_iff.mpr c6
          subst c6
          have H1 : (precedence_indices.l0 k1 x3_1 l0 (l0.length : Int) (wrap64 (x8_1 + 1))) = some r := by rw [if_neg (show ¬ (false = true) by decide)] at H; exact H
          clear H
          have H := H1
          clear H1
          have H' := ak H
          clear H
          have p146 : 0 ≤ (x8_1 : Int) := od_
          have q146 : x8_1 < (l0.length : Int) := od_
          obtain ⟨ad146, e146, hx146_0⟩ := Kd.at_bool HR0.1 x8_1 p146 q146
          (try rw [← Nbq5.1] at hx146_0)
          cases e146
          replace hx146_0 := (hc_ HB hx146_0).trans hx146_0
          replace p146 := eq_true p146
          replace q146 := eq_true q146
          go_wp2
          go_roundg k1
          case measure => have := HK1.1; omega
          case rel => exact ⟨(x3_1), (wrap64 (x8_1 + 1)), (by rfl), H', ⟨by have := HK1.1; omega⟩, ⟨by exact HO_3.1⟩, ⟨by repeat (with_reducible exact HB.1)⟩⟩
        rw [if_neg c4] at H
        exact absurd H (by simp)
      rw [if_neg c3] at H
      exact absurd H (by simp)
    rw [if_neg c2] at H
    have c2b0 : decide (x8_1 < (l0.length : Int)) = false := decide_eq_false c2
    clear c2
    obtain rfl := Option.some.inj H
    go_wp2
    go_ret
    exact ⟨_, by rfl, by exact HO_3.1, by repeat (with_reducible exact HB.1)⟩

end Go.Proofs.Ytecbmcheojolnaa.XA
