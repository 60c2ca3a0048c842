import Derived.Test.YtglkcinmohjblaaDoorXAx0
namespace Go.Proofs.YtglkcinmohjblaaDoor.XA
open Go.RowKit Opens YtglkcinmohjblaaDoorW.PrintWords YtglkcinmohjblaaDoorW.PrintLast YtglkcinmohjblaaDoorW.PrintMore
attribute [local go_sem] max2_int min2_int max_two min_two max_three min_three max_four min_four cell_some cell_same
set_option linter.unusedVariables false
set_option linter.unusedSimpArgs false

def m_way.f (a0 : Bool) : Option (Int) := if a0 = true then (some 1) else (some 0)
set_option maxHeartbeats 8000000 in
set_option maxRecDepth 100000 in
theorem m_way.calls (a0 : Bool) (r : Int) (w : World) (h : m_way.f a0 = some r) :
    Calls Tryd.prog 38 #[.bool a0] w fun e w' => e = .returned (.int .i64 r) ∧ Drawn0 w w' := by
  have H : (if a0 = true then (some 1) else (some 0)) = some r := h
  clear h
  by_cases c2 : a0 = true
  · subst c2
    have H1 : (some 1) = some r := by rw [if_pos rfl] at H; exact H
    clear H
    have H := H1
    clear H1
    obtain rfl := Option.some.inj H
    go_enter Tryd.func38, Tryd.ntmps38
    go_wp2
    go_ret
    exact ⟨by rfl, by exact Drawn0.refl _⟩
  replace c2 := Bool.eq_false_iff.mpr c2
  subst c2
  have H1 : (some 0) = some r := by rw [if_neg (show ¬ (false = true) by decide)] at H; exact H
  clear H
  have H := H1
  clear H1
  obtain rfl := Option.some.inj H
  go_enter Tryd.func38, Tryd.ntmps38
  go_wp2
  go_ret
  exact ⟨by rfl, by exact Drawn0.refl _⟩

def slices_Clone_int_int.f (l0 : List Int) : Option (List Int) := (some (([] : List Int) : List Int)).bind fun y129 => (if y129.length + l0.length < 17592186044416 then (some (y129 ++ l0)) else (none))
set_option maxHeartbeats 8000000 in
set_option maxRecDepth 100000 in
theorem slices_Clone_int_int.calls (A0 : Option Addr) (c0 : Nat) (l0 : List Int) (r : List Int) (w : World) (hr0 : Kd.C (Kd.int .i64) w A0 l0.length l0) (hc0 : l0.length ≤ c0) (h : slices_Clone_int_int.f l0 = some r) :
    Calls Tryd.prog 56 #[.slice A0 l0.length c0] w fun e w' => ∃ v0_ : Value, e = .returned (v0_) ∧ Kd.R (Kd.int .i64) 3 w' w.heap.size (fun _ => True) v0_ r ∧ Below w.heap.size w w' := by
  have hq_ : ∀ W : World, (binOp .eql 55 (.slice A0 l0.length c0) (.slice none 0 0)).run Tryd.prog W = .ok (.bool A0.isNone) W := fun W => _root_.Go.run_eql_slice_nil W 55 3 A0 l0.length c0 Tryd.underlying55
  by_cases hA_ : A0 = none
  · have hl_ : l0 = [] := by
      cases l0 with
      | nil => rfl
      | cons x_ t_ => obtain ⟨ad_, he_, _⟩ := hr0.2.2 (by simp); rw [hA_] at he_; cases he_
    subst hl_
    subst hA_
    obtain rfl : [] = r := by simpa [slices_Clone_int_int.f] using h
    clear h hr0 hc0
    have hq2_ : ∀ W : World, (binOp .eql 55 (.slice none 0 c0) (.slice none 0 0)).run Tryd.prog W = .ok (.bool true) W := hq_
    clear hq_
    show Calls Tryd.prog 56 #[.slice none 0 c0] w _
    go_enter Tryd.func56, Tryd.ntmps56
    go_wp2
    go_ret
    exact ⟨_, rfl, Kd.R_nil _ _ _ _ _, Below.refl _ _⟩
  rw [show A0.isNone = false by cases A0 with | none => exact absurd rfl hA_ | some a_ => rfl] at hq_
  clear hA_
  have HR0 := ak hr0
  have HC0 := ak hc0
  clear hr0 hc0
  have HB := ak (Below.refl w.heap.size w)
  have H : ((some (([] : List Int) : List Int)).bind fun y129 => (if y129.length + l0.length < 17592186044416 then (some (y129 ++ l0)) else (none))) = some r := h
  clear h
  obtain ⟨y129, hy129⟩ : ∃ y_ : List Int, y_ = (([] : List Int)) := ⟨_, rfl⟩
  replace H : (if y129.length + l0.length < 17592186044416 then (some (y129 ++ l0)) else (none)) = some r := by (have H2_ := (Option.bind_some _ _).symm.trans H; rw [hy129]; with_reducible exact H2_)
  have Ny129 := ak hy129
  clear hy129
  by_cases c2 : y129.length + l0.length < 17592186044416
  · rw [if_pos c2] at H
    have LMc2 := ak c2
    clear c2
    obtain ⟨y132, hy132⟩ : ∃ y_ : List Int, y_ = (y129 ++ l0) := ⟨_, rfl⟩
    replace H : (some y132) = some r := by (rw [hy132]; with_reducible exact H)
    have Ny132 := ak hy132
    clear hy132
    obtain rfl := Option.some.inj H
    go_enter Tryd.func56, Tryd.ntmps56
    go_wp2_with (first | ((with_reducible refine gate_dst (N := 5) rfl ?_); refine Kd.R_lit (Kd.int .i64) _ 3 ?hg (N := 5) ?hd (xs := ([] : List Int)) (inner := []) (ok := fun _ => True) (okp := fun _ => True) ?hr ?hp (fun _ hk => hk) trivial (Below.refl _ _) (Nat.le_refl _) (by simp) ?_; (case hd => rfl); (case hg => rfl); (case hr => (go_simp; done)); (case hp => exact (Reps.none _ _)); intro v130 w3 ho4 hb hg_ hnew_; clear hg_ hnew_; (rw [← Ny129.1] at ho4); have n0_ := ak (Kd.R_lower ho4 (below_size HB.1)); have n1_ := ak (below_step HB.1 hb); clear HB; have HO131 := n0_; have HB := n1_; clear n0_ n1_; clear hb ho4) | ((with_reducible refine gate_builtin (b := .append) (xs := #[.tmp 5, .tmp 6]) rfl ?_); at_builtin; refine Kd.R_append_rows (Kd.int .i64) (w0 := w) w.heap.size rfl (.tmp 5) (.tmp 6) 55 3 (.int .i64 0) 8 rfl Tryd.underlying55 info3 rfl (by decide) (by omega) v130 y129 l0 _ _ _ (fun _ => True) (fun _ => False) rfl rfl ?aO ?aR (fun _ _ h => h) (fun _ h => h.elim) ?aF ?aB ?aS ?aL ?_; (case aR => exact (Kd.C_below HR0.1 HB.1)); (case aB => exact HB.1); (case aF => exact (fun _ _ => trivial)); (case aO => exact (by exact HO131.1)); (case aS => exact (below_size HB.1)); (case aL => have := LMc2.1; omega); intro v133 w5 ho hb hg hat; rw [← Ny132.1] at ho; have n0_ := ak (hb); have n1_ := ak (ho); clear HB; clear HO131; have HB := n0_; have HO134 := n1_; clear n0_ n1_; clear ho hb hg hat))
    go_ret
    exact ⟨_, by rfl, by exact HO134.1, by repeat (with_reducible exact HB.1)⟩
  rw [if_neg c2] at H
  exact absurd H (by simp)

end Go.Proofs.YtglkcinmohjblaaDoor.XA
