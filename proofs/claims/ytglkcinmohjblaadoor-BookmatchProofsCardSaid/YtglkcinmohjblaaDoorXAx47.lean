import Derived.Test.YtglkcinmohjblaaDoorXAx42
namespace Go.Proofs.YtglkcinmohjblaaDoor.XA
open Go.RowKit Opens YtglkcinmohjblaaDoorW.PrintWords YtglkcinmohjblaaDoorW.PrintLast YtglkcinmohjblaaDoorW.PrintMore
attribute [local go_sem] max2_int min2_int max_two min_two max_three min_three max_four min_four cell_some cell_same
set_option linter.unusedVariables false
set_option linter.unusedSimpArgs false

def rf_Proof.l0 : Nat → List (S62) → List (S51) → Int → Option ((List (S51)))
  | 0, _, _, _ => none
  | k + 1, x0, x3, x4 => if x4 < (x0.length : Int) then ((rf_Least.f k x0 x4 false).bind fun t517 => ((rf_Least.f k x0 x4 true).bind fun t518 => (if x3.length < 8796093022208 then (rf_Proof.l0 k x0 (x3 ++ [(⟨t517, t518⟩ : S51)]) (wrap64 (x4 + 1))) else (none)))) else (some x3)
def rf_Proof.f (k : Nat) (l0 : List (S62)) : Option ((List (S51))) := rf_Proof.l0 k l0 (([] : List (S51))) 0
theorem rf_Proof.mono_l : ∀ k, (∀ y0 y1 y2, LeO (rf_Proof.l0 k y0 y1 y2) (rf_Proof.l0 (k + 1) y0 y1 y2))
  | 0 => fun _ _ _ r h => by simp [rf_Proof.l0] at h
  | k + 1 => by
    have ih0 := rf_Proof.mono_l k
    intro y0 y1 y2
    unfold rf_Proof.l0
    repeat' first
    | (with_reducible exact ih0 _ _ _)
    | (with_reducible exact rf_Least.mono _ _ _ _)
    | (with_reducible exact LeO.refl _)
    | (with_reducible refine LeO.ite ?_ ?_)
    | (with_reducible refine LeO.bind ?_ (fun _ => ?_))
      
theorem rf_Proof.mono : ∀ a0 k, LeO (rf_Proof.f k a0) (rf_Proof.f (k + 1) a0) := by
  intro a0 k
  have ih0 := rf_Proof.mono_l k
  unfold rf_Proof.f
  repeat' (with_reducible exact ih0 _ _ _)
set_option maxHeartbeats 8000000 in
set_option maxRecDepth 100000 in
theorem rf_Proof.calls (k : Nat) (A0 : Option Addr) (c0 : Nat) (l0 : List (S62)) (r : List (S51)) (w : World) (hr0 : Kd.C k62 w A0 l0.length l0) (hc0 : l0.length ≤ c0) (h : rf_Proof.f k l0 = some r) :
    Calls Tryd.prog 28 #[.slice A0 l0.length c0] w fun e w' => ∃ v0_ : Value, e = .returned (v0_) ∧ Kd.R k51 51 w' w.heap.size (fun _ => True) v0_ r ∧ Below w.heap.size w w' := by
  have hu51 := Tryd.underlying51
  have HR0 := ak hr0
  have HC0 := ak hc0
  clear hr0 hc0
  have HB := ak (Below.refl w.heap.size w)
  have H : (rf_Proof.l0 k l0 (([] : List (S51))) 0) = some r := h
  clear h
  obtain ⟨y514, hy514⟩ : ∃ y_ : List (S51), y_ = (([] : List (S51))) := ⟨_, rfl⟩
  replace H : (rf_Proof.l0 k l0 y514 0) = some r := by (rw [hy514]; with_reducible exact H)
  have Ny514 := ak hy514
  clear hy514
  have H' := ak H
  clear H
  go_enter Tryd.func28, Tryd.ntmps28
  go_wp2_with (first | ((with_reducible refine gate_dst (N := 5) rfl ?_); refine Kd.R_lit k51 _ 51 ?hg (N := 5) ?hd (xs := ([] : List (S51))) (inner := []) (ok := fun _ => True) (okp := fun _ => True) ?hr ?hp (fun _ hk => hk) trivial (Below.refl _ _) (Nat.le_refl _) (by simp) ?_; (case hd => rfl); (case hg => rfl); (case hr => (go_simp; done)); (case hp => exact (Reps.none _ _)); intro v515 w2 ho3 hb hg_ hnew_; clear hg_ hnew_; (rw [← Ny514.1] at ho3); have n0_ := ak (Kd.R_lower ho3 (below_size HB.1)); have n1_ := ak (below_step HB.1 hb); clear HB; have HO516 := n0_; have HB := n1_; clear n0_ n1_; clear hb ho3))
  go_loopg [3, 4] k (fun kq v3 v4 w' => ∃ (x3_1 : List (S51)) (x4_1 : Int), v4 = .int .i64 x4_1 ∧ Aside0 (rf_Proof.l0 kq l0 x3_1 x4_1 = some r) ∧ Aside0 (kq ≤ k) ∧ Aside0 (Kd.R k51 51 w' w.heap.size (fun _ => True) v3 x3_1) ∧ Aside0 (Below w.heap.size w w'))
  case atStart => exact ⟨(y514), (0), (by rfl), H', ⟨Nat.le_refl _⟩, ⟨by exact HO516.1⟩, ⟨by repeat (with_reducible exact HB.1)⟩⟩
  clear H'
  obtain ⟨x3_1, x4_1, rfl, HA, HK1, HO_3, HB⟩ := hrel
  cases gk with
  | zero => exact absurd HA.1 (by simp [rf_Proof.l0])
  | succ k1 =>
    have H := HA.1
    clear HA
    simp only [rf_Proof.l0] at H
    by_cases c4 : x4_1 < (l0.length : Int)
    · rw [if_pos c4] at H
      have c4b0 : decide (x4_1 < (l0.length : Int)) = true := decide_eq_true c4
      clear c4
      replace H := Option.bind_eq_some_iff.mp H
      obtain ⟨t517, A50, H⟩ := H
      replace H : ((rf_Least.f k1 l0 x4_1 true).bind fun t518 => (if x3_1.length < 8796093022208 then (rf_Proof.l0 k1 l0 (x3_1 ++ [(⟨t517, t518⟩ : S51)]) (wrap64 (x4_1 + 1))) else (none))) = some r := H
      have A5 := ak A50
      clear A50
      replace H := Option.bind_eq_some_iff.mp H
      obtain ⟨t518, A60, H⟩ := H
      replace H : (if x3_1.length < 8796093022208 then (rf_Proof.l0 k1 l0 (x3_1 ++ [(⟨t517, t518⟩ : S51)]) (wrap64 (x4_1 + 1))) else (none)) = some r := H
      have A6 := ak A60
      clear A60
      by_cases c7 : x3_1.length < 8796093022208
      · rw [if_pos c7] at H
        have LMc7 := ak c7
        clear c7
        obtain ⟨y519, hy519⟩ : ∃ y_ : List (S51), y_ = (x3_1 ++ [(⟨t517, t518⟩ : S51)]) := ⟨_, rfl⟩
        replace H : (rf_Proof.l0 k1 l0 y519 (wrap64 (x4_1 + 1))) = some r := by (rw [hy519]; with_reducible exact H)
        have Ny519 := ak hy519
        clear hy519
        have H' := ak H
        clear H
        go_wp2_with (first | ((with_reducible refine gate_callee (f := 42) rfl ?_); refine goesL_ (some 15) rfl rfl Tryd.func42 (by kernel_rfl) rfl #[.slice A0 l0.length c0, .int .i64 x4_1, .bool false] rfl am_ ?_; (with_reducible refine (rf_Least.calls k1 _ _ l0 x4_1 false t517 _ ?side1 ?side2 A5.1).mono ?_); (case side1 => exact (Kd.C_below HR0.1 HB.1)); (case side2 => exact HC0.1); rintro e w8 ⟨rfl, hb⟩; refine ⟨_, rfl, ?_⟩; have n0_ := ak (Kd.R_below (by exact HO_3.1) hb); have n1_ := ak (below_step HB.1 hb); clear HO_3; clear HB; have HO_3 := n0_; have HB := n1_; clear n0_ n1_; (try clear hb)) | ((with_reducible refine gate_callee (f := 42) rfl ?_); refine goesL_ (some 18) rfl rfl Tryd.func42 (by kernel_rfl) rfl #[.slice A0 l0.length c0, .int .i64 x4_1, .bool true] rfl am_ ?_; (with_reducible refine (rf_Least.calls k1 _ _ l0 x4_1 true t518 _ ?side1 ?side2 A6.1).mono ?_); (case side1 => exact (Kd.C_below HR0.1 HB.1)); (case side2 => exact HC0.1); rintro e w9 ⟨rfl, hb⟩; refine ⟨_, rfl, ?_⟩; have n0_ := ak (Kd.R_below (by exact HO_3.1) hb); have n1_ := ak (below_step HB.1 hb); clear HO_3; clear HB; have HO_3 := n0_; have HB := n1_; clear n0_ n1_; (try clear hb)) | ((with_reducible refine gate_builtin (b := .append) (xs := #[.tmp 12, .tmp 20]) rfl ?_); at_builtin; refine Kd.R_append k51 (w0 := w) w.heap.size rfl (.tmp 12) (.tmp 20) 46 51 (.agg #[(.int .i64 0), (.int .i64 0)]) 16 rfl Tryd.underlying46 info51 rfl (by decide) (by omega) u3 x3_1 (⟨t517, t518⟩ : S51) [.int .i64 t517, .int .i64 t518] (fun _ => True) (fun _ => False) rfl rfl ?aP (fun _ hk => hk.elim) ?aF ?aO ?aB ?aS ?aL ?_; (case aP => exact k51_mkM _ _ _ (⟨t517, t518⟩ : S51)); (case aB => exact HB.1); (case aF => exact (fun _ _ => trivial)); (case aO => exact (by exact HO_3.1)); (case aS => exact (below_size HB.1)); (case aL => have := LMc7.1; omega); intro v520 w10 ho hb hg hat; rw [← Ny519.1] at ho; have n0_ := ak (hb); have n1_ := ak (ho); clear HB; clear HO_3; have HB := n0_; have HO521 := n1_; clear n0_ n1_; clear ho hb hg hat))
        go_roundg k1
        case measure => have := HK1.1; omega
        case rel => exact ⟨(y519), (wrap64 (x4_1 + 1)), (by rfl), H', ⟨by have := HK1.1; omega⟩, ⟨by exact HO521.1⟩, ⟨by repeat (with_reducible exact HB.1)⟩⟩
      rw [if_neg c7] at H
      exact absurd H (by simp)
    rw [if_neg c4] at H
    have c4b0 : decide (x4_1 < (l0.length : Int)) = false := decide_eq_false c4
    clear c4
    obtain rfl := Option.some.inj H
    go_wp2
    go_ret
    exact ⟨_, by rfl, by exact HO_3.1, by repeat (with_reducible exact HB.1)⟩

end Go.Proofs.YtglkcinmohjblaaDoor.XA
