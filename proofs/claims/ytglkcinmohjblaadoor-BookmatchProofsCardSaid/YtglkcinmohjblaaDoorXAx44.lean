import Derived.Test.YtglkcinmohjblaaDoorXAx0
namespace Go.Proofs.YtglkcinmohjblaaDoor.XA
open Go.RowKit Opens YtglkcinmohjblaaDoorW.PrintWords YtglkcinmohjblaaDoorW.PrintLast YtglkcinmohjblaaDoorW.PrintMore
attribute [local go_sem] max2_int min2_int max_two min_two max_three min_three max_four min_four cell_some cell_same
set_option linter.unusedVariables false
set_option linter.unusedSimpArgs false

def rf_Book.l0 : Nat → List (S62) → List (S68) → Int → Option ((List (S68)))
  | 0, _, _, _ => none
  | k + 1, x0, x3, x4 => if x4 < (x0.length : Int) then (if x3.length < 8796093022208 then (rf_Book.l0 k x0 (x3 ++ [(⟨x4, ((Int.tmod x4 2) == 1)⟩ : S68)]) (wrap64 (x4 + 1))) else (none)) else (some x3)
def rf_Book.f (k : Nat) (l0 : List (S62)) : Option ((List (S68))) := rf_Book.l0 k l0 (([] : List (S68))) 0
theorem rf_Book.mono_l : ∀ k, (∀ y0 y1 y2, LeO (rf_Book.l0 k y0 y1 y2) (rf_Book.l0 (k + 1) y0 y1 y2))
  | 0 => fun _ _ _ r h => by simp [rf_Book.l0] at h
  | k + 1 => by
    have ih0 := rf_Book.mono_l k
    intro y0 y1 y2
    unfold rf_Book.l0
    repeat' first
    | (with_reducible exact ih0 _ _ _)
    | (with_reducible exact LeO.refl _)
    | (with_reducible refine LeO.ite ?_ ?_)
      
theorem rf_Book.mono : ∀ a0 k, LeO (rf_Book.f k a0) (rf_Book.f (k + 1) a0) := by
  intro a0 k
  have ih0 := rf_Book.mono_l k
  unfold rf_Book.f
  repeat' (with_reducible exact ih0 _ _ _)
set_option maxHeartbeats 8000000 in
set_option maxRecDepth 100000 in
theorem rf_Book.calls (k : Nat) (A0 : Option Addr) (c0 : Nat) (l0 : List (S62)) (r : List (S68)) (w : World) (hr0 : Kd.C k62 w A0 l0.length l0) (hc0 : l0.length ≤ c0) (h : rf_Book.f k l0 = some r) :
    Calls Tryd.prog 24 #[.slice A0 l0.length c0] w fun e w' => ∃ v0_ : Value, e = .returned (v0_) ∧ Kd.R k68 68 w' w.heap.size (fun _ => True) v0_ r ∧ Below w.heap.size w w' := by
  have hu68 := Tryd.underlying68
  have HR0 := ak hr0
  have HC0 := ak hc0
  clear hr0 hc0
  have HB := ak (Below.refl w.heap.size w)
  have H : (rf_Book.l0 k l0 (([] : List (S68))) 0) = some r := h
  clear h
  obtain ⟨y438, hy438⟩ : ∃ y_ : List (S68), y_ = (([] : List (S68))) := ⟨_, rfl⟩
  replace H : (rf_Book.l0 k l0 y438 0) = some r := by (rw [hy438]; with_reducible exact H)
  have Ny438 := ak hy438
  clear hy438
  have H' := ak H
  clear H
  go_enter Tryd.func24, Tryd.ntmps24
  go_wp2_with (first | ((with_reducible refine gate_dst (N := 5) rfl ?_); refine Kd.R_lit k68 _ 68 ?hg (N := 5) ?hd (xs := ([] : List (S68))) (inner := []) (ok := fun _ => True) (okp := fun _ => True) ?hr ?hp (fun _ hk => hk) trivial (Below.refl _ _) (Nat.le_refl _) (by simp) ?_; (case hd => rfl); (case hg => rfl); (case hr => (go_simp; done)); (case hp => exact (Reps.none _ _)); intro v439 w2 ho3 hb hg_ hnew_; clear hg_ hnew_; (rw [← Ny438.1] at ho3); have n0_ := ak (Kd.R_lower ho3 (below_size HB.1)); have n1_ := ak (below_step HB.1 hb); clear HB; have HO440 := n0_; have HB := n1_; clear n0_ n1_; clear hb ho3))
  go_loopg [3, 4] k (fun kq v3 v4 w' => ∃ (x3_1 : List (S68)) (x4_1 : Int), v4 = .int .i64 x4_1 ∧ Aside0 (rf_Book.l0 kq l0 x3_1 x4_1 = some r) ∧ Aside0 (kq ≤ k) ∧ Aside0 (Kd.R k68 68 w' w.heap.size (fun _ => True) v3 x3_1) ∧ Aside0 (Below w.heap.size w w'))
  case atStart => exact ⟨(y438), (0), (by rfl), H', ⟨Nat.le_refl _⟩, ⟨by exact HO440.1⟩, ⟨by repeat (with_reducible exact HB.1)⟩⟩
  clear H'
  obtain ⟨x3_1, x4_1, rfl, HA, HK1, HO_3, HB⟩ := hrel
  cases gk with
  | zero => exact absurd HA.1 (by simp [rf_Book.l0])
  | succ k1 =>
    have H := HA.1
    clear HA
    simp only [rf_Book.l0] at H
    by_cases c4 : x4_1 < (l0.length : Int)
    · rw [if_pos c4] at H
      have c4b0 : decide (x4_1 < (l0.length : Int)) = true := decide_eq_true c4
      clear c4
      by_cases c5 : x3_1.length < 8796093022208
      · rw [if_pos c5] at H
        have LMc5 := ak c5
        clear c5
        obtain ⟨y441, hy441⟩ : ∃ y_ : List (S68), y_ = (x3_1 ++ [(⟨x4_1, ((Int.tmod x4_1 2) == 1)⟩ : S68)]) := ⟨_, rfl⟩
        replace H : (rf_Book.l0 k1 l0 y441 (wrap64 (x4_1 + 1))) = some r := by (rw [hy441]; with_reducible exact H)
        have Ny441 := ak hy441
        clear hy441
        have H' := ak H
        clear H
        go_wp2_with (first | ((with_reducible refine gate_builtin (b := .append) (xs := #[.tmp 12, .tmp 18]) rfl ?_); at_builtin; refine Kd.R_append k68 (w0 := w) w.heap.size rfl (.tmp 12) (.tmp 18) 30 68 (.agg #[(.int .i64 0), (.bool false)]) 16 rfl Tryd.underlying30 info68 rfl (by decide) (by omega) u3 x3_1 (⟨x4_1, ((Int.tmod x4_1 2) == 1)⟩ : S68) [.int .i64 x4_1, .bool ((Int.tmod x4_1 2) == 1)] (fun _ => True) (fun _ => False) rfl rfl ?aP (fun _ hk => hk.elim) ?aF ?aO ?aB ?aS ?aL ?_; (case aP => exact k68_mkM _ _ _ (⟨x4_1, ((Int.tmod x4_1 2) == 1)⟩ : S68)); (case aB => exact HB.1); (case aF => exact (fun _ _ => trivial)); (case aO => exact (by exact HO_3.1)); (case aS => exact (below_size HB.1)); (case aL => have := LMc5.1; omega); intro v442 w6 ho hb hg hat; rw [← Ny441.1] at ho; have n0_ := ak (hb); have n1_ := ak (ho); clear HB; clear HO_3; have HB := n0_; have HO443 := n1_; clear n0_ n1_; clear ho hb hg hat))
        go_roundg k1
        case measure => have := HK1.1; omega
        case rel => exact ⟨(y441), (wrap64 (x4_1 + 1)), (by rfl), H', ⟨by have := HK1.1; omega⟩, ⟨by exact HO443.1⟩, ⟨by repeat (with_reducible exact HB.1)⟩⟩
      rw [if_neg c5] at H
      exact absurd H (by simp)
    rw [if_neg c4] at H
    have c4b0 : decide (x4_1 < (l0.length : Int)) = false := decide_eq_false c4
    clear c4
    obtain rfl := Option.some.inj H
    go_wp2
    go_ret
    exact ⟨_, by rfl, by exact HO_3.1, by repeat (with_reducible exact HB.1)⟩

end Go.Proofs.YtglkcinmohjblaaDoor.XA
