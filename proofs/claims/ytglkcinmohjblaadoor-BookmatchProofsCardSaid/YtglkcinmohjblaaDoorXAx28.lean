import Derived.Test.YtglkcinmohjblaaDoorXAx13
import Derived.Test.YtglkcinmohjblaaDoorXAx27
namespace Go.Proofs.YtglkcinmohjblaaDoor.XA
open Go.RowKit Opens YtglkcinmohjblaaDoorW.PrintWords YtglkcinmohjblaaDoorW.PrintLast YtglkcinmohjblaaDoorW.PrintMore
attribute [local go_sem] max2_int min2_int max_two min_two max_three min_three max_four min_four cell_some cell_same
set_option linter.unusedVariables false
set_option linter.unusedSimpArgs false

def m_Book.l0 : Nat → List (S62) → List (S39) → Int → Int → Option ((List (S39)) × Int × Int)
  | 0, _, _, _, _ => none
  | k + 1, x0, x6, x14, x15 => if x15 < x14 then (if x6.length < 8796093022208 then (m_Book.l0 k x0 (x6 ++ [(⟨x15, ((Int.tmod x15 2) == 1)⟩ : S39)]) x14 (wrap64 (x15 + 1))) else (none)) else ((m_cost.f k x0 x6).bind fun t274 => (some (x6, t274, 0)))
def m_Book.f (k : Nat) (l0 : List (S62)) : Option ((List (S39)) × Int × Int) := (m_check.f k l0).bind fun t270 => (if t270 = 0 then (m_Book.l0 k l0 ([] : List (S39)) (l0.length : Int) 0) else (some (([] : List (S39)), 0, t270)))
theorem m_Book.mono_l : ∀ k, (∀ y0 y1 y2 y3, LeO (m_Book.l0 k y0 y1 y2 y3) (m_Book.l0 (k + 1) y0 y1 y2 y3))
  | 0 => fun _ _ _ _ r h => by simp [m_Book.l0] at h
  | k + 1 => by
    have ih0 := m_Book.mono_l k
    intro y0 y1 y2 y3
    unfold m_Book.l0
    repeat' first
    | (with_reducible exact ih0 _ _ _ _)
    | (with_reducible exact m_cost.mono _ _ _)
    | (with_reducible exact LeO.refl _)
    | (with_reducible refine LeO.ite ?_ ?_)
    | (with_reducible refine LeO.bind ?_ (fun _ => ?_))
      
theorem m_Book.mono : ∀ a0 k, LeO (m_Book.f k a0) (m_Book.f (k + 1) a0) := by
  intro a0 k
  have ih0 := m_Book.mono_l k
  unfold m_Book.f
  repeat' first
      | (with_reducible exact ih0 _ _ _ _)
      | (with_reducible exact m_check.mono _ _)
      | (with_reducible exact LeO.refl _)
      | (with_reducible refine LeO.ite ?_ ?_)
      | (with_reducible refine LeO.bind ?_ (fun _ => ?_))
      
set_option maxHeartbeats 8000000 in
set_option maxRecDepth 100000 in
theorem m_Book.calls (k : Nat) (A0 : Option Addr) (c0 : Nat) (l0 : List (S62)) (r1 : List (S39)) (r2 : Int) (r3 : Int) (w : World) (hr0 : Kd.C k62 w A0 l0.length l0) (hc0 : l0.length ≤ c0) (h : m_Book.f k l0 = some (r1, r2, r3)) :
    Calls Tryd.prog 22 #[.slice A0 l0.length c0] w fun e w' => ∃ v0_ : Value, e = .returned (.tuple #[v0_, .int .i64 r2, .int .i64 r3]) ∧ Kd.R k39 39 w' w.heap.size (fun _ => True) v0_ r1 ∧ Below w.heap.size w w' := by
  have hu39 := Tryd.underlying39
  have HR0 := ak hr0
  have HC0 := ak hc0
  clear hr0 hc0
  have HB := ak (Below.refl w.heap.size w)
  have H : ((m_check.f k l0).bind fun t270 => (if t270 = 0 then (m_Book.l0 k l0 ([] : List (S39)) (l0.length : Int) 0) else (some (([] : List (S39)), 0, t270)))) = some (r1, r2, r3) := h
  clear h
  replace H := Option.bind_eq_some_iff.mp H
  obtain ⟨t270, A20, H⟩ := H
  replace H : (if t270 = 0 then (m_Book.l0 k l0 ([] : List (S39)) (l0.length : Int) 0) else (some (([] : List (S39)), 0, t270))) = some (r1, r2, r3) := H
  have A2 := ak A20
  clear A20
  by_cases c3 : t270 = 0
  · rw [if_pos c3] at H
    have c3b0 : (t270 == 0) = true := beq_iff_eq.mpr c3
    have c3b1 : (t270 != 0) = false := bne_eq_false_iff_eq.mpr c3
    clear c3
    have H' := ak H
    clear H
    go_enter Tryd.func22, Tryd.ntmps22
    go_wp2_with (first | ((with_reducible refine gate_callee (f := 34) rfl ?_); refine goesL_ (some 9) rfl rfl Tryd.func34 (by kernel_rfl) rfl #[.slice A0 l0.length c0] rfl am_ ?_; (with_reducible refine (m_check.calls k (fun k_ => k_ < w.heap.size) _ _ l0 t270 _ ?side1 A2.1).mono ?_); (case side1 => exact Kd.V_mk HC0.1 (Kd.F_below (Kd.C_F k62_heap HR0.1) HB.1)); rintro e w4 ⟨rfl, hb⟩; refine ⟨_, rfl, ?_⟩; have n0_ := ak (below_step HB.1 hb); clear HB; have HB := n0_; clear n0_; (try clear hb)))
    go_loopg [6, 15] k (fun kq v6 v15 w' => ∃ (x6_1 : List (S39)) (x15_1 : Int), v15 = .int .i64 x15_1 ∧ Aside0 (m_Book.l0 kq l0 x6_1 (l0.length : Int) x15_1 = some (r1, r2, r3)) ∧ Aside0 (kq ≤ k) ∧ Aside0 (Kd.R k39 39 w' w.heap.size (fun _ => True) v6 x6_1) ∧ Aside0 (Below w.heap.size w w'))
    case atStart => exact ⟨(([] : List (S39))), (0), (by rfl), H', ⟨Nat.le_refl _⟩, ⟨by exact Kd.R_nil _ _ _ _ _⟩, ⟨by repeat (with_reducible exact HB.1)⟩⟩
    clear H'
    try clear c3b0
    try clear c3b1
    obtain ⟨x6_1, x15_1, rfl, HA, HK1, HO_6, HB⟩ := hrel
    cases gk with
    | zero => exact absurd HA.1 (by simp [m_Book.l0])
    | succ k1 =>
      have H := HA.1
      clear HA
      simp only [m_Book.l0] at H
      by_cases c5 : x15_1 < (l0.length : Int)
      · rw [if_pos c5] at H
        have c5b0 : decide (x15_1 < (l0.length : Int)) = true := decide_eq_true c5
        clear c5
        by_cases c6 : x6_1.length < 8796093022208
        · rw [if_pos c6] at H
          have LMc6 := ak c6
          clear c6
          obtain ⟨y271, hy271⟩ : ∃ y_ : List (S39), y_ = (x6_1 ++ [(⟨x15_1, ((Int.tmod x15_1 2) == 1)⟩ : S39)]) := ⟨_, rfl⟩
          replace H : (m_Book.l0 k1 l0 y271 (l0.length : Int) (wrap64 (x15_1 + 1))) = some (r1, r2, r3) := by (rw [hy271]; with_reducible exact H)
          have Ny271 := ak hy271
          clear hy271
          have H' := ak H
          clear H
          go_wp2_with (first | ((with_reducible refine gate_builtin (b := .append) (xs := #[.tmp 18, .tmp 24]) rfl ?_); at_builtin; refine Kd.R_append k39 (w0 := w) w.heap.size rfl (.tmp 18) (.tmp 24) 25 39 (.agg #[(.int .i64 0), (.bool false)]) 16 rfl Tryd.underlying25 info39 rfl (by decide) (by omega) u6 x6_1 (⟨x15_1, ((Int.tmod x15_1 2) == 1)⟩ : S39) [.int .i64 x15_1, .bool ((Int.tmod x15_1 2) == 1)] (fun _ => True) (fun _ => False) rfl rfl ?aP (fun _ hk => hk.elim) ?aF ?aO ?aB ?aS ?aL ?_; (case aP => exact k39_mkM _ _ _ (⟨x15_1, ((Int.tmod x15_1 2) == 1)⟩ : S39)); (case aB => exact HB.1); (case aF => exact (fun _ _ => trivial)); (case aO => exact (by exact HO_6.1)); (case aS => exact (below_size HB.1)); (case aL => have := LMc6.1; omega); intro v272 w7 ho hb hg hat; rw [← Ny271.1] at ho; have n0_ := ak (hb); have n1_ := ak (ho); clear HB; clear HO_6; have HB := n0_; have HO273 := n1_; clear n0_ n1_; clear ho hb hg hat))
          go_roundg k1
          case measure => have := HK1.1; omega
          case rel => exact ⟨(y271), (wrap64 (x15_1 + 1)), (by rfl), H', ⟨by have := HK1.1; omega⟩, ⟨by exact HO273.1⟩, ⟨by repeat (with_reducible exact HB.1)⟩⟩
        rw [if_neg c6] at H
        exact absurd H (by simp)
      rw [if_neg c5] at H
      have c5b0 : decide (x15_1 < (l0.length : Int)) = false := decide_eq_false c5
      clear c5
      replace H := Option.bind_eq_some_iff.mp H
      obtain ⟨t274, A80, H⟩ := H
      replace H : (some (x6_1, t274, 0)) = some (r1, r2, r3) := H
      have A8 := ak A80
      clear A80
      simp only [Option.some.injEq, Prod.mk.injEq] at H
      obtain ⟨rfl, rfl, rfl⟩ := H
      obtain ⟨Ao9, co9, eo9⟩ := Kd.R_slice HO_6.1
      subst eo9
      go_wp2_with (first | ((with_reducible refine gate_callee (f := 41) rfl ?_); refine goesL_ (some 30) rfl rfl Tryd.func41 (by kernel_rfl) rfl #[.slice A0 l0.length c0, .slice Ao9 x6_1.length co9] rfl am_ ?_; (with_reducible refine (m_cost.calls k1 _ _ l0 _ _ x6_1 t274 _ ?side1 ?side2 ?side3 ?side4 A8.1).mono ?_); (case side1 => exact (Kd.C_below HR0.1 HB.1)); (case side2 => exact HC0.1); (case side3 => exact (Kd.R_reads' HO_6.1).2.2); (case side4 => exact (Kd.R_reads' HO_6.1).2.1); rintro e w10 ⟨rfl, hb⟩; refine ⟨_, rfl, ?_⟩; have n0_ := ak (Kd.R_below (by exact HO_6.1) hb); have n1_ := ak (below_step HB.1 hb); clear HO_6; clear HB; have HO_6 := n0_; have HB := n1_; clear n0_ n1_; (try clear hb)))
      go_ret3
      exact ⟨_, by rfl, by exact HO_6.1, by repeat (with_reducible exact HB.1)⟩
  rw [if_neg c3] at H
  have c3b0 : (t270 == 0) = false := beq_eq_false_iff_ne.mpr c3
  have c3b1 : (t270 != 0) = true := bne_iff_ne.mpr c3
  simp only [Option.some.injEq, Prod.mk.injEq] at H
  obtain ⟨rfl, rfl, rfl⟩ := H
  go_enter Tryd.func22, Tryd.ntmps22
  go_wp2_with (first | ((with_reducible refine gate_callee (f := 34) rfl ?_); refine goesL_ (some 9) rfl rfl Tryd.func34 (by kernel_rfl) rfl #[.slice A0 l0.length c0] rfl am_ ?_; (with_reducible refine (m_check.calls k (fun k_ => k_ < w.heap.size) _ _ l0 t270 _ ?side1 A2.1).mono ?_); (case side1 => exact Kd.V_mk HC0.1 (Kd.F_below (Kd.C_F k62_heap HR0.1) HB.1)); rintro e w11 ⟨rfl, hb⟩; refine ⟨_, rfl, ?_⟩; have n0_ := ak (below_step HB.1 hb); clear HB; have HB := n0_; clear n0_; (try clear hb)))
  go_ret3
  exact ⟨_, by rfl, by exact Kd.R_nil _ _ _ _ _, by repeat (with_reducible exact HB.1)⟩

end Go.Proofs.YtglkcinmohjblaaDoor.XA
