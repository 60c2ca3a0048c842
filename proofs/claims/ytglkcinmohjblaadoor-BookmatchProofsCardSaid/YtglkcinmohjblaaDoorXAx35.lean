import Derived.Test.YtglkcinmohjblaaDoorXAx0
namespace Go.Proofs.YtglkcinmohjblaaDoor.XA
open Go.RowKit Opens YtglkcinmohjblaaDoorW.PrintWords YtglkcinmohjblaaDoorW.PrintLast YtglkcinmohjblaaDoorW.PrintMore
attribute [local go_sem] max2_int min2_int max_two min_two max_three min_three max_four min_four cell_some cell_same
set_option linter.unusedVariables false
set_option linter.unusedSimpArgs false

def rf_code.l0 : Nat → List Int → Int → ByteArray → ByteArray → Int → Int → Int → Int → Int → Int → Int → Int → List Int → List Int → Option (List Int)
  | 0, _, _, _, _, _, _, _, _, _, _, _, _, _, _ => none
  | k + 1, x5, x6, x371000, x371001, x371002, x371003, x371004, x371005, x371006, x371007, x371008, x371009, x371010, x371011 => if x6 ≥ 0 then (if 0 ≤ x6 then (if x6 < (x371011.length : Int) then (if x5.length < 17592186044416 then (rf_code.l0 k (x5 ++ [rd x371011 x6]) (wrap64 (x6 - 1)) x371000 x371001 x371002 x371003 x371004 x371005 x371006 x371007 x371008 x371009 x371010 x371011) else (none)) else (none)) else (none)) else (some x5)
def rf_code.f (k : Nat) (a0_0 : ByteArray) (a0_1 : ByteArray) (a0_2 : Int) (a0_3 : Int) (a0_4 : Int) (a0_5 : Int) (a0_6 : Int) (a0_7 : Int) (a0_8 : Int) (a0_9 : Int) (l0_10 : List Int) (l0_11 : List Int) (a1 : Bool) : Option (List Int) := if a1 = true then (rf_code.l0 k (([] : List Int)) (wrap64 ((l0_11.length : Int) - 1)) a0_0 a0_1 a0_2 a0_3 a0_4 a0_5 a0_6 a0_7 a0_8 a0_9 l0_10 l0_11) else (some l0_10)
theorem rf_code.mono_l : ∀ k, (∀ y0 y1 y2 y3 y4 y5 y6 y7 y8 y9 y10 y11 y12 y13, LeO (rf_code.l0 k y0 y1 y2 y3 y4 y5 y6 y7 y8 y9 y10 y11 y12 y13) (rf_code.l0 (k + 1) y0 y1 y2 y3 y4 y5 y6 y7 y8 y9 y10 y11 y12 y13))
  | 0 => fun _ _ _ _ _ _ _ _ _ _ _ _ _ _ r h => by simp [rf_code.l0] at h
  | k + 1 => by
    have ih0 := rf_code.mono_l k
    intro y0 y1 y2 y3 y4 y5 y6 y7 y8 y9 y10 y11 y12 y13
    unfold rf_code.l0
    repeat' first
    | (with_reducible exact ih0 _ _ _ _ _ _ _ _ _ _ _ _ _ _)
    | (with_reducible exact LeO.refl _)
    | (with_reducible refine LeO.ite ?_ ?_)
      
theorem rf_code.mono : ∀ a0 a1 a2 a3 a4 a5 a6 a7 a8 a9 a10 a11 a12 k, LeO (rf_code.f k a0 a1 a2 a3 a4 a5 a6 a7 a8 a9 a10 a11 a12) (rf_code.f (k + 1) a0 a1 a2 a3 a4 a5 a6 a7 a8 a9 a10 a11 a12) := by
  intro a0 a1 a2 a3 a4 a5 a6 a7 a8 a9 a10 a11 a12 k
  have ih0 := rf_code.mono_l k
  unfold rf_code.f
  repeat' first
      | (with_reducible exact ih0 _ _ _ _ _ _ _ _ _ _ _ _ _ _)
      | (with_reducible exact LeO.refl _)
      | (with_reducible refine LeO.ite ?_ ?_)
      
set_option maxHeartbeats 8000000 in
set_option maxRecDepth 100000 in
theorem rf_code.calls (k : Nat) (a0_0 : ByteArray) (a0_1 : ByteArray) (a0_2 : Int) (a0_3 : Int) (a0_4 : Int) (a0_5 : Int) (a0_6 : Int) (a0_7 : Int) (a0_8 : Int) (a0_9 : Int) (P0_10_ : Nat → Prop) (A0_10 : Option Addr) (c0_10 : Nat) (l0_10 : List Int) (A0_11 : Option Addr) (c0_11 : Nat) (l0_11 : List Int) (a1 : Bool) (r : List Int) (w : World) (hs0_10 : Kd.V (Kd.int .i64) 3 w w.heap.size (fun k_ => P0_10_ k_) (.slice A0_10 l0_10.length c0_10) l0_10) (hr0_11 : Kd.C (Kd.int .i64) w A0_11 l0_11.length l0_11) (hc0_11 : l0_11.length ≤ c0_11) (h : rf_code.f k a0_0 a0_1 a0_2 a0_3 a0_4 a0_5 a0_6 a0_7 a0_8 a0_9 l0_10 l0_11 a1 = some r) :
    Calls Tryd.prog 48 #[.agg #[.string a0_0, .string a0_1, .int .i64 a0_2, .int .i64 a0_3, .int .i64 a0_4, .int .i64 a0_5, .int .i64 a0_6, .int .i64 a0_7, .int .i64 a0_8, .int .i64 a0_9, .slice A0_10 l0_10.length c0_10, .slice A0_11 l0_11.length c0_11], .bool a1] w fun e w' => ∃ v0_ : Value, e = .returned (v0_) ∧ Kd.V (Kd.int .i64) 3 w' w.heap.size (fun k_ => (P0_10_ k_ ∨ w.heap.size ≤ k_)) v0_ r ∧ Below w.heap.size w w' := by
  have hu62 := Tryd.underlying62
  have HO0_10 := ak (show Kd.V (Kd.int .i64) 3 w w.heap.size (fun k_ => (P0_10_ k_ ∨ w.heap.size ≤ k_)) (.slice A0_10 l0_10.length c0_10) l0_10 from Kd.V_mono hs0_10 (fun k_ hk => .inl hk))
  have HR0_11 := ak hr0_11
  have HC0_11 := ak hc0_11
  clear hr0_11 hc0_11
  have HB := ak (Below.refl w.heap.size w)
  have H : (if a1 = true then (rf_code.l0 k (([] : List Int)) (wrap64 ((l0_11.length : Int) - 1)) a0_0 a0_1 a0_2 a0_3 a0_4 a0_5 a0_6 a0_7 a0_8 a0_9 l0_10 l0_11) else (some l0_10)) = some r := h
  clear h
  by_cases c3 : a1 = true
  · subst c3
    have H1 : (rf_code.l0 k (([] : List Int)) (wrap64 ((l0_11.length : Int) - 1)) a0_0 a0_1 a0_2 a0_3 a0_4 a0_5 a0_6 a0_7 a0_8 a0_9 l0_10 l0_11) = some r := by rw [if_pos rfl] at H; exact H
    clear H
    have H := H1
    clear H1
    obtain ⟨y371, hy371⟩ : ∃ y_ : List Int, y_ = (([] : List Int)) := ⟨_, rfl⟩
    replace H : (rf_code.l0 k y371 (wrap64 ((l0_11.length : Int) - 1)) a0_0 a0_1 a0_2 a0_3 a0_4 a0_5 a0_6 a0_7 a0_8 a0_9 l0_10 l0_11) = some r := by (rw [hy371]; with_reducible exact H)
    have Ny371 := ak hy371
    clear hy371
    have H' := ak H
    clear H
    go_enter Tryd.func48, Tryd.ntmps48
    go_wp2_with (first | ((with_reducible refine gate_dst (N := 2) rfl ?_); refine box_event ?hg (N := 2) ?hd (cs := #[.string a0_0, .string a0_1, .int .i64 a0_2, .int .i64 a0_3, .int .i64 a0_4, .int .i64 a0_5, .int .i64 a0_6, .int .i64 a0_7, .int .i64 a0_8, .int .i64 a0_9, .slice A0_10 l0_10.length c0_10, .slice A0_11 l0_11.length c0_11]) (t := 62) ?hr ?_; (case hd => rfl); (case hg => rfl); (case hr => (go_simp; done)); intro gb370 hg w4 hbox hb; have n0_ := ak (Kd.V_below (Kd.V_elderB (by exact HO0_10.1) gb370 (Nat.le_of_eq hg.symm)) hb); have n1_ := ak (below_step HB.1 hb); have n2_ := ak (hbox); have n3_ := ak ((by rw [hg]; exact (below_size HB.1) : w.heap.size ≤ gb370)); have n4_ := ak ((by rw [hg]; exact (below_size HB.1) : w.heap.size ≤ gb370)); clear HO0_10; clear HB; have HO0_10 := n0_; have HB := n1_; have BK370 := n2_; have GW370 := n3_; have GE370 := n4_; clear n0_ n1_ n2_ n3_ n4_; clear hb hbox hg) | ((with_reducible refine gate_dst (N := 11) rfl ?_); refine Kd.R_lit (Kd.int .i64) _ 3 ?hg (N := 11) ?hd (xs := ([] : List Int)) (inner := []) (ok := fun _ => True) (okp := fun _ => True) ?hr ?hp (fun _ hk => hk) trivial (Below.refl _ _) (Nat.le_refl _) (by simp) ?_; (case hd => rfl); (case hg => rfl); (case hr => (go_simp; done)); (case hp => exact (Reps.none _ _)); intro v372 w5 ho6 hb hg_ hnew_; clear hg_ hnew_; (rw [← Ny371.1] at ho6); have n0_ := ak (Kd.V_elder' (by exact HO0_10.1) (Kd.R_base ho6) hb); have n1_ := ak (Kd.R_lower (Kd.R_newM (M := fun k_ => (w.heap.size ≤ k_)) ho6 (below_size HB.1) (fun k_ h_ => h_)) (below_size HB.1)); have n2_ := ak (blk_below (g := gb370) (o := .cells #[.string a0_0, .string a0_1, .int .i64 a0_2, .int .i64 a0_3, .int .i64 a0_4, .int .i64 a0_5, .int .i64 a0_6, .int .i64 a0_7, .int .i64 a0_8, .int .i64 a0_9, .slice A0_10 l0_10.length c0_10, .slice A0_11 l0_11.length c0_11] 62 (0, 0)) (by exact BK370.1) hb); have n3_ := ak (below_step HB.1 hb); clear HO0_10; clear BK370; clear HB; have HO0_10 := n0_; have HO373 := n1_; have BK370 := n2_; have HB := n3_; clear n0_ n1_ n2_ n3_; clear hb ho6; have hcz7_0 : w5.cell? ⟨gb370, 0, none⟩ = some (.string a0_0) := (blk_cell BK370.1 0).trans rfl; have hcz7_1 : w5.cell? ⟨gb370, 1, none⟩ = some (.string a0_1) := (blk_cell BK370.1 1).trans rfl; have hcz7_2 : w5.cell? ⟨gb370, 2, none⟩ = some (.int .i64 a0_2) := (blk_cell BK370.1 2).trans rfl; have hcz7_3 : w5.cell? ⟨gb370, 3, none⟩ = some (.int .i64 a0_3) := (blk_cell BK370.1 3).trans rfl; have hcz7_4 : w5.cell? ⟨gb370, 4, none⟩ = some (.int .i64 a0_4) := (blk_cell BK370.1 4).trans rfl; have hcz7_5 : w5.cell? ⟨gb370, 5, none⟩ = some (.int .i64 a0_5) := (blk_cell BK370.1 5).trans rfl; have hcz7_6 : w5.cell? ⟨gb370, 6, none⟩ = some (.int .i64 a0_6) := (blk_cell BK370.1 6).trans rfl; have hcz7_7 : w5.cell? ⟨gb370, 7, none⟩ = some (.int .i64 a0_7) := (blk_cell BK370.1 7).trans rfl; have hcz7_8 : w5.cell? ⟨gb370, 8, none⟩ = some (.int .i64 a0_8) := (blk_cell BK370.1 8).trans rfl; have hcz7_9 : w5.cell? ⟨gb370, 9, none⟩ = some (.int .i64 a0_9) := (blk_cell BK370.1 9).trans rfl; have hcz7_10 : w5.cell? ⟨gb370, 10, none⟩ = some (.slice A0_10 l0_10.length c0_10) := (blk_cell BK370.1 10).trans rfl; have hcz7_11 : w5.cell? ⟨gb370, 11, none⟩ = some (.slice A0_11 l0_11.length c0_11) := (blk_cell BK370.1 11).trans rfl; have hfz7_0 := blk_frozen BK370.1 0; have hfz7_1 := blk_frozen BK370.1 1; have hfz7_2 := blk_frozen BK370.1 2; have hfz7_3 := blk_frozen BK370.1 3; have hfz7_4 := blk_frozen BK370.1 4; have hfz7_5 := blk_frozen BK370.1 5; have hfz7_6 := blk_frozen BK370.1 6; have hfz7_7 := blk_frozen BK370.1 7; have hfz7_8 := blk_frozen BK370.1 8; have hfz7_9 := blk_frozen BK370.1 9; have hfz7_10 := blk_frozen BK370.1 10; have hfz7_11 := blk_frozen BK370.1 11))
    go_loopg [5, 6] k (fun kq v5 v6 w' => ∃ (x5_1 : List Int) (x6_1 : Int), v6 = .int .i64 x6_1 ∧ Aside0 (rf_code.l0 kq x5_1 x6_1 a0_0 a0_1 a0_2 a0_3 a0_4 a0_5 a0_6 a0_7 a0_8 a0_9 l0_10 l0_11 = some r) ∧ Aside0 (kq ≤ k) ∧ Aside0 (Kd.R (Kd.int .i64) 3 w' w.heap.size (fun k_ => (w.heap.size ≤ k_)) v5 x5_1) ∧ Aside0 (Kd.V (Kd.int .i64) 3 w' w.heap.size (fun k_ => (P0_10_ k_ ∨ w.heap.size ≤ k_) ∧ some k_ ≠ (v5 : Value).ownBlock ∧ k_ ≠ gb370) (.slice A0_10 l0_10.length c0_10) l0_10) ∧ Aside0 (w'.heap[gb370]? = some (.cells #[.string a0_0, .string a0_1, .int .i64 a0_2, .int .i64 a0_3, .int .i64 a0_4, .int .i64 a0_5, .int .i64 a0_6, .int .i64 a0_7, .int .i64 a0_8, .int .i64 a0_9, (.slice A0_10 l0_10.length c0_10), (.slice A0_11 l0_11.length c0_11)] 62 (0, 0))) ∧ Aside0 (Below w.heap.size w w'))
    case atStart => exact ⟨(y371), (wrap64 ((l0_11.length : Int) - 1)), (by rfl), H', ⟨Nat.le_refl _⟩, ⟨by exact Kd.R_mono HO373.1 (fun _ hk => hk.1)⟩, ⟨by exact Kd.V_mono HO0_10.1 (fun _ hk => ⟨hk.1.1, ⟨hk.2, hk.1.2⟩⟩)⟩, ⟨by exact BK370.1⟩, ⟨by repeat (with_reducible exact HB.1)⟩⟩
    clear H'
    try clear hcz7_0
    try clear hcz7_1
    try clear hcz7_10
    try clear hcz7_11
    try clear hcz7_2
    try clear hcz7_3
    try clear hcz7_4
    try clear hcz7_5
    try clear hcz7_6
    try clear hcz7_7
    try clear hcz7_8
    try clear hcz7_9
    try clear hfz7_0
    try clear hfz7_1
    try clear hfz7_10
    try clear hfz7_11
    try clear hfz7_2
    try clear hfz7_3
    try clear hfz7_4
    try clear hfz7_5
    try clear hfz7_6
    try clear hfz7_7
    try clear hfz7_8
    try clear hfz7_9
    obtain ⟨x5_1, x6_1, rfl, HA, HK1, HO_5, HO_371010, BK370, HB⟩ := hrel
    cases gk with
    | zero => exact absurd HA.1 (by simp [rf_code.l0])
    | succ k1 =>
      have H := HA.1
      clear HA
      simp only [rf_code.l0] at H
      by_cases c8 : x6_1 ≥ 0
      · rw [if_pos c8] at H
        have c8b0 : decide (0 ≤ x6_1) = true := decide_eq_true c8
        clear c8
        by_cases c9 : 0 ≤ x6_1
        · rw [if_pos c9] at H
          have c9b0 : decide (0 ≤ x6_1) = true := decide_eq_true c9
          clear c9
          by_cases c10 : x6_1 < (l0_11.length : Int)
          · rw [if_pos c10] at H
            have c10b0 : decide (x6_1 < (l0_11.length : Int)) = true := decide_eq_true c10
            clear c10
            by_cases c11 : x5_1.length < 17592186044416
            · rw [if_pos c11] at H
              have LMc11 := ak c11
              clear c11
              obtain ⟨y375, hy375⟩ : ∃ y_ : List Int, y_ = (x5_1 ++ [rd l0_11 x6_1]) := ⟨_, rfl⟩
              replace H : (rf_code.l0 k1 y375 (wrap64 (x6_1 - 1)) a0_0 a0_1 a0_2 a0_3 a0_4 a0_5 a0_6 a0_7 a0_8 a0_9 l0_10 l0_11) = some r := by (rw [hy375]; with_reducible exact H)
              have Ny375 := ak hy375
              clear hy375
              have H' := ak H
              clear H
              have hcz12_0 : wr.cell? ⟨gb370, 0, none⟩ = some (.string a0_0) := (blk_cell BK370.1 0).trans rfl
              have hcz12_1 : wr.cell? ⟨gb370, 1, none⟩ = some (.string a0_1) := (blk_cell BK370.1 1).trans rfl
              have hcz12_2 : wr.cell? ⟨gb370, 2, none⟩ = some (.int .i64 a0_2) := (blk_cell BK370.1 2).trans rfl
              have hcz12_3 : wr.cell? ⟨gb370, 3, none⟩ = some (.int .i64 a0_3) := (blk_cell BK370.1 3).trans rfl
              have hcz12_4 : wr.cell? ⟨gb370, 4, none⟩ = some (.int .i64 a0_4) := (blk_cell BK370.1 4).trans rfl
              have hcz12_5 : wr.cell? ⟨gb370, 5, none⟩ = some (.int .i64 a0_5) := (blk_cell BK370.1 5).trans rfl
              have hcz12_6 : wr.cell? ⟨gb370, 6, none⟩ = some (.int .i64 a0_6) := (blk_cell BK370.1 6).trans rfl
              have hcz12_7 : wr.cell? ⟨gb370, 7, none⟩ = some (.int .i64 a0_7) := (blk_cell BK370.1 7).trans rfl
              have hcz12_8 : wr.cell? ⟨gb370, 8, none⟩ = some (.int .i64 a0_8) := (blk_cell BK370.1 8).trans rfl
              have hcz12_9 : wr.cell? ⟨gb370, 9, none⟩ = some (.int .i64 a0_9) := (blk_cell BK370.1 9).trans rfl
              have hcz12_10 : wr.cell? ⟨gb370, 10, none⟩ = some (.slice A0_10 l0_10.length c0_10) := (blk_cell BK370.1 10).trans rfl
              have hcz12_11 : wr.cell? ⟨gb370, 11, none⟩ = some (.slice A0_11 l0_11.length c0_11) := (blk_cell BK370.1 11).trans rfl
              have hfz12_0 := blk_frozen BK370.1 0
              have hfz12_1 := blk_frozen BK370.1 1
              have hfz12_2 := blk_frozen BK370.1 2
              have hfz12_3 := blk_frozen BK370.1 3
              have hfz12_4 := blk_frozen BK370.1 4
              have hfz12_5 := blk_frozen BK370.1 5
              have hfz12_6 := blk_frozen BK370.1 6
              have hfz12_7 := blk_frozen BK370.1 7
              have hfz12_8 := blk_frozen BK370.1 8
              have hfz12_9 := blk_frozen BK370.1 9
              have hfz12_10 := blk_frozen BK370.1 10
              have hfz12_11 := blk_frozen BK370.1 11
              have p374 : 0 ≤ (x6_1 : Int) := od_
              have q374 : x6_1 < (l0_11.length : Int) := od_
              obtain ⟨ad374, e374, hx374_0⟩ := Kd.at_int HR0_11.1 x6_1 p374 q374
              cases e374
              replace hx374_0 := (hc_ HB hx374_0).trans hx374_0
              replace p374 := eq_true p374
              replace q374 := eq_true q374
              go_wp2_with (first | ((with_reducible refine gate_builtin (b := .append) (xs := #[.tmp 20, .tmp 26]) rfl ?_); at_builtin; refine Kd.R_append (Kd.int .i64) (w0 := w) w.heap.size rfl (.tmp 20) (.tmp 26) 55 3 (.int .i64 0) 8 rfl Tryd.underlying55 info3 rfl (by decide) (by omega) u5 x5_1 (rd l0_11 x6_1) [.int .i64 (rd l0_11 x6_1)] (fun k_ => (w.heap.size ≤ k_)) (fun _ => False) rfl rfl ?aP (fun _ hk => hk.elim) ?aF ?aO ?aB ?aS ?aL ?_; (case aP => exact rfl); (case aB => exact HB.1); (case aF => exact (fun k_ hk => (Nat.le_trans (below_size HB.1) hk))); (case aO => exact (by exact HO_5.1)); (case aS => exact (below_size HB.1)); (case aL => have := LMc11.1; omega); intro v376 w13 ho hb hg hat; rw [← Ny375.1] at ho; have n0_ := ak (Kd.V_afterv (ok := (fun k_ => (P0_10_ k_ ∨ w.heap.size ≤ k_) ∧ k_ ≠ gb370)) (by exact Kd.V_mono HO_371010.1 (fun _ hk => ⟨⟨hk.1, hk.2.2⟩, hk.2.1⟩)) hg hat); have n1_ := ak (blk_grown (g := gb370) (o := .cells #[.string a0_0, .string a0_1, .int .i64 a0_2, .int .i64 a0_3, .int .i64 a0_4, .int .i64 a0_5, .int .i64 a0_6, .int .i64 a0_7, .int .i64 a0_8, .int .i64 a0_9, .slice A0_10 l0_10.length c0_10, .slice (some ad374) l0_11.length c0_11] 62 (0, 0)) (by exact BK370.1) hg (Kd.R_ne HO_5.1 BK370.1 (by decide))); have n2_ := ak (hb); have n3_ := ak (ho); clear HO_371010; clear BK370; clear HB; clear HO_5; have HO_371010 := n0_; have BK370 := n1_; have HB := n2_; have HO377 := n3_; clear n0_ n1_ n2_ n3_; clear ho hb hg hat))
              go_roundg k1
              case measure => have := HK1.1; omega
              case rel => exact ⟨(y375), (wrap64 (x6_1 - 1)), (by rfl), H', ⟨by have := HK1.1; omega⟩, ⟨by exact HO377.1⟩, ⟨by exact Kd.V_mono HO_371010.1 (fun _ hk => ⟨hk.1.1, ⟨hk.2, hk.1.2⟩⟩)⟩, ⟨by exact BK370.1⟩, ⟨by repeat (with_reducible exact HB.1)⟩⟩
            rw [if_neg c11] at H
            exact absurd H (by simp)
          rw [if_neg c10] at H
          exact absurd H (by simp)
        rw [if_neg c9] at H
        exact absurd H (by simp)
      rw [if_neg c8] at H
      have c8b0 : decide (0 ≤ x6_1) = false := decide_eq_false c8
      clear c8
      obtain rfl := Option.some.inj H
      go_wp2
      go_ret
      exact ⟨_, by rfl, Kd.V_mono (Kd.R_V (by exact HO_5.1)) (fun k_ hk => by exact (.inr (hk))), by repeat (with_reducible exact HB.1)⟩
  replace c3 := Bool.eq_false_iff.mpr c3
  subst c3
  have H1 : (some l0_10) = some r := by rw [if_neg (show ¬ (false = true) by decide)] at H; exact H
  clear H
  have H := H1
  clear H1
  obtain rfl := Option.some.inj H
  go_enter Tryd.func48, Tryd.ntmps48
  go_wp2_with (first | ((with_reducible refine gate_dst (N := 2) rfl ?_); refine box_event ?hg (N := 2) ?hd (cs := #[.string a0_0, .string a0_1, .int .i64 a0_2, .int .i64 a0_3, .int .i64 a0_4, .int .i64 a0_5, .int .i64 a0_6, .int .i64 a0_7, .int .i64 a0_8, .int .i64 a0_9, .slice A0_10 l0_10.length c0_10, .slice A0_11 l0_11.length c0_11]) (t := 62) ?hr ?_; (case hd => rfl); (case hg => rfl); (case hr => (go_simp; done)); intro gb370 hg w14 hbox hb; have n0_ := ak (Kd.V_below (Kd.V_elderB (by exact HO0_10.1) gb370 (Nat.le_of_eq hg.symm)) hb); have n1_ := ak (below_step HB.1 hb); have n2_ := ak (hbox); have n3_ := ak ((by rw [hg]; exact (below_size HB.1) : w.heap.size ≤ gb370)); have n4_ := ak ((by rw [hg]; exact (below_size HB.1) : w.heap.size ≤ gb370)); clear HO0_10; clear HB; have HO0_10 := n0_; have HB := n1_; have BK370 := n2_; have GW370 := n3_; have GE370 := n4_; clear n0_ n1_ n2_ n3_ n4_; clear hb hbox hg; have hcz15_0 : w14.cell? ⟨gb370, 0, none⟩ = some (.string a0_0) := (blk_cell BK370.1 0).trans rfl; have hcz15_1 : w14.cell? ⟨gb370, 1, none⟩ = some (.string a0_1) := (blk_cell BK370.1 1).trans rfl; have hcz15_2 : w14.cell? ⟨gb370, 2, none⟩ = some (.int .i64 a0_2) := (blk_cell BK370.1 2).trans rfl; have hcz15_3 : w14.cell? ⟨gb370, 3, none⟩ = some (.int .i64 a0_3) := (blk_cell BK370.1 3).trans rfl; have hcz15_4 : w14.cell? ⟨gb370, 4, none⟩ = some (.int .i64 a0_4) := (blk_cell BK370.1 4).trans rfl; have hcz15_5 : w14.cell? ⟨gb370, 5, none⟩ = some (.int .i64 a0_5) := (blk_cell BK370.1 5).trans rfl; have hcz15_6 : w14.cell? ⟨gb370, 6, none⟩ = some (.int .i64 a0_6) := (blk_cell BK370.1 6).trans rfl; have hcz15_7 : w14.cell? ⟨gb370, 7, none⟩ = some (.int .i64 a0_7) := (blk_cell BK370.1 7).trans rfl; have hcz15_8 : w14.cell? ⟨gb370, 8, none⟩ = some (.int .i64 a0_8) := (blk_cell BK370.1 8).trans rfl; have hcz15_9 : w14.cell? ⟨gb370, 9, none⟩ = some (.int .i64 a0_9) := (blk_cell BK370.1 9).trans rfl; have hcz15_10 : w14.cell? ⟨gb370, 10, none⟩ = some (.slice A0_10 l0_10.length c0_10) := (blk_cell BK370.1 10).trans rfl; have hcz15_11 : w14.cell? ⟨gb370, 11, none⟩ = some (.slice A0_11 l0_11.length c0_11) := (blk_cell BK370.1 11).trans rfl; have hfz15_0 := blk_frozen BK370.1 0; have hfz15_1 := blk_frozen BK370.1 1; have hfz15_2 := blk_frozen BK370.1 2; have hfz15_3 := blk_frozen BK370.1 3; have hfz15_4 := blk_frozen BK370.1 4; have hfz15_5 := blk_frozen BK370.1 5; have hfz15_6 := blk_frozen BK370.1 6; have hfz15_7 := blk_frozen BK370.1 7; have hfz15_8 := blk_frozen BK370.1 8; have hfz15_9 := blk_frozen BK370.1 9; have hfz15_10 := blk_frozen BK370.1 10; have hfz15_11 := blk_frozen BK370.1 11))
  go_ret
  exact ⟨_, by rfl, by exact Kd.V_mono HO0_10.1 (fun _ hk => hk.1), by repeat (with_reducible exact HB.1)⟩

end Go.Proofs.YtglkcinmohjblaaDoor.XA
