import Derived.Test.YtglkcinmohjblaaDoorXAx37
import Derived.Test.YtglkcinmohjblaaDoorXAx43
namespace Go.Proofs.YtglkcinmohjblaaDoor.XA
open Flat Go.RowKit Opens YtglkcinmohjblaaDoorW.PrintWords YtglkcinmohjblaaDoorW.PrintLast YtglkcinmohjblaaDoorW.PrintMore
attribute [local go_sem] max2_int min2_int max_two min_two max_three min_three max_four min_four cell_some cell_same
set_option linter.unusedVariables false
set_option linter.unusedSimpArgs false

mutual
def rf_Best.l0 : Nat → List (S62) → Int → List (S68) → Int → Option ((List (S68)))
 | 0, _, _, _, _ => none
 | k + 1, x0, x1, x5, x6 => if (wrap64 (x6 + x1)) ≤ (x0.length : Int) then (if 0 ≤ x6 then (if x6 ≤ (wrap64 (x6 + x1)) then ((rf_Sequence.f k ((x0.take ((wrap64 (x6 + x1)) : Int).toNat).drop (x6 : Int).toNat)).bind fun t556 => (rf_Best.l1 k x0 x1 x5 x6 t556 0)) else (none)) else (none)) else (some x5)
def rf_Best.l1 : Nat → List (S62) → Int → List (S68) → Int → List (S68) → Int → Option ((List (S68)))
 | 0, _, _, _, _, _, _ => none
 | k + 1, x0, x1, x5, x6, x7, x8 => if x8 < (x7.length : Int) then (if 0 ≤ x8 then (rf_Best.l1 k x0 x1 x5 x6 (x7.set (x8 : Int).toNat (⟨wrap64 (((rd_T68 x7 x8).f0) + x6), (rd_T68 x7 x8).f1⟩ : S68)) (wrap64 (x8 + 1))) else (none)) else (if x6 = 0 then (rf_Best.l0 k x0 x1 x7 (wrap64 (x6 + 1))) else ((rf_Cost.f k x0 x7).bind fun t561 => ((rf_Cost.f k x0 x5).bind fun t562 => (if t561 < t562 then (rf_Best.l0 k x0 x1 x7 (wrap64 (x6 + 1))) else (rf_Best.l0 k x0 x1 x5 (wrap64 (x6 + 1)))))))
end
def rf_Best.f (k : Nat) (l0 : List (S62)) (a1 : Int) : Option ((List (S68))) := rf_Best.l0 k l0 a1 (([] : List (S68))) 0
theorem rf_Best.mono_l : ∀ k, (∀ y0 y1 y2 y3, LeO (rf_Best.l0 k y0 y1 y2 y3) (rf_Best.l0 (k + 1) y0 y1 y2 y3)) ∧ (∀ y0 y1 y2 y3 y4 y5, LeO (rf_Best.l1 k y0 y1 y2 y3 y4 y5) (rf_Best.l1 (k + 1) y0 y1 y2 y3 y4 y5))
 | 0 => ⟨fun _ _ _ _ r h => by simp [rf_Best.l0] at h, fun _ _ _ _ _ _ r h => by simp [rf_Best.l1] at h⟩
 | k + 1 => by
  obtain ⟨ih0, ih1⟩ := rf_Best.mono_l k; refine ⟨?_, ?_⟩; (all_goals (intros; (first | unfold rf_Best.l0 | unfold rf_Best.l1)))
  all_goals (repeat' first
   | (with_reducible exact ih0 _ _ _ _)
   | (with_reducible exact ih1 _ _ _ _ _ _)
   | (with_reducible exact rf_Cost.mono _ _ _)
   | (with_reducible exact rf_Sequence.mono _ _)
   | (with_reducible exact LeO.refl _)
   | (with_reducible refine LeO.ite ?_ ?_)
   | (with_reducible refine LeO.bind ?_ (fun _ => ?_))
   )
theorem rf_Best.mono : ∀ a0 a1 k, LeO (rf_Best.f k a0 a1) (rf_Best.f (k + 1) a0 a1) := by
 intro a0 a1 k
 obtain ⟨ih0, ih1⟩ := rf_Best.mono_l k
 unfold rf_Best.f
 repeat' (with_reducible exact ih0 _ _ _ _)
set_option maxHeartbeats 8000000 in
set_option maxRecDepth 100000 in
theorem rf_Best.calls (k : Nat) (A0 : Option Addr) (c0 : Nat) (l0 : List (S62)) (a1 : Int) (r : List (S68)) (w : World) (hr0 : Kd.C k62 w A0 l0.length l0) (hc0 : l0.length ≤ c0) (h : rf_Best.f k l0 a1 = some r) :
  Calls Tryd.prog 15 #[.slice A0 l0.length c0, .int .i64 a1] w fun e w' => ∃ v0_ : Value, e = .returned (v0_) ∧ Kd.R k68 68 w' w.heap.size (fun _ => True) v0_ r ∧ Below w.heap.size w w' := by
 have HR0 := ak hr0
 have HC0 := ak hc0
 clear hr0 hc0
 have HB := ak (Below.refl w.heap.size w)
 have H : (rf_Best.l0 k l0 a1 (([] : List (S68))) 0) = some r := h
 clear h
 obtain ⟨y549, hy549⟩ : ∃ y_ : List (S68), y_ = (([] : List (S68))) := ⟨_, rfl⟩
 replace H : (rf_Best.l0 k l0 a1 y549 0) = some r := by (rw [hy549]; with_reducible exact H)
 have Ny549 := ak hy549
 clear hy549
 have H' := ak H
 clear H
 go_enter Tryd.func15, Tryd.ntmps15
 go_wp2_with (first | ((with_reducible refine gate_dst (N := 9) rfl ?_); refine Kd.R_lit k68 _ 68 ?hg (N := 9) ?hd (xs := ([] : List (S68))) (inner := []) (ok := fun _ => True) (okp := fun _ => True) ?hr ?hp (fun _ hk => hk) trivial (Below.refl _ _) (Nat.le_refl _) (by simp) ?_; (case hd => rfl); (case hg => rfl); (case hr => (go_simp; done)); (case hp => exact (Reps.none _ _)); intro v550 w3 ho4 hb hg_ hnew_; clear hg_ hnew_; (rw [← Ny549.1] at ho4); have HO551 := ak (Kd.R_lower ho4 (below_size (hb_ HB))); replace HB := hs_ HB hb; clear hb ho4))
 go_loopg [5, 6] k (fun kq v5 v6 w' => ∃ (x5_1 : List (S68)) (x6_1 : Int), v6 = .int .i64 x6_1 ∧ Aside0 (rf_Best.l0 kq l0 a1 x5_1 x6_1 = some r) ∧ Aside0 (kq ≤ k) ∧ Aside0 (Kd.R k68 68 w' w.heap.size (fun _ => True) v5 x5_1) ∧ Aside0 (Below w.heap.size w w'))
 case atStart => exact ⟨(y549), (0), (by rfl), H', ⟨Nat.le_refl _⟩, ⟨by exact HO551.1⟩, ⟨hb_ HB⟩⟩
 clear H'; obtain ⟨x5_1, x6_1, rfl, HA, HK1, HO_5, HB⟩ := hrel
 cases gk with
 | zero => exact absurd HA.1 (by simp [rf_Best.l0])
 | succ k1 =>
  have H := HA.1; clear HA; simp only [rf_Best.l0] at H; (by_cases c5 : (wrap64 (x6_1 + a1)) ≤ (l0.length : Int))
  ·rw [if_pos c5] at H
   have c5b0 := decide_eq_true c5; clear c5; (by_cases c6 : 0 ≤ x6_1)
   ·rw [if_pos c6] at H
    have c6b0 := eq_true c6; have c6b1 := decide_eq_true c6; clear c6; (by_cases c7 : x6_1 ≤ (wrap64 (x6_1 + a1)))
    ·rw [if_pos c7] at H
     have c7b0 := eq_true c7; have c7b1 := decide_eq_true c7; have c8b0 := eq_true (od_ : (wrap64 (x6_1 + a1)) ≤ (l0.length : Int)); obtain ⟨y552, hy552⟩ : ∃ y_ : List (S62), y_ = ((l0.take ((wrap64 (x6_1 + a1)) : Int).toNat).drop (x6_1 : Int).toNat) := ⟨_, rfl⟩; (replace H : ((rf_Sequence.f k1 y552).bind fun t556 => (rf_Best.l1 k1 l0 a1 x5_1 x6_1 t556 0)) = some r := by (rw [hy552]; with_reducible exact H)); have Ny552 := ak hy552; clear hy552; obtain ⟨t556, A90, H⟩ := obs_ H; replace H : (rf_Best.l1 k1 l0 a1 x5_1 x6_1 t556 0) = some r := H; have A9 := ak A90; clear A90; have H' := ak H; clear H; have q10 : ((wrap64 (x6_1 + a1)) : Int) ≤ ((l0.length : Int) : Int) := od_; obtain ⟨i010, hi010, _, hsz10, _⟩ := info_parts info62; have hroom10 : l0.length ≤ c0 := HC0.1; have hC10 : Kd.C k62 _ A0 l0.length l0 := HR0.1; have ql10 : (x6_1 : Int) ≤ ((wrap64 (x6_1 + a1)) : Int) := od_; have q010 : (0 : Int) ≤ (x6_1 : Int) := od_; have hcut10 := cut_mid (P := Tryd.prog) 22 62 .i64 .i64 Tryd.underlying22 hi010 12 hsz10 A0 l0.length c0 x6_1 (wrap64 (x6_1 + a1)) q010 ql10 q10 hroom10; (have hr10 := Kd.C_mid (lo := (x6_1 : Int).toNat) (hi := ((wrap64 (x6_1 + a1)) : Int).toNat) (c := c0) hC10 (by omega) (by omega) hroom10); (obtain ⟨A10, hA10⟩ : ∃ A1, A1 = (if c0 = (x6_1 : Int).toNat then A0 else (A0 : Option Addr).map (·.add ((x6_1 : Int).toNat * 12))) := ⟨_, rfl⟩); obtain ⟨c10, hc10⟩ : ∃ c1, c1 = c0 - (x6_1 : Int).toNat := ⟨_, rfl⟩; (have hy10 : y552.length = ((wrap64 (x6_1 + a1)) : Int).toNat - (x6_1 : Int).toNat := (by rw [Ny552.1, List.length_drop, List.length_take] <;> omega)); (rw [show ((l0).take ((wrap64 (x6_1 + a1)) : Int).toNat).drop (x6_1 : Int).toNat = y552 from Ny552.1.symm] at hr10); (replace hr10 : Kd.C k62 _ A10 y552.length y552 := (by rw [hA10]; exact hr10)); rw [← hy10, ← hA10, ← hc10] at hcut10; have HR555 := ak hr10; (have HC555 := ak (show y552.length ≤ c10 from by rw [hy10, hc10]; exact Nat.sub_le_sub_right (Nat.le_trans (by omega) hroom10) _)); clear hr10 hC10 hroom10 hi010 hsz10 hc10; have KY10 := ak hy10; have KA10 := ak hA10; clear hy10 hA10; replace q10 := eq_true q10; (go_wp2_with (first | ((with_reducible refine gate_callee (f := 23) rfl ?_); refine goesL_ (some 24) rfl rfl Tryd.func23 (by kernel_rfl) rfl #[.slice A10 y552.length c10] rfl am_ ?_; (with_reducible refine (rf_Sequence.calls k1 _ _ y552 t556 _ ?side1 ?side2 A9.1).mono ?_); (case side1 => exact (Kd.C_below HR555.1 HB.1)); (case side2 => exact HC555.1); rintro e w11 ⟨v557, rfl, ho0, hb⟩; refine ⟨_, rfl, ?_⟩; have HO558 := ak (Kd.R_lower (Kd.R_new' ho0 (Kd.R_lt (rk_ HO_5))) (below_size (hb_ HB))); replace HO_5 := ak (Kd.R_elder' (rk_ HO_5) (Kd.R_base ho0) hb); replace HB := hs_ HB hb; (try clear hb); (try clear ho0))))
     go_loopg [8] k1 (fun kq v8 w' => ∃ (x7_2 : List (S68)) (x8_2 : Int), v8 = .int .i64 x8_2 ∧ Aside0 (rf_Best.l1 kq l0 a1 x5_1 x6_1 x7_2 x8_2 = some r) ∧ Aside0 (kq ≤ k1) ∧ Aside0 (Kd.R k68 68 w' w.heap.size (fun k_ => some k_ ≠ (v557 : Value).ownBlock) u5 x5_1) ∧ Aside0 (Kd.R k68 68 w' w.heap.size (fun k_ => some k_ ≠ (u5 : Value).ownBlock) v557 x7_2) ∧ Aside0 (Below w.heap.size w w'))
     case atStart => exact ⟨(t556), (0), (by rfl), H', ⟨Nat.le_refl _⟩, ⟨by exact Kd.R_mono HO_5.1 (fun _ hk => hk.2)⟩, ⟨by exact Kd.R_mono HO558.1 (fun _ hk => hk.2)⟩, ⟨hb_ HB⟩⟩
     clear H'; (try clear c5b0); (try clear c6b0); (try clear c6b1); (try clear c7); (try clear c7b0); (try clear c7b1); (try clear c8b0); (try clear q10); (try clear q010); obtain ⟨x7_2, x8_2, rfl, HA, HK2, HO_5, HO_7, HB⟩ := hrel
     cases gk with
     | zero => exact absurd HA.1 (by simp [rf_Best.l1])
     | succ k2 =>
      have H := HA.1; clear HA; simp only [rf_Best.l1] at H; (by_cases c12 : x8_2 < (x7_2.length : Int))
      ·rw [if_pos c12] at H
       have c12b0 := decide_eq_true c12; clear c12; (by_cases c13 : 0 ≤ x8_2)
       ·rw [if_pos c13] at H
        have c13b0 := decide_eq_true c13; clear c13; obtain ⟨y560, hy560⟩ : ∃ y_ : List (S68), y_ = (x7_2.set (x8_2 : Int).toNat (⟨wrap64 (((rd_T68 x7_2 x8_2).f0) + x6_1), (rd_T68 x7_2 x8_2).f1⟩ : S68)) := ⟨_, rfl⟩; (replace H : (rf_Best.l1 k2 l0 a1 x5_1 x6_1 y560 (wrap64 (x8_2 + 1))) = some r := by (rw [hy560]; with_reducible exact H)); have Ny560 := ak hy560; clear hy560; have H' := ak H; clear H; obtain ⟨Ao15, co15, eo15⟩ := Kd.R_slice HO_7.1; subst eo15; have p559 : 0 ≤ (x8_2 : Int) := od_; have q559 : x8_2 < (x7_2.length : Int) := od_; obtain ⟨ad559, e559, hx559_0, hx559_1⟩ := at_T68 (Kd.R_reads' HO_7.1).2.2 x8_2 p559 q559; (cases e559); replace p559 := eq_true p559; replace q559 := eq_true q559; have p14 : 0 ≤ (x8_2 : Int) := od_; have q14 : (x8_2 : Int) < ((x7_2.length : Int) : Int) := od_; (obtain ⟨go14, co14, eo14, gb14, gl14, cl14, HG14⟩ := Kd.R_form HO_7.1 (by omega)); ((cases eo14)); have GB14 := ak gb14; have GG14 := ak HG14; clear gb14 gl14 HG14; ((simp only [add_plain] at hx559_0)); ((simp only [add_plain] at hx559_1)); obtain ⟨ce14, hcl14, hM14, hcc14, hfr14⟩ := Kd.R_elem HO_7.1 z68 (x8_2 : Int) p14 q14; obtain rfl := k68_openM hM14; have hx14_0 : wr.cell? ⟨go14, (x8_2 : Int).toNat * 2, none⟩ = some (.int .i64 ((rd_T68 x7_2 x8_2).f0)) := hcc14 0 _ rfl; have hx14_1 : wr.cell? ⟨go14, (x8_2 : Int).toNat * 2 + 1, none⟩ = some (.bool ((rd_T68 x7_2 x8_2).f1)) := hcc14 1 _ rfl; have hf14_0 : wr.frozen? ⟨go14, (x8_2 : Int).toNat * 2, none⟩ = false := hfr14 0; have hf14_1 : wr.frozen? ⟨go14, (x8_2 : Int).toNat * 2 + 1, none⟩ = false := hfr14 1; clear hcl14 hcc14 hfr14 hM14; replace p14 := eq_true p14; replace q14 := eq_true q14; (have HX16 := ak (show Kd.R k68 68 wr w.heap.size (fun k_ => some k_ ≠ (u5 : Value).ownBlock) (.slice (some ⟨go14, 0, none⟩) x7_2.length co15) x7_2 from (rk_ HO_7))); (obtain ⟨ce16, hcl16, hM16, hcc16, hfr16⟩ := Kd.R_elem HX16.1 z68 (x8_2 : Int) (od_) (by have h_ : (x8_2 : Int) < ((x7_2.length : Int) : Int) := od_; exact h_)); obtain rfl := k68_openM hM16; (have HP16 := Kd.R_seg HX16.1 (x8_2 : Int) (od_) (by have h_ : (x8_2 : Int) < ((x7_2.length : Int) : Int) := od_; exact h_) (seg := [.int .i64 (wrap64 (((rd_T68 x7_2 x8_2).f0) + x6_1))]) (j := 0) hcl16 hcc16 (show 1 ≤ 2 from by decide) (x' := (⟨wrap64 (((rd_T68 x7_2 x8_2).f0) + x6_1), (rd_T68 x7_2 x8_2).f1⟩ : S68)) (k68_mkM _ _ _ (⟨wrap64 (((rd_T68 x7_2 x8_2).f0) + x6_1), (rd_T68 x7_2 x8_2).f1⟩ : S68) ) (fun _ hk => hk))
        have hx16_0 := hcc16 0 _ rfl; ((try simp only [show (k68).sz = 2 from rfl, Nat.mul_one, Nat.add_zero] at hx16_0)); have hf16_0 := hfr16 0; ((try simp only [show (k68).sz = 2 from rfl, Nat.mul_one, Nat.add_zero] at hf16_0)); clear hcl16 hcc16 hfr16 hM16; (go_wp2_with (first | ((with_reducible refine gate_store (t := 3) (p := 39) rfl ?_); refine store_event (t := 3) (p := 39) (v := ?vo_w17) (w1 := (wr.setCell ⟨go14, (x8_2 : Int).toNat * 2, none⟩ (.int .i64 (wrap64 (((rd_T68 x7_2 x8_2).f0) + x6_1))))) ?hg ?ho ?hn ?hr ?_; (case ho => rfl); (case hg => rfl); (case hn => rfl); (case hr => (go_simp; done)); intro w17 hw; have hg : wr.grownBy w17 (some go14) := (by rw [hw]; exact HP16.2); have hp_ : Kd.R k68 68 w17 w.heap.size (fun k_ => some k_ ≠ (u5 : Value).ownBlock) (.slice (some ⟨go14, 0, none⟩) x7_2.length co15) y560 := (by rw [hw, Ny560.1]; exact HP16.1); clear HP16; replace HO_5 := ak (Kd.R_after (v := (.slice (some ⟨go14, 0, none⟩) x7_2.length co15)) (v1 := (.slice (some ⟨go14, 0, none⟩) x7_2.length co15)) (ok := (fun _ => True)) (by exact Kd.R_mono HO_5.1 (fun _ hk => ⟨trivial, hk⟩)) hg (.inl rfl)); replace HO_7 := ak (hp_); replace HB := ak ((by rw [hw]; exact below_set (HB.1) GB14.1 : Below w.heap.size w w17)); clear hg hw hp_))); (go_roundg k2)
        case measure => have := HK1.1; have := HK2.1; omega
        case rel => exact ⟨(y560), (wrap64 (x8_2 + 1)), (by rfl), H', ⟨by have := HK1.1; have := HK2.1; omega⟩, ⟨by exact Kd.R_mono HO_5.1 (fun _ hk => hk.2)⟩, ⟨by exact HO_7.1⟩, ⟨hb_ HB⟩⟩
       rw [if_neg c13] at H; (exact absurd H (by simp))
      rw [if_neg c12] at H
      have c12b0 := decide_eq_false c12; clear c12; (by_cases c18 : x6_1 = 0)
      ·rw [if_pos c18] at H
       have c18b0 := beq_iff_eq.mpr c18; have c18b1 := bne_eq_false_iff_eq.mpr c18; clear c18; have H' := ak H; clear H; obtain ⟨Ao19, co19, eo19⟩ := Kd.R_slice HO_7.1; subst eo19; (go_wp2); (go_roundg k2)
       case measure => have := HK1.1; have := HK2.1; omega
       case rel => exact ⟨(x7_2), (wrap64 (x6_1 + 1)), (by rfl), H', ⟨by have := HK1.1; have := HK2.1; omega⟩, ⟨by exact Kd.R_mono HO_7.1 (fun _ hk => trivial)⟩, ⟨hb_ HB⟩⟩
      rw [if_neg c18] at H
      have c18b0 := beq_eq_false_iff_ne.mpr c18; have c18b1 := bne_iff_ne.mpr c18; obtain ⟨t561, A200, H⟩ := obs_ H; (replace H : ((rf_Cost.f k2 l0 x5_1).bind fun t562 => (if t561 < t562 then (rf_Best.l0 k2 l0 a1 x7_2 (wrap64 (x6_1 + 1))) else (rf_Best.l0 k2 l0 a1 x5_1 (wrap64 (x6_1 + 1))))) = some r := H); have A20 := ak A200; clear A200; obtain ⟨t562, A210, H⟩ := obs_ H; (replace H : (if t561 < t562 then (rf_Best.l0 k2 l0 a1 x7_2 (wrap64 (x6_1 + 1))) else (rf_Best.l0 k2 l0 a1 x5_1 (wrap64 (x6_1 + 1)))) = some r := H); have A21 := ak A210; clear A210; (by_cases c22 : t561 < t562)
      ·rw [if_pos c22] at H
       have c22b0 := decide_eq_true c22; clear c22; have H' := ak H; clear H; obtain ⟨Ao23, co23, eo23⟩ := Kd.R_slice HO_7.1; subst eo23; (go_wp2_with (first | (go_at_call 18; (with_reducible refine (rf_Cost.calls k2 _ _ l0 _ _ x7_2 t561 _ ?side1 ?side2 ?side3 ?side4 A20.1).mono ?_); (case side1 => exact (Kd.C_below HR0.1 HB.1)); (case side2 => exact HC0.1); (case side3 => exact (Kd.R_reads' HO_7.1).2.2); (case side4 => exact (Kd.R_reads' HO_7.1).2.1); rintro e w24 ⟨rfl, hb⟩; replace HO_5 := rb_ HO_5 hb; replace HO_7 := rb_ HO_7 hb; replace HB := hs_ HB hb; (try clear hb); obtain ⟨Ao25, co25, eo25⟩ := Kd.R_slice HO_5.1; subst eo25) | (go_at_call 18; (with_reducible refine (rf_Cost.calls k2 _ _ l0 _ _ x5_1 t562 _ ?side1 ?side2 ?side3 ?side4 A21.1).mono ?_); (case side1 => exact (Kd.C_below HR0.1 HB.1)); (case side2 => exact HC0.1); (case side3 => exact (Kd.R_reads' HO_5.1).2.2); (case side4 => exact (Kd.R_reads' HO_5.1).2.1); rintro e w26 ⟨rfl, hb⟩; replace HO_5 := rb_ HO_5 hb; replace HO_7 := rb_ HO_7 hb; replace HB := hs_ HB hb; (try clear hb)))); (go_roundg k2)
       case measure => have := HK1.1; have := HK2.1; omega
       case rel => exact ⟨(x7_2), (wrap64 (x6_1 + 1)), (by rfl), H', ⟨by have := HK1.1; have := HK2.1; omega⟩, ⟨by exact Kd.R_mono HO_7.1 (fun _ hk => trivial)⟩, ⟨hb_ HB⟩⟩
      rw [if_neg c22] at H
      have c22b0 := decide_eq_false c22; clear c22; have H' := ak H; clear H; obtain ⟨Ao27, co27, eo27⟩ := Kd.R_slice HO_7.1; subst eo27; (go_wp2_with (first | (go_at_call 18; (with_reducible refine (rf_Cost.calls k2 _ _ l0 _ _ x7_2 t561 _ ?side1 ?side2 ?side3 ?side4 A20.1).mono ?_); (case side1 => exact (Kd.C_below HR0.1 HB.1)); (case side2 => exact HC0.1); (case side3 => exact (Kd.R_reads' HO_7.1).2.2); (case side4 => exact (Kd.R_reads' HO_7.1).2.1); rintro e w28 ⟨rfl, hb⟩; replace HO_5 := rb_ HO_5 hb; replace HO_7 := rb_ HO_7 hb; replace HB := hs_ HB hb; (try clear hb); obtain ⟨Ao29, co29, eo29⟩ := Kd.R_slice HO_5.1; subst eo29) | (go_at_call 18; (with_reducible refine (rf_Cost.calls k2 _ _ l0 _ _ x5_1 t562 _ ?side1 ?side2 ?side3 ?side4 A21.1).mono ?_); (case side1 => exact (Kd.C_below HR0.1 HB.1)); (case side2 => exact HC0.1); (case side3 => exact (Kd.R_reads' HO_5.1).2.2); (case side4 => exact (Kd.R_reads' HO_5.1).2.1); rintro e w30 ⟨rfl, hb⟩; replace HO_5 := rb_ HO_5 hb; replace HO_7 := rb_ HO_7 hb; replace HB := hs_ HB hb; (try clear hb)))); (go_roundg k2)
      case measure => have := HK1.1; have := HK2.1; omega
      case rel => exact ⟨(x5_1), (wrap64 (x6_1 + 1)), (by rfl), H', ⟨by have := HK1.1; have := HK2.1; omega⟩, ⟨by exact Kd.R_mono HO_5.1 (fun _ hk => trivial)⟩, ⟨hb_ HB⟩⟩
    rw [if_neg c7] at H; (exact absurd H (by simp))
   rw [if_neg c6] at H; (exact absurd H (by simp))
  rw [if_neg c5] at H; have c5b0 := decide_eq_false c5; clear c5; obtain rfl := Option.some.inj H; (go_wp2); (go_ret); (exact ⟨_, by rfl, by exact HO_5.1, hb_ HB⟩)

end Go.Proofs.YtglkcinmohjblaaDoor.XA
