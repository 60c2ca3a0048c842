-- written by xprint.py, this project's own program (wip/), over the words of print.sh
import Derived.Test.YtecbmcheojolnaaXAx0
import Derived.Test.YtecbmcheojolnaaFlat
namespace Go.Proofs.Ytecbmcheojolnaa.XA
open Go.Proofs.Ytecbmcheojolnaa.Flat Go.RowKit Go.Proofs.Ytecbmcheojolnaa.Opens Go.Proofs.YtecbmcheojolnaaW.PrintWords Go.Proofs.YtecbmcheojolnaaW.PrintLast Go.Proofs.YtecbmcheojolnaaW.PrintMore
attribute [local go_sem] max2_int min2_int max_two min_two max_three min_three max_four min_four cell_some cell_same   -- for this text's walks alone
set_option linter.unusedVariables false
set_option linter.unusedSimpArgs false

/-! ### rf_Levels: function 22 -/
mutual
def rf_Levels.l0 : Nat → List Int → Int → Int → List (S47) → Option (List Int)
 | 0, _, _, _, _ => none
 | k + 1, x3, x4, x512000, x512001 => if x4 < x512000 then (rf_Levels.l1 k x3 x4 0 x512000 x512001) else (some x3)
def rf_Levels.l1 : Nat → List Int → Int → Int → Int → List (S47) → Option (List Int)
 | 0, _, _, _, _, _ => none
 | k + 1, x3, x4, x5, x512000, x512001 => if x5 < (x512001.length : Int) then (if 0 ≤ x5 then (if 0 ≤ ((rd_T47 x512001 x5).f1) then (if ((rd_T47 x512001 x5).f1) < (x3.length : Int) then (if 0 ≤ ((rd_T47 x512001 x5).f0) then (if ((rd_T47 x512001 x5).f0) < (x3.length : Int) then (rf_Levels.l1 k (x3.set (((rd_T47 x512001 x5).f1) : Int).toNat (mx (rd x3 ((rd_T47 x512001 x5).f1)) (wrap64 ((rd x3 ((rd_T47 x512001 x5).f0)) + 1)))) x4 (wrap64 (x5 + 1)) x512000 x512001) else (none)) else (none)) else (none)) else (none)) else (none)) else (rf_Levels.l0 k x3 (wrap64 (x4 + 1)) x512000 x512001)
end
def rf_Levels.f (k : Nat) (a0_0 : Int) (l0_1 : List (S47)) : Option (List Int) := if 0 ≤ a0_0 then (if (a0_0 : Int).toNat ≤ 35184372088832 then (rf_Levels.l0 k (List.replicate (a0_0 : Int).toNat 0) 0 a0_0 l0_1) else (none)) else (none)
theorem rf_Levels.mono_l : ∀ k, (∀ y0 y1 y2 y3, LeO (rf_Levels.l0 k y0 y1 y2 y3) (rf_Levels.l0 (k + 1) y0 y1 y2 y3)) ∧ (∀ y0 y1 y2 y3 y4, LeO (rf_Levels.l1 k y0 y1 y2 y3 y4) (rf_Levels.l1 (k + 1) y0 y1 y2 y3 y4))
 | 0 => ⟨fun _ _ _ _ r h => by simp [rf_Levels.l0] at h, fun _ _ _ _ _ r h => by simp [rf_Levels.l1] at h⟩
 | k + 1 => by
  obtain ⟨ih0, ih1⟩ := rf_Levels.mono_l k; refine ⟨?_, ?_⟩; (all_goals (intros; (first | unfold rf_Levels.l0 | unfold rf_Levels.l1)))
  all_goals (repeat' first
   | (with_reducible exact ih0 _ _ _ _)
   | (with_reducible exact ih1 _ _ _ _ _)
   | (with_reducible exact LeO.refl _)
   | (with_reducible refine LeO.ite ?_ ?_)
   )
theorem rf_Levels.mono : ∀ a0 a1 k, LeO (rf_Levels.f k a0 a1) (rf_Levels.f (k + 1) a0 a1) := by
 intro a0 a1 k
 obtain ⟨ih0, ih1⟩ := rf_Levels.mono_l k
 unfold rf_Levels.f
 repeat' first
   | (with_reducible exact ih0 _ _ _ _)
   | (with_reducible exact LeO.refl _)
   | (with_reducible refine LeO.ite ?_ ?_)
   
def rf_Levels.T8 : Bool × List (List Nat × List Nat) := (true, [([], []), ([0], [0]), ([], []), ([1, 2], [1, 2]), ([3], [3]), ([4], [4]), ([], []), ([6], [6]), ([], []), ([7, 8], [7, 8]), ([9], [9]), ([10], [10]), ([5, 0, 1, 2, 3, 4, 5], [5]), ([11, 12, 0, 1, 2, 3, 4, 5, 6, 7, 8, 9, 10, 11, 12], [11])])
def rf_Levels.B8 : List Nat := [0, 1, 0, 7, 15, 31, 0, 64, 0, 448, 960, 1984, 63, 8191]
theorem rf_Levels.tab8 : rtab .any (opsOf Try.f22 8) = rf_Levels.T8 := by kernel_rfl
theorem rf_Levels.bits8 : waitsOk rf_Levels.T8.2 rf_Levels.B8 = true := by kernel_rfl
def rf_Levels.T9 : Bool × List (List Nat × List Nat) := (true, [([], []), ([], []), ([], []), ([], []), ([2, 3], [2, 3]), ([4], [4]), ([], []), ([], []), ([6, 7], [6, 7]), ([8], [8]), ([9], [9]), ([5, 10], [5, 10]), ([0, 1, 0, 1, 2, 3, 4, 5, 6, 7, 8, 9, 10, 11], [0, 1]), ([12, 11, 0, 1, 2, 3, 4, 5, 6, 7, 8, 9, 10, 11], [11, 12])])
def rf_Levels.B9 : List Nat := [0, 0, 0, 0, 12, 28, 0, 0, 192, 448, 960, 2044, 4095, 8191]
theorem rf_Levels.tab9 : rtab .any (opsOf Try.f22 9) = rf_Levels.T9 := by kernel_rfl
theorem rf_Levels.bits9 : waitsOk rf_Levels.T9.2 rf_Levels.B9 = true := by kernel_rfl
set_option maxHeartbeats 8000000 in
set_option maxRecDepth 100000 in
theorem rf_Levels.calls (k : Nat) (a0_0 : Int) (A0_1 : Option Addr) (c0_1 : Nat) (l0_1 : List (S47)) (r : List Int) (w : World) (hr0_1 : Kd.C k47 w A0_1 l0_1.length l0_1) (hc0_1 : l0_1.length ≤ c0_1) (h : rf_Levels.f k a0_0 l0_1 = some r) :
  Calls Try.prog 22 #[.agg #[.int .i64 a0_0, .slice A0_1 l0_1.length c0_1]] w fun e w' => ∃ v0_ : Value, e = .returned (v0_) ∧ Kd.R (Kd.int .i64) 3 w' w.heap.size (fun _ => True) v0_ r ∧ Below w.heap.size w w' := by
 have hu24 := Try.underlying24
 have hu47 := Try.underlying47
 have HR0_1 := ak hr0_1
 have HC0_1 := ak hc0_1
 clear hr0_1 hc0_1
 have HB := ak (Below.refl w.heap.size w)
 have H : (if 0 ≤ a0_0 then (if (a0_0 : Int).toNat ≤ 35184372088832 then (rf_Levels.l0 k (List.replicate (a0_0 : Int).toNat 0) 0 a0_0 l0_1) else (none)) else (none)) = some r := h
 clear h
 by_cases c2 : 0 ≤ a0_0
 ·rw [if_pos c2] at H
  have c2b0 := eq_true c2; have c2b1 := decide_eq_true c2; clear c2; (by_cases c3 : (a0_0 : Int).toNat ≤ 35184372088832)
  ·rw [if_pos c3] at H
   have c3b0 := eq_true c3; have c3b1 := decide_eq_true c3; clear c3; obtain ⟨y512, hy512⟩ : ∃ y_ : List Int, y_ = (List.replicate (a0_0 : Int).toNat 0) := ⟨_, rfl⟩; (replace H : (rf_Levels.l0 k y512 0 a0_0 l0_1) = some r := by (rw [hy512]; with_reducible exact H)); have Ny512 := ak hy512; clear hy512; have H' := ak H; clear H; (go_enter Try.func22, Try.ntmps22); (go_wp2_with (first | ((with_reducible refine gate_dst (N := 1) rfl ?_); refine box_event ?hg (N := 1) ?hd (cs := #[.int .i64 a0_0, .slice A0_1 l0_1.length c0_1]) (t := 24) ?hr ?_; (case hd => rfl); (case hg => rfl); (case hr => (go_simp; done)); intro gb511 hg w4 hbox hb; have BK511 := ak (hbox); have GW511 := gw_ HB hg; have GE511 := gw_ HB hg; replace HB := hs_ HB hb; clear hb hbox hg; obtain ⟨hcz5_0, hcz5_1, hfz5_0, hfz5_1⟩ := cz2_ BK511) | ((with_reducible refine gate_dst (N := 10) rfl ?_); refine Kd.R_make (Kd.int .i64) _ 3 rfl (N := 10) rfl 27 _ _ rfl a0_0 rfl rfl Try.underlying27 (.int .i64 0) 8 info3 rfl (by decide) (by omega) 0 (ok := fun _ => True) (okp := fun _ => True) rfl (fun _ hk => hk) trivial (od_) (Nat.le_trans (Nat.mul_le_mul_right _ (od_ : a0_0.toNat ≤ 35184372088832)) (by omega)) (Below.refl _ _) (Nat.le_refl _) ?_; intro v513 w6 ho7 hb hg_ hnew_; clear hg_ hnew_; (rw [← Ny512.1] at ho7); have HO514 := ak (Kd.R_lower ho7 (below_size (hb_ HB))); replace BK511 := bb_ BK511 hb; replace HB := hs_ HB hb; clear hb ho7))); (go_loopg [4] k (fun kq v4 w' => ∃ (x3_1 : List Int) (x4_1 : Int), v4 = .int .i64 x4_1 ∧ Aside0 (rf_Levels.l0 kq x3_1 x4_1 a0_0 l0_1 = some r) ∧ Aside0 (kq ≤ k) ∧ Aside0 (Kd.R (Kd.int .i64) 3 w' w.heap.size (fun _ => True) v513 x3_1) ∧ Aside0 (w'.heap[gb511]? = some (.cells #[.int .i64 a0_0, (.slice A0_1 l0_1.length c0_1)] 24 (0, 0))) ∧ Aside0 (Below w.heap.size w w')))
   case atStart => exact ⟨(y512), (0), (by rfl), H', ⟨Nat.le_refl _⟩, ⟨by exact HO514.1⟩, ⟨bk_ BK511⟩, ⟨hb_ HB⟩⟩
   clear H'; (try clear c2b0); (try clear c2b1); (try clear c3b0); (try clear c3b1); (try clear hcz5_0); (try clear hcz5_1); (try clear hfz5_0); (try clear hfz5_1); obtain ⟨x3_1, x4_1, rfl, HA, HK1, HO_3, BK511, HB⟩ := hrel
   cases gk with
   | zero => exact absurd HA.1 (by simp [rf_Levels.l0])
   | succ k1 =>
    have H := HA.1; clear HA; simp only [rf_Levels.l0] at H; (by_cases c8 : x4_1 < a0_0)
    ·rw [if_pos c8] at H
     have c8b0 := decide_eq_true c8; clear c8; have H' := ak H; clear H; obtain ⟨hcz9_0, hcz9_1, hfz9_0, hfz9_1⟩ := cz2_ BK511; (go_wp2); (go_loopg [5] k1 (fun kq v5 w' => ∃ (x3_2 : List Int) (x5_2 : Int), v5 = .int .i64 x5_2 ∧ Aside0 (rf_Levels.l1 kq x3_2 x4_1 x5_2 a0_0 l0_1 = some r) ∧ Aside0 (kq ≤ k1) ∧ Aside0 (Kd.R (Kd.int .i64) 3 w' w.heap.size (fun _ => True) v513 x3_2) ∧ Aside0 (w'.heap[gb511]? = some (.cells #[.int .i64 a0_0, (.slice A0_1 l0_1.length c0_1)] 24 (0, 0))) ∧ Aside0 (Below w.heap.size w w')))
     case atStart => exact ⟨(x3_1), (0), (by rfl), H', ⟨Nat.le_refl _⟩, ⟨by exact HO_3.1⟩, ⟨bk_ BK511⟩, ⟨hb_ HB⟩⟩
     clear H'; (try clear c8b0); (try clear hcz9_0); (try clear hcz9_1); (try clear hfz9_0); (try clear hfz9_1); obtain ⟨x3_2, x5_2, rfl, HA, HK2, HO_3, BK511, HB⟩ := hrel
     cases gk with
     | zero => exact absurd HA.1 (by simp [rf_Levels.l1])
     | succ k2 =>
      have H := HA.1; clear HA; simp only [rf_Levels.l1] at H; (by_cases c10 : x5_2 < (l0_1.length : Int))
      ·rw [if_pos c10] at H
       have c10b0 := decide_eq_true c10; clear c10; (by_cases c11 : 0 ≤ x5_2)
       ·rw [if_pos c11] at H
        have c11b0 := decide_eq_true c11; clear c11; (by_cases c12 : 0 ≤ ((rd_T47 l0_1 x5_2).f1))
        ·rw [if_pos c12] at H
         have c12b0 := decide_eq_true c12; clear c12; (by_cases c13 : ((rd_T47 l0_1 x5_2).f1) < (x3_2.length : Int))
         ·rw [if_pos c13] at H
          have c13b0 := decide_eq_true c13; clear c13; (by_cases c14 : 0 ≤ ((rd_T47 l0_1 x5_2).f0))
          ·rw [if_pos c14] at H
           have c14b0 := decide_eq_true c14; clear c14; (by_cases c15 : ((rd_T47 l0_1 x5_2).f0) < (x3_2.length : Int))
           ·rw [if_pos c15] at H
            have c15b0 := decide_eq_true c15; clear c15; obtain ⟨ji16, hji16⟩ : ∃ j_ : Int, (mx (rd x3_2 ((rd_T47 l0_1 x5_2).f1)) (wrap64 ((rd x3_2 ((rd_T47 l0_1 x5_2).f0)) + 1))) = j_ := ⟨_, rfl⟩; (replace H : (rf_Levels.l1 k2 (x3_2.set (((rd_T47 l0_1 x5_2).f1) : Int).toNat (ji16)) x4_1 (wrap64 (x5_2 + 1)) a0_0 l0_1) = some r := by (rw [hji16] at H; exact H)); (have hji16_ : (if (rd x3_2 ((rd_T47 l0_1 x5_2).f1)) < (wrap64 ((rd x3_2 ((rd_T47 l0_1 x5_2).f0)) + 1)) then (wrap64 ((rd x3_2 ((rd_T47 l0_1 x5_2).f0)) + 1)) else (rd x3_2 ((rd_T47 l0_1 x5_2).f1))) = ji16 := hji16); obtain ⟨y519, hy519⟩ : ∃ y_ : List Int, y_ = (x3_2.set (((rd_T47 l0_1 x5_2).f1) : Int).toNat (ji16)) := ⟨_, rfl⟩; (replace H : (rf_Levels.l1 k2 y519 x4_1 (wrap64 (x5_2 + 1)) a0_0 l0_1) = some r := by (rw [hy519]; with_reducible exact H)); have Ny519 := ak hy519; clear hy519; have H' := ak H; clear H; obtain ⟨hcz18_0, hcz18_1, hfz18_0, hfz18_1⟩ := cz2_ BK511; (try go_wp2); replace HO_3 := ak (Kd.R_drew HO_3.1); replace BK511 := ak (blk_drew BK511.1); replace HB := ak (below_drew1 HB.1); have p515 : 0 ≤ (x5_2 : Int) := od_; have q515 : x5_2 < (l0_1.length : Int) := od_; obtain ⟨ad515, e515, hx515_0, hx515_1⟩ := at_T47 HR0_1.1 x5_2 p515 q515; have hw515_1 := hx515_1; have hw515_0 := hx515_0; (cases e515); replace hx515_0 := (hc_ HB hx515_0).trans hx515_0; replace hx515_1 := (hc_ HB hx515_1).trans hx515_1; replace p515 := eq_true p515; replace q515 := eq_true q515; have p516 : 0 ≤ (x5_2 : Int) := od_; have q516 : x5_2 < (l0_1.length : Int) := od_; obtain ⟨ad516, e516, hx516_0, hx516_1⟩ := at_T47 HR0_1.1 x5_2 p516 q516; have hw516_1 := hx516_1; have hw516_0 := hx516_0; (obtain rfl : ad515 = ad516 := (by injection e516)); replace hx516_0 := (hc_ HB hx516_0).trans hx516_0; replace hx516_1 := (hc_ HB hx516_1).trans hx516_1; replace p516 := eq_true p516; replace q516 := eq_true q516; (refine start_ (n := 14) (S := fun w' => w'.cell? ⟨gb511, 0, none⟩ = some (.int .i64 a0_0) ∧ w'.cell? ⟨gb511, 1, none⟩ = some (.slice (some ad515) l0_1.length c0_1) ∧ w'.cell? (ad515.add ((x5_2).toNat * 2)) = some (.int .i64 ((rd_T47 l0_1 x5_2).f0)) ∧ w'.cell? ⟨(ad515.add ((x5_2).toNat * 2)).block, (ad515.add ((x5_2).toNat * 2)).off + 1, none⟩ = some (.int .i64 ((rd_T47 l0_1 x5_2).f1)) ∧ w'.cell? (ad515.add ((x5_2).toNat * 2)) = some (.int .i64 ((rd_T47 l0_1 x5_2).f0)) ∧ w'.cell? ⟨(ad515.add ((x5_2).toNat * 2)).block, (ad515.add ((x5_2).toNat * 2)).off + 1, none⟩ = some (.int .i64 ((rd_T47 l0_1 x5_2).f1))) (ds := []) (bm 14 0) (by kernel_rfl) rfl rfl ⟨(blk_cell BK511.1 0).trans rfl, (blk_cell BK511.1 1).trans rfl, ((hc_ HB hw515_0).trans hw515_0), ((hc_ HB hw515_1).trans hw515_1), ((hc_ HB hw516_0).trans hw516_0), ((hc_ HB hw516_1).trans hw516_1)⟩ (fun hHeld => ?_); refine with_tabW rf_Levels.tab8 rf_Levels.bits8 (fun HT_ HW_ => ?_))
            generalize wr.drew = w19 at HO_3 BK511 HB hx515_0 hx515_1 hx516_0 hx516_1 hHeld ⊢; refine pv_ 0 HT_ ?_; refine pv_ 2 HT_ ?_; refine pv_ 6 HT_ ?_; refine pv_ 8 HT_ ?_; refine tv_ 1 HT_ HW_ hHeld ?_; refine pv_ 3 HT_ ?_; refine pv_ 4 HT_ ?_; refine tv_ 5 HT_ HW_ hHeld ?_; refine pv_ 12 HT_ ?_; refine tv_ 7 HT_ HW_ hHeld ?_; refine pv_ 9 HT_ ?_; refine pv_ 10 HT_ ?_; refine tv_ 11 HT_ HW_ hHeld ?_; refine pv_ 13 HT_ ?_; (refine done_ (done_of HT_.1 (by kernel_rfl)) ?_); (try go_wp2); replace HO_3 := ak (Kd.R_drew HO_3.1); replace BK511 := ak (blk_drew BK511.1); replace HB := ak (below_drew1 HB.1); obtain ⟨Ao21, co21, eo21⟩ := Kd.R_slice HO_3.1; ((subst eo21)); have p517 : 0 ≤ (((rd_T47 l0_1 x5_2).f1) : Int) := od_; have q517 : ((rd_T47 l0_1 x5_2).f1) < (x3_2.length : Int) := od_; obtain ⟨ad517, e517, hx517_0⟩ := Kd.at_int (Kd.R_reads' HO_3.1).2.2 ((rd_T47 l0_1 x5_2).f1) p517 q517; (cases e517); replace p517 := eq_true p517; replace q517 := eq_true q517; have p518 : 0 ≤ (((rd_T47 l0_1 x5_2).f0) : Int) := od_; have q518 : ((rd_T47 l0_1 x5_2).f0) < (x3_2.length : Int) := od_; obtain ⟨ad518, e518, hx518_0⟩ := Kd.at_int (Kd.R_reads' HO_3.1).2.2 ((rd_T47 l0_1 x5_2).f0) p518 q518; (obtain rfl : ad517 = ad518 := (by injection e518)); replace p518 := eq_true p518; replace q518 := eq_true q518; have p17 : 0 ≤ (((rd_T47 l0_1 x5_2).f1) : Int) := od_; have q17 : (((rd_T47 l0_1 x5_2).f1) : Int) < ((x3_2.length : Int) : Int) := od_; (obtain ⟨go17, co17, eo17, gb17, gl17, cl17, HG17⟩ := Kd.R_form HO_3.1 (by omega)); ((cases eo17)); have GB17 := ak gb17; have GG17 := ak HG17; clear gb17 gl17 HG17; ((simp only [add_plain] at hx517_0)); ((simp only [add_plain] at hx518_0)); obtain ⟨hx17_0, hf17_0⟩ := Kd.R_celln 0 HO_3.1 (((rd_T47 l0_1 x5_2).f1) : Int) p17 q17; replace p17 := eq_true p17; replace q17 := eq_true q17; have HP22 := Kd.R_putn HO_3.1 (((rd_T47 l0_1 x5_2).f1) : Int) ji16; rw [← Ny519.1] at HP22; have HQ22 := ak HP22; clear HP22; (refine start_ (n := 14) (S := fun w' => w'.cell? ⟨go17, (((rd_T47 l0_1 x5_2).f1)).toNat, none⟩ = some (.int .i64 (rd x3_2 ((rd_T47 l0_1 x5_2).f1))) ∧ w'.cell? ⟨go17, (((rd_T47 l0_1 x5_2).f0)).toNat, none⟩ = some (.int .i64 (rd x3_2 ((rd_T47 l0_1 x5_2).f0)))) (ds := [13]) (bm 14 0) (by kernel_rfl) rfl rfl ⟨hx517_0, hx518_0⟩ (fun hHeld => ?_); refine with_tabW rf_Levels.tab9 rf_Levels.bits9 (fun HT_ HW_ => ?_))
            generalize w19.drew = w20 at HO_3 BK511 HB GG17 HQ22 hf17_0 hx17_0 hx517_0 hx518_0 hHeld ⊢; refine pv_ 0 HT_ ?_; refine pv_ 1 HT_ ?_; refine pv_ 2 HT_ ?_; refine pv_ 3 HT_ ?_; refine pv_ 4 HT_ ?_; refine pv_ 6 HT_ ?_; refine pv_ 7 HT_ ?_; refine pv_ 8 HT_ ?_; refine tv_ 5 HT_ HW_ hHeld ?_; refine tv_ 9 HT_ HW_ hHeld ?_; refine pv_ 10 HT_ ?_; refine pv_ 11 HT_ ?_; refine pv_ 12 HT_ ?_; (refine last_ (i := 13) (N := none) (bm 14 16383) rfl rfl (one_of HT_.1 (by kernel_rfl)) (by decide) (fun K hK => ?_)); (refine skip_ (w1 := ?_) (by rfl) rfl ?_ ?_); rotate_left
            ·(go_simp); (rfl)
            refine hK.out _ _ ?_; clear hK K; (refine done_ (done_of HT_.1 (by kernel_rfl)) ?_); (try go_wp2); (go_roundg k2)
            case measure => have := HK1.1; have := HK2.1; omega
            case rel => exact ⟨(y519), (wrap64 (x5_2 + 1)), (by rfl), H', ⟨by have := HK1.1; have := HK2.1; omega⟩, ⟨by exact HQ22.1⟩, ⟨by refine blk_far ?_ (by have h_ := Kd.R_ne HO_3.1 BK511.1 (by decide); intro e_; exact h_ (by rw [e_]; rfl)) _; exact BK511.1⟩, ⟨by repeat (with_reducible first | exact HB.1 | refine below_set ?_ GB17.1)⟩⟩
           rw [if_neg c15] at H; (exact absurd H (by simp))
          rw [if_neg c14] at H; (exact absurd H (by simp))
         rw [if_neg c13] at H; (exact absurd H (by simp))
        rw [if_neg c12] at H; (exact absurd H (by simp))
       rw [if_neg c11] at H; (exact absurd H (by simp))
      rw [if_neg c10] at H
      have c10b0 := decide_eq_false c10; clear c10; have H' := ak H; clear H; obtain ⟨hcz23_0, hcz23_1, hfz23_0, hfz23_1⟩ := cz2_ BK511; (go_wp2); (go_roundg k2)
      case measure => have := HK1.1; have := HK2.1; omega
      case rel => exact ⟨(x3_2), (wrap64 (x4_1 + 1)), (by rfl), H', ⟨by have := HK1.1; have := HK2.1; omega⟩, ⟨by exact HO_3.1⟩, ⟨bk_ BK511⟩, ⟨hb_ HB⟩⟩
    rw [if_neg c8] at H; have c8b0 := decide_eq_false c8; clear c8; obtain rfl := Option.some.inj H; obtain ⟨hcz24_0, hcz24_1, hfz24_0, hfz24_1⟩ := cz2_ BK511; (go_wp2); (go_ret); (exact ⟨_, by rfl, by exact HO_3.1, hb_ HB⟩)
  rw [if_neg c3] at H; (exact absurd H (by simp))
 rw [if_neg c2] at H
 exact absurd H (by simp)

end Go.Proofs.Ytecbmcheojolnaa.XA
