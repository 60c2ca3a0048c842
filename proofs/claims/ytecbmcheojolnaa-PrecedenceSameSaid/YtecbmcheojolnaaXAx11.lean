-- written by xprint.py, this project's own program (wip/), over the words of print.sh
import Derived.Test.YtecbmcheojolnaaXAx0
import Derived.Test.YtecbmcheojolnaaFlat
namespace Go.Proofs.Ytecbmcheojolnaa.XA
open Go.Proofs.Ytecbmcheojolnaa.Flat Go.RowKit Go.Proofs.Ytecbmcheojolnaa.Opens Go.Proofs.YtecbmcheojolnaaW.PrintWords Go.Proofs.YtecbmcheojolnaaW.PrintLast Go.Proofs.YtecbmcheojolnaaW.PrintMore
attribute [local go_sem] max2_int min2_int max_two min_two max_three min_three max_four min_four cell_some cell_same   -- for this text's walks alone
set_option linter.unusedVariables false
set_option linter.unusedSimpArgs false

/-! ### precedence_needs: function 31 -/
mutual
def precedence_needs.l0 : Nat → List Bool → List Int → Int → List (List Int) → List (List Int) → Option (List Bool)
 | 0, _, _, _, _, _ => none
 | k + 1, x5, x6, x7, x151000, x151001 => if x7 < (x6.length : Int) then (if 0 ≤ x7 then (if 0 ≤ (rd x6 x7) then (if (rd x6 x7) < (x151001.length : Int) then (precedence_needs.l1 k x5 x6 x7 (rd_L2 x151001 (rd x6 x7)) ((rd_L2 x151001 (rd x6 x7)).length : Int) 0 x151000 x151001) else (none)) else (none)) else (none)) else (some x5)
def precedence_needs.l1 : Nat → List Bool → List Int → Int → List Int → Int → Int → List (List Int) → List (List Int) → Option (List Bool)
 | 0, _, _, _, _, _, _, _, _ => none
 | k + 1, x5, x6, x7, x29, x30, x31, x151000, x151001 => if x31 < x30 then (if 0 ≤ x31 then (if x31 < (x29.length : Int) then (if 0 ≤ (rd x29 x31) then (if (rd x29 x31) < (x5.length : Int) then (if (rdOf false x5 (rd x29 x31) = true) then (precedence_needs.l1 k x5 x6 x7 x29 x30 (wrap64 (x31 + 1)) x151000 x151001) else (if x6.length < 17592186044416 then (precedence_needs.l1 k (x5.set ((rd x29 x31) : Int).toNat true) (x6 ++ [rd x29 x31]) x7 x29 x30 (wrap64 (x31 + 1)) x151000 x151001) else (none))) else (none)) else (none)) else (none)) else (none)) else (precedence_needs.l0 k x5 x6 (wrap64 (x7 + 1)) x151000 x151001)
end
def precedence_needs.f (k : Nat) (l0_0 : List (List Int)) (l0_1 : List (List Int)) (a1 : Int) : Option (List Bool) := if 0 ≤ (l0_1.length : Int) then (if ((l0_1.length : Int) : Int).toNat ≤ 281474976710656 then (precedence_needs.l0 k (List.replicate ((l0_1.length : Int) : Int).toNat false) (([a1] : List Int)) 0 l0_0 l0_1) else (none)) else (none)
theorem precedence_needs.mono_l : ∀ k, (∀ y0 y1 y2 y3 y4, LeO (precedence_needs.l0 k y0 y1 y2 y3 y4) (precedence_needs.l0 (k + 1) y0 y1 y2 y3 y4)) ∧ (∀ y0 y1 y2 y3 y4 y5 y6 y7, LeO (precedence_needs.l1 k y0 y1 y2 y3 y4 y5 y6 y7) (precedence_needs.l1 (k + 1) y0 y1 y2 y3 y4 y5 y6 y7))
 | 0 => ⟨fun _ _ _ _ _ r h => by simp [precedence_needs.l0] at h, fun _ _ _ _ _ _ _ _ r h => by simp [precedence_needs.l1] at h⟩
 | k + 1 => by
  obtain ⟨ih0, ih1⟩ := precedence_needs.mono_l k; refine ⟨?_, ?_⟩; (all_goals (intros; (first | unfold precedence_needs.l0 | unfold precedence_needs.l1)))
  all_goals (repeat' first
   | (with_reducible exact ih0 _ _ _ _ _)
   | (with_reducible exact ih1 _ _ _ _ _ _ _ _)
   | (with_reducible exact LeO.refl _)
   | (with_reducible refine LeO.ite ?_ ?_)
   )
theorem precedence_needs.mono : ∀ a0 a1 a2 k, LeO (precedence_needs.f k a0 a1 a2) (precedence_needs.f (k + 1) a0 a1 a2) := by
 intro a0 a1 a2 k
 obtain ⟨ih0, ih1⟩ := precedence_needs.mono_l k
 unfold precedence_needs.f
 repeat' first
   | (with_reducible exact ih0 _ _ _ _ _)
   | (with_reducible exact LeO.refl _)
   | (with_reducible refine LeO.ite ?_ ?_)
   
set_option maxHeartbeats 8000000 in
set_option maxRecDepth 100000 in
theorem precedence_needs.calls (k : Nat) (A0_0 : Option Addr) (c0_0 : Nat) (l0_0 : List (List Int)) (A0_1 : Option Addr) (c0_1 : Nat) (l0_1 : List (List Int)) (a1 : Int) (r : List Bool) (w : World) (hr0_0 : Kd.C (Kd.slice 3 (Kd.int .i64)) w A0_0 l0_0.length l0_0) (hc0_0 : l0_0.length ≤ c0_0) (hr0_1 : Kd.C (Kd.slice 3 (Kd.int .i64)) w A0_1 l0_1.length l0_1) (hc0_1 : l0_1.length ≤ c0_1) (h : precedence_needs.f k l0_0 l0_1 a1 = some r) :
  Calls Try.prog 31 #[.agg #[.slice A0_0 l0_0.length c0_0, .slice A0_1 l0_1.length c0_1], .int .i64 a1] w fun e w' => ∃ v0_ : Value, e = .returned (v0_) ∧ Kd.R Kd.bool 4 w' w.heap.size (fun _ => True) v0_ r ∧ Below w.heap.size w w' := by
 have hu50 := Try.underlying50
 have HR0_0 := ak hr0_0
 have HC0_0 := ak hc0_0
 clear hr0_0 hc0_0
 have HR0_1 := ak hr0_1
 have HC0_1 := ak hc0_1
 clear hr0_1 hc0_1
 have HB := ak (Below.refl w.heap.size w)
 have H : (if 0 ≤ (l0_1.length : Int) then (if ((l0_1.length : Int) : Int).toNat ≤ 281474976710656 then (precedence_needs.l0 k (List.replicate ((l0_1.length : Int) : Int).toNat false) (([a1] : List Int)) 0 l0_0 l0_1) else (none)) else (none)) = some r := h
 clear h
 by_cases c3 : 0 ≤ (l0_1.length : Int)
 ·rw [if_pos c3] at H
  have c3b0 := eq_true c3; have c3b1 := decide_eq_true c3; clear c3; (by_cases c4 : ((l0_1.length : Int) : Int).toNat ≤ 281474976710656)
  ·rw [if_pos c4] at H
   have c4b0 := eq_true c4; have c4b1 := decide_eq_true c4; clear c4; obtain ⟨y151, hy151⟩ : ∃ y_ : List Bool, y_ = (List.replicate ((l0_1.length : Int) : Int).toNat false) := ⟨_, rfl⟩; (replace H : (precedence_needs.l0 k y151 (([a1] : List Int)) 0 l0_0 l0_1) = some r := by (rw [hy151]; with_reducible exact H)); have Ny151 := ak hy151; clear hy151; obtain ⟨y154, hy154⟩ : ∃ y_ : List Int, y_ = (([a1] : List Int)) := ⟨_, rfl⟩; (replace H : (precedence_needs.l0 k y151 y154 0 l0_0 l0_1) = some r := by (rw [hy154]; with_reducible exact H)); have Ny154 := ak hy154; clear hy154; have H' := ak H; clear H; (go_enter Try.func31, Try.ntmps31); (iterate 2 (go_wp2_with (first | ((with_reducible refine gate_dst (N := 2) rfl ?_); refine box_event ?hg (N := 2) ?hd (cs := #[.slice A0_0 l0_0.length c0_0, .slice A0_1 l0_1.length c0_1]) (t := 50) ?hr ?_; (case hd => rfl); (case hg => rfl); (case hr => (go_simp; done)); intro gb150 hg w5 hbox hb; have BK150 := ak (hbox); have GW150 := gw_ HB hg; have GE150 := gw_ HB hg; replace HB := hs_ HB hb; clear hb hbox hg; obtain ⟨hcz6_0, hcz6_1, hfz6_0, hfz6_1⟩ := cz2_ BK150) | ((with_reducible refine gate_dst (N := 13) rfl ?_); refine Kd.R_make Kd.bool _ 4 rfl (N := 13) rfl 54 _ _ rfl (l0_1.length : Int) rfl rfl Try.underlying54 (.bool false) 1 info4 rfl (by decide) (by omega) false (ok := fun _ => True) (okp := fun _ => True) rfl (fun _ hk => hk) trivial (od_) (Nat.le_trans (Nat.mul_le_mul_right _ (od_ : (l0_1.length : Int).toNat ≤ 281474976710656)) (by omega)) (Below.refl _ _) (Nat.le_refl _) ?_; intro v152 w7 ho8 hb hg_ hnew_; clear hg_ hnew_; (rw [← Ny151.1] at ho8); have HO153 := ak (Kd.R_lower ho8 (below_size (hb_ HB))); replace BK150 := bb_ BK150 hb; replace HB := hs_ HB hb; clear hb ho8) | ((with_reducible refine gate_dst (N := 15) rfl ?_); refine Kd.R_lit (Kd.int .i64) _ 3 ?hg (N := 15) ?hd (xs := ([a1] : List Int)) (inner := [.int .i64 a1]) (ok := fun _ => True) (okp := fun _ => True) ?hr ?hp (fun _ hk => hk) trivial (Below.refl _ _) (Nat.le_refl _) (by simp) ?_; (case hd => rfl); (case hg => rfl); (case hr => (go_simp; done)); (case hp => exact (Reps.one (show Kd.M (Kd.int .i64) _ _ _ a1 [.int .i64 a1] from rfl) (Reps.none _ _))); intro v155 w9 ho10 hb hg_ hnew_; clear hg_ hnew_; (rw [← Ny154.1] at ho10); replace HO153 := rb_ HO153 hb; have HO156 := ak (Kd.R_lower ho10 (below_size (hb_ HB))); replace BK150 := bb_ BK150 hb; replace HB := hs_ HB hb; clear hb ho10))))
   go_loopg [6, 7] k (fun kq v6 v7 w' => ∃ (x5_1 : List Bool) (x6_1 : List Int) (x7_1 : Int), v7 = .int .i64 x7_1 ∧ Aside0 (precedence_needs.l0 kq x5_1 x6_1 x7_1 l0_0 l0_1 = some r) ∧ Aside0 (kq ≤ k) ∧ Aside0 (Kd.R Kd.bool 4 w' w.heap.size (fun _ => True) v152 x5_1) ∧ Aside0 (Kd.R (Kd.int .i64) 3 w' w.heap.size (fun _ => True) v6 x6_1) ∧ Aside0 (w'.heap[gb150]? = some (.cells #[(.slice A0_0 l0_0.length c0_0), (.slice A0_1 l0_1.length c0_1)] 50 (0, 0))) ∧ Aside0 (Below w.heap.size w w'))
   case atStart => exact ⟨(y151), (y154), (0), (by rfl), H', ⟨Nat.le_refl _⟩, ⟨by exact HO153.1⟩, ⟨by exact HO156.1⟩, ⟨bk_ BK150⟩, ⟨hb_ HB⟩⟩
   clear H'; (try clear c3b0); (try clear c3b1); (try clear c4b0); (try clear c4b1); (try clear hcz6_0); (try clear hcz6_1); (try clear hfz6_0); (try clear hfz6_1); obtain ⟨x5_1, x6_1, x7_1, rfl, HA, HK1, HO_5, HO_6, BK150, HB⟩ := hrel
   cases gk with
   | zero => exact absurd HA.1 (by simp [precedence_needs.l0])
   | succ k1 =>
    have H := HA.1; clear HA; simp only [precedence_needs.l0] at H; (by_cases c11 : x7_1 < (x6_1.length : Int))
    ·rw [if_pos c11] at H
     have c11b0 := decide_eq_true c11; clear c11; (by_cases c12 : 0 ≤ x7_1)
     ·rw [if_pos c12] at H
      have c12b0 := decide_eq_true c12; clear c12; (by_cases c13 : 0 ≤ (rd x6_1 x7_1))
      ·rw [if_pos c13] at H
       have c13b0 := decide_eq_true c13; clear c13; (by_cases c14 : (rd x6_1 x7_1) < (l0_1.length : Int))
       ·rw [if_pos c14] at H
        have c14b0 := decide_eq_true c14; clear c14; have H' := ak H; clear H; obtain ⟨Ao15, co15, eo15⟩ := Kd.R_slice HO_6.1; subst eo15; obtain ⟨hcz16_0, hcz16_1, hfz16_0, hfz16_1⟩ := cz2_ BK150; have p157 : 0 ≤ (x7_1 : Int) := od_; have q157 : x7_1 < (x6_1.length : Int) := od_; obtain ⟨ad157, e157, hx157_0⟩ := Kd.at_int (Kd.R_reads' HO_6.1).2.2 x7_1 p157 q157; (cases e157); replace p157 := eq_true p157; replace q157 := eq_true q157; have p158 : 0 ≤ ((rd x6_1 x7_1) : Int) := od_; have q158 : (rd x6_1 x7_1) < (l0_1.length : Int) := od_; obtain ⟨ad158, A158_0, c158_0, e158, hx158_0, hl158_0, hi158_0⟩ := at_L2 HR0_1.1 (rd x6_1 x7_1) p158 q158; (cases e158); replace hx158_0 := (hc_ HB hx158_0).trans hx158_0; have HR158_0 := ak hi158_0; have HC158_0 := ak hl158_0; clear hi158_0 hl158_0; replace p158 := eq_true p158; replace q158 := eq_true q158; (go_wp2); (repeat (go_quiet (fail); try go_wp2)); (go_loopg [6, 31] k1 (fun kq v6 v31 w' => ∃ (x5_2 : List Bool) (x6_2 : List Int) (x31_2 : Int), v31 = .int .i64 x31_2 ∧ Aside0 (precedence_needs.l1 kq x5_2 x6_2 x7_1 (rd_L2 l0_1 (rd x6_1 x7_1)) ((rd_L2 l0_1 (rd x6_1 x7_1)).length : Int) x31_2 l0_0 l0_1 = some r) ∧ Aside0 (kq ≤ k1) ∧ Aside0 (Kd.R Kd.bool 4 w' w.heap.size (fun _ => True) v152 x5_2) ∧ Aside0 (Kd.R (Kd.int .i64) 3 w' w.heap.size (fun _ => True) v6 x6_2) ∧ Aside0 (w'.heap[gb150]? = some (.cells #[(.slice A0_0 l0_0.length c0_0), (.slice (some ad158) l0_1.length c0_1)] 50 (0, 0))) ∧ Aside0 (Below w.heap.size w w')))
        case atStart => exact ⟨(x5_1), (x6_1), (0), (by rfl), H', ⟨Nat.le_refl _⟩, ⟨by (with_reducible repeat (apply Kd.R_drewN)); exact HO_5.1⟩, ⟨by (with_reducible repeat (apply Kd.R_drewN)); exact HO_6.1⟩, ⟨bk_ BK150⟩, ⟨hb_ HB⟩⟩
        clear H'; (try clear c11b0); (try clear c12b0); (try clear c13b0); (try clear c14b0); (try clear hcz16_0); (try clear hcz16_1); (try clear hfz16_0); (try clear hfz16_1); (try clear hx157_0); (try clear hx158_0); (try clear p157); (try clear p158); (try clear q157); (try clear q158); obtain ⟨x5_2, x6_2, x31_2, rfl, HA, HK2, HO_5, HO_6, BK150, HB⟩ := hrel
        cases gk with
        | zero => exact absurd HA.1 (by simp [precedence_needs.l1])
        | succ k2 =>
         have H := HA.1; clear HA; simp only [precedence_needs.l1] at H; (by_cases c17 : x31_2 < ((rd_L2 l0_1 (rd x6_1 x7_1)).length : Int))
         ·rw [if_pos c17] at H
          have c17b0 := decide_eq_true c17; clear c17; (by_cases c18 : 0 ≤ x31_2)
          ·rw [if_pos c18] at H
           have c18b0 := decide_eq_true c18; clear c18; (by_cases c19 : x31_2 < ((rd_L2 l0_1 (rd x6_1 x7_1)).length : Int))
           ·rw [if_pos c19] at H
            have c19b0 := decide_eq_true c19; clear c19; (by_cases c20 : 0 ≤ (rd (rd_L2 l0_1 (rd x6_1 x7_1)) x31_2))
            ·rw [if_pos c20] at H
             have c20b0 := decide_eq_true c20; clear c20; (by_cases c21 : (rd (rd_L2 l0_1 (rd x6_1 x7_1)) x31_2) < (x5_2.length : Int))
             ·rw [if_pos c21] at H
              have c21b0 := decide_eq_true c21; clear c21; obtain ⟨bq22, hbq22⟩ : ∃ b_ : Bool, b_ = (rdOf false x5_2 (rd (rd_L2 l0_1 (rd x6_1 x7_1)) x31_2)) := ⟨_, rfl⟩; (replace H : (if (bq22 = true) then (precedence_needs.l1 k2 x5_2 x6_2 x7_1 (rd_L2 l0_1 (rd x6_1 x7_1)) ((rd_L2 l0_1 (rd x6_1 x7_1)).length : Int) (wrap64 (x31_2 + 1)) l0_0 l0_1) else (if x6_2.length < 17592186044416 then (precedence_needs.l1 k2 (x5_2.set ((rd (rd_L2 l0_1 (rd x6_1 x7_1)) x31_2) : Int).toNat true) (x6_2 ++ [rd (rd_L2 l0_1 (rd x6_1 x7_1)) x31_2]) x7_1 (rd_L2 l0_1 (rd x6_1 x7_1)) ((rd_L2 l0_1 (rd x6_1 x7_1)).length : Int) (wrap64 (x31_2 + 1)) l0_0 l0_1) else (none))) = some r := by rw [← hbq22] at H; exact H); have Nbq22 := ak hbq22; clear hbq22; (by_cases c23 : (bq22 = true))
              ·subst c23
               (have H1 : (precedence_needs.l1 k2 x5_2 x6_2 x7_1 (rd_L2 l0_1 (rd x6_1 x7_1)) ((rd_L2 l0_1 (rd x6_1 x7_1)).length : Int) (wrap64 (x31_2 + 1)) l0_0 l0_1) = some r := by rw [if_pos rfl] at H; exact H); clear H; have H := H1; clear H1; have H' := ak H; clear H; have p159 : 0 ≤ (x31_2 : Int) := od_; have q159 : x31_2 < ((rd_L2 l0_1 (rd x6_1 x7_1)).length : Int) := od_; obtain ⟨ad159, e159, hx159_0⟩ := Kd.at_int HR158_0.1 x31_2 p159 q159; (cases e159); replace hx159_0 := (hc_ HB hx159_0).trans hx159_0; replace p159 := eq_true p159; replace q159 := eq_true q159; obtain ⟨Ao24, co24, eo24⟩ := Kd.R_slice HO_5.1; subst eo24; have p160 : 0 ≤ ((rd (rd_L2 l0_1 (rd x6_1 x7_1)) x31_2) : Int) := od_; have q160 : (rd (rd_L2 l0_1 (rd x6_1 x7_1)) x31_2) < (x5_2.length : Int) := od_; obtain ⟨ad160, e160, hx160_0⟩ := Kd.at_bool (Kd.R_reads' HO_5.1).2.2 (rd (rd_L2 l0_1 (rd x6_1 x7_1)) x31_2) p160 q160; ((try rw [← Nbq22.1] at hx160_0)); (cases e160); replace p160 := eq_true p160; replace q160 := eq_true q160; (go_wp2); (go_roundg k2)
               case measure => have := HK1.1; have := HK2.1; omega
               case rel => exact ⟨(x5_2), (x6_2), (wrap64 (x31_2 + 1)), (by rfl), H', ⟨by have := HK1.1; have := HK2.1; omega⟩, ⟨by exact HO_5.1⟩, ⟨by exact HO_6.1⟩, ⟨bk_ BK150⟩, ⟨hb_ HB⟩⟩
              replace c23 := Bool.eq_false_iff.mpr c23
              subst c23; (have H1 : (if x6_2.length < 17592186044416 then (precedence_needs.l1 k2 (x5_2.set ((rd (rd_L2 l0_1 (rd x6_1 x7_1)) x31_2) : Int).toNat true) (x6_2 ++ [rd (rd_L2 l0_1 (rd x6_1 x7_1)) x31_2]) x7_1 (rd_L2 l0_1 (rd x6_1 x7_1)) ((rd_L2 l0_1 (rd x6_1 x7_1)).length : Int) (wrap64 (x31_2 + 1)) l0_0 l0_1) else (none)) = some r := by rw [if_neg (show ¬ (false = true) by decide)] at H; exact H); clear H; have H := H1; clear H1; obtain ⟨y161, hy161⟩ : ∃ y_ : List Bool, y_ = (x5_2.set ((rd (rd_L2 l0_1 (rd x6_1 x7_1)) x31_2) : Int).toNat true) := ⟨_, rfl⟩; (replace H : (if x6_2.length < 17592186044416 then (precedence_needs.l1 k2 y161 (x6_2 ++ [rd (rd_L2 l0_1 (rd x6_1 x7_1)) x31_2]) x7_1 (rd_L2 l0_1 (rd x6_1 x7_1)) ((rd_L2 l0_1 (rd x6_1 x7_1)).length : Int) (wrap64 (x31_2 + 1)) l0_0 l0_1) else (none)) = some r := by (rw [hy161]; with_reducible exact H)); have Ny161 := ak hy161; clear hy161; (by_cases c26 : x6_2.length < 17592186044416)
              ·rw [if_pos c26] at H
               have LMc26 := ak c26; clear c26; obtain ⟨y162, hy162⟩ : ∃ y_ : List Int, y_ = (x6_2 ++ [rd (rd_L2 l0_1 (rd x6_1 x7_1)) x31_2]) := ⟨_, rfl⟩; (replace H : (precedence_needs.l1 k2 y161 y162 x7_1 (rd_L2 l0_1 (rd x6_1 x7_1)) ((rd_L2 l0_1 (rd x6_1 x7_1)).length : Int) (wrap64 (x31_2 + 1)) l0_0 l0_1) = some r := by (rw [hy162]; with_reducible exact H)); have Ny162 := ak hy162; clear hy162; have H' := ak H; clear H; have p159 : 0 ≤ (x31_2 : Int) := od_; have q159 : x31_2 < ((rd_L2 l0_1 (rd x6_1 x7_1)).length : Int) := od_; obtain ⟨ad159, e159, hx159_0⟩ := Kd.at_int HR158_0.1 x31_2 p159 q159; (cases e159); replace hx159_0 := (hc_ HB hx159_0).trans hx159_0; replace p159 := eq_true p159; replace q159 := eq_true q159; obtain ⟨Ao27, co27, eo27⟩ := Kd.R_slice HO_5.1; subst eo27; have p160 : 0 ≤ ((rd (rd_L2 l0_1 (rd x6_1 x7_1)) x31_2) : Int) := od_; have q160 : (rd (rd_L2 l0_1 (rd x6_1 x7_1)) x31_2) < (x5_2.length : Int) := od_; obtain ⟨ad160, e160, hx160_0⟩ := Kd.at_bool (Kd.R_reads' HO_5.1).2.2 (rd (rd_L2 l0_1 (rd x6_1 x7_1)) x31_2) p160 q160; ((try rw [← Nbq22.1] at hx160_0)); (cases e160); replace p160 := eq_true p160; replace q160 := eq_true q160; have p25 : 0 ≤ ((rd (rd_L2 l0_1 (rd x6_1 x7_1)) x31_2) : Int) := od_; have q25 : ((rd (rd_L2 l0_1 (rd x6_1 x7_1)) x31_2) : Int) < ((x5_2.length : Int) : Int) := od_; (obtain ⟨go25, co25, eo25, gb25, gl25, cl25, HG25⟩ := Kd.R_form HO_5.1 (by omega)); ((cases eo25)); have GB25 := ak gb25; have GG25 := ak HG25; clear gb25 gl25 HG25; ((simp only [add_plain] at hx160_0)); obtain ⟨hx25_0, hf25_0⟩ := Kd.R_celln false HO_5.1 ((rd (rd_L2 l0_1 (rd x6_1 x7_1)) x31_2) : Int) p25 q25; replace p25 := eq_true p25; replace q25 := eq_true q25; have HP28 := Kd.R_putg HO_5.1 ((rd (rd_L2 l0_1 (rd x6_1 x7_1)) x31_2) : Int) true; (iterate 2 (go_wp2_with (first | ((with_reducible refine gate_store (t := 4) (p := 42) rfl ?_); refine store_event (t := 4) (p := 42) (v := ?vo_w29) (w1 := (wr.setCell ⟨go25, ((rd (rd_L2 l0_1 (rd x6_1 x7_1)) x31_2) : Int).toNat, none⟩ (.bool true))) ?hg ?ho ?hn ?hr ?_; (case ho => rfl); (case hg => rfl); (case hn => rfl); (case hr => (go_simp; done)); intro w29 hw; have hg : wr.grownBy w29 (some go25) := (by rw [hw]; exact HP28.2); have hp_ : Kd.R Kd.bool 4 w29 w.heap.size (fun _ => True) (.slice (some ⟨go25, 0, none⟩) x5_2.length co27) y161 := (by rw [hw, Ny161.1]; exact HP28.1); clear HP28; replace HO_6 := ak (Kd.R_over' (v := (.slice (some ⟨go25, 0, none⟩) x5_2.length co27)) (rk_ HO_6) (Kd.R_typed HO_5.1) (by decide) hg); replace BK150 := ak (blk_grown (bk_ BK150) hg (Kd.R_ne HO_5.1 BK150.1 (by decide))); replace HO_5 := ak (hp_); replace HB := ak ((by rw [hw]; exact below_set (HB.1) GB25.1 : Below w.heap.size w w29)); clear hg hw hp_) | ((with_reducible refine gate_builtin (b := .append) (xs := #[.tmp 43, .tmp 45]) rfl ?_); at_builtin; refine Kd.R_append (Kd.int .i64) (w0 := w) w.heap.size rfl (.tmp 43) (.tmp 45) 27 3 (.int .i64 0) 8 rfl Try.underlying27 info3 rfl (by decide) (by omega) u6 x6_2 (rd (rd_L2 l0_1 (rd x6_1 x7_1)) x31_2) [.int .i64 (rd (rd_L2 l0_1 (rd x6_1 x7_1)) x31_2)] (fun _ => True) (fun _ => False) rfl rfl ?aP (fun _ hk => hk.elim) ?aF ?aO ?aB ?aS ?aL ?_; (case aP => exact rfl); (case aB => exact (hb_ HB)); (case aF => exact (fun _ _ => trivial)); (case aO => exact (rk_ HO_6)); (case aS => exact (below_size (hb_ HB))); (case aL => have := LMc26.1; omega); intro v163 w30 ho hb hg hat; rw [← Ny162.1] at ho; have n0_ := ak (Kd.R_over' (rk_ HO_5) (Kd.R_typed (rk_ HO_6)) (by decide) hg); have n1_ := ak (blk_grown (bk_ BK150) hg (Kd.R_ne HO_6.1 BK150.1 (by decide))); have n2_ := ak (hb); have n3_ := ak (ho); clear HO_5; clear BK150; clear HB; clear HO_6; have HO_5 := n0_; have BK150 := n1_; have HB := n2_; have HO164 := n3_; clear n0_ n1_ n2_ n3_; clear ho hb hg hat))))
               go_roundg k2
               case measure => have := HK1.1; have := HK2.1; omega
               case rel => exact ⟨(y161), (y162), (wrap64 (x31_2 + 1)), (by rfl), H', ⟨by have := HK1.1; have := HK2.1; omega⟩, ⟨by exact HO_5.1⟩, ⟨by exact HO164.1⟩, ⟨bk_ BK150⟩, ⟨hb_ HB⟩⟩
              rw [if_neg c26] at H; (exact absurd H (by simp))
             rw [if_neg c21] at H; (exact absurd H (by simp))
            rw [if_neg c20] at H; (exact absurd H (by simp))
           rw [if_neg c19] at H; (exact absurd H (by simp))
          rw [if_neg c18] at H; (exact absurd H (by simp))
         rw [if_neg c17] at H
         have c17b0 := decide_eq_false c17; clear c17; have H' := ak H; clear H; (go_wp2); (go_roundg k2)
         case measure => have := HK1.1; have := HK2.1; omega
         case rel => exact ⟨(x5_2), (x6_2), (wrap64 (x7_1 + 1)), (by rfl), H', ⟨by have := HK1.1; have := HK2.1; omega⟩, ⟨by exact HO_5.1⟩, ⟨by exact HO_6.1⟩, ⟨bk_ BK150⟩, ⟨hb_ HB⟩⟩
       rw [if_neg c14] at H; (exact absurd H (by simp))
      rw [if_neg c13] at H; (exact absurd H (by simp))
     rw [if_neg c12] at H; (exact absurd H (by simp))
    rw [if_neg c11] at H; have c11b0 := decide_eq_false c11; clear c11; obtain rfl := Option.some.inj H; obtain ⟨Ao31, co31, eo31⟩ := Kd.R_slice HO_6.1; subst eo31; (go_wp2); (go_ret); (exact ⟨_, by rfl, by exact HO_5.1, hb_ HB⟩)
  rw [if_neg c4] at H; (exact absurd H (by simp))
 rw [if_neg c3] at H
 exact absurd H (by simp)

end Go.Proofs.Ytecbmcheojolnaa.XA
