-- written by xprint.py, this project's own program (wip/), over the words of print.sh
import Derived.Test.YtjlljjnkjhdljaaXAx0
import Derived.Test.YtjlljjnkjhdljaaXAx2
import Derived.Test.YtjlljjnkjhdljaaXAx8
import Derived.Test.YtjlljjnkjhdljaaXAx14
import Derived.Test.YtjlljjnkjhdljaaXAx20
import Derived.Test.YtjlljjnkjhdljaaXAx21
import Derived.Test.YtjlljjnkjhdljaaXAx22
import Derived.Test.YtjlljjnkjhdljaaXAx24
import Derived.Test.YtjlljjnkjhdljaaFlat
namespace Go.Proofs.Ytjlljjnkjhdljaa.XA
open Go.Proofs.Ytjlljjnkjhdljaa.Flat Go.RowKit Go.Proofs.Ytjlljjnkjhdljaa.Opens Go.Proofs.YtjlljjnkjhdljaaW.PrintWords Go.Proofs.YtjlljjnkjhdljaaW.PrintLast Go.Proofs.YtjlljjnkjhdljaaW.PrintMore
attribute [local go_sem] max2_int min2_int max_two min_two max_three min_three max_four min_four cell_some cell_same   -- for this text's walks alone
set_option linter.unusedVariables false
set_option linter.unusedSimpArgs false

/-! ### gangsawref40_Of: function 21 -/
mutual
def gangsawref40_Of.j0 : Nat → List (S46) → List (S46) → Bool → Option ((List (List (S46))) × Int)
 | 0, _, _, _ => none
 | k + 1, x0, x1, x18 => if x18 = true then (some (([] : List (List (S46))), 1)) else (gangsawref40_Of.l0 k x0 x1 (([] : List (List (S46)))) 1)
def gangsawref40_Of.l0 : Nat → List (S46) → List (S46) → List (List (S46)) → Int → Option ((List (List (S46))) × Int)
 | 0, _, _, _, _ => none
 | k + 1, x0, x1, x6, x7 => if x7 < (x0.length : Int) then (if 0 ≤ (wrap64 (x7 - 1)) then (if (wrap64 (x7 - 1)) < (x0.length : Int) then (if 0 ≤ x7 then (if x7 < (x1.length : Int) then (if (wrap64 (x7 - 1)) < (x1.length : Int) then (if x6.length < 5864062014805 then (gangsawref40_Of.l0 k x0 x1 (x6 ++ [(([(⟨(rd_T46 x0 (wrap64 (x7 - 1))).f0, (rd_T46 x0 (wrap64 (x7 - 1))).f1⟩ : S46), (⟨(rd_T46 x0 x7).f0, (rd_T46 x0 x7).f1⟩ : S46), (⟨(rd_T46 x1 x7).f0, (rd_T46 x1 x7).f1⟩ : S46), (⟨(rd_T46 x1 (wrap64 (x7 - 1))).f0, (rd_T46 x1 (wrap64 (x7 - 1))).f1⟩ : S46)] : List (S46)))]) (wrap64 (x7 + 1))) else (none)) else (none)) else (none)) else (none)) else (none)) else (none)) else ((gangsawref40_Check.f k x6).bind fun t411 => (if t411 = 0 then (some (x6, 0)) else (some (([] : List (List (S46))), t411))))
end
def gangsawref40_Of.f (k : Nat) (l0 : List (S46)) (l1 : List (S46)) : Option ((List (List (S46))) × Int) := if (l0.length : Int) = (l1.length : Int) then (gangsawref40_Of.j0 k l0 l1 (decide ((l0.length : Int) < 2))) else (gangsawref40_Of.j0 k l0 l1 true)
theorem gangsawref40_Of.mono_l : ∀ k, (∀ y0 y1 y2, LeO (gangsawref40_Of.j0 k y0 y1 y2) (gangsawref40_Of.j0 (k + 1) y0 y1 y2)) ∧ (∀ y0 y1 y2 y3, LeO (gangsawref40_Of.l0 k y0 y1 y2 y3) (gangsawref40_Of.l0 (k + 1) y0 y1 y2 y3))
 | 0 => ⟨fun _ _ _ r h => by simp [gangsawref40_Of.j0] at h, fun _ _ _ _ r h => by simp [gangsawref40_Of.l0] at h⟩
 | k + 1 => by
  (obtain ⟨ih0, ih1⟩ := gangsawref40_Of.mono_l k); (refine ⟨?_, ?_⟩); (all_goals (intros; (first | unfold gangsawref40_Of.j0 | unfold gangsawref40_Of.l0)))
  all_goals (repeat' first
   | (with_reducible exact ih0 _ _ _)
   | (with_reducible exact ih1 _ _ _ _)
   | (with_reducible exact gangsawref40_Check.mono _ _)
   | (with_reducible exact LeO.refl _)
   | (with_reducible exact LeO.none _)
   | (with_reducible refine LeO.ite ?_ ?_)
   | (with_reducible refine LeO.bind ?_ (fun _ => ?_))
   | exact ih0 _ _ _
   | exact ih1 _ _ _ _
   | exact gangsawref40_Check.mono _ _
   | exact LeO.none _
   | refine LeO.ite ?_ ?_
   | refine LeO.bind ?_ (fun _ => ?_))
theorem gangsawref40_Of.mono : ∀ a0 a1 k, LeO (gangsawref40_Of.f k a0 a1) (gangsawref40_Of.f (k + 1) a0 a1) := by
 intro a0 a1 k
 obtain ⟨ih0, ih1⟩ := gangsawref40_Of.mono_l k
 unfold gangsawref40_Of.f
 repeat' first
   | (with_reducible exact ih0 _ _ _)
   | (with_reducible exact ih1 _ _ _ _)
   | (with_reducible exact gangsawref40_Check.mono _ _)
   | (with_reducible exact LeO.refl _)
   | (with_reducible exact LeO.none _)
   | (with_reducible refine LeO.ite ?_ ?_)
   | (with_reducible refine LeO.bind ?_ (fun _ => ?_))
   | exact ih0 _ _ _
   | exact ih1 _ _ _ _
   | exact gangsawref40_Check.mono _ _
   | exact LeO.none _
   | refine LeO.ite ?_ ?_
   | refine LeO.bind ?_ (fun _ => ?_)
def gangsawref40_Of.T7 : Bool × List (List Nat × List Nat) := (true, [([], []), ([], []), ([], []), ([2], [2]), ([1, 3], [1, 3]), ([4], [4]), ([], []), ([], []), ([6, 7], [6, 7]), ([8], [8]), ([], []), ([], []), ([10, 11], [10, 11]), ([12], [12]), ([], []), ([], []), ([15], [15]), ([14, 16], [14, 16]), ([17], [17]), ([5, 9, 13, 18], [5, 9, 13, 18]), ([19], [19]), ([0, 20], [0, 20]), ([21, 21, 0, 1, 2, 3, 4, 5, 6, 7, 8, 9, 10, 11, 12, 13, 14, 15, 16, 17, 18, 19, 20, 21], [0, 21])])
def gangsawref40_Of.B7 : List Nat := [0, 0, 0, 4, 14, 30, 0, 0, 192, 448, 0, 0, 3072, 7168, 0, 0, 32768, 114688, 245760, 524286, 1048574, 2097151, 4194303]
theorem gangsawref40_Of.tab7 : rtab .any (opsOf Try.f21 7) = gangsawref40_Of.T7 := by kernel_rfl
theorem gangsawref40_Of.bits7 : waitsOk gangsawref40_Of.T7.2 gangsawref40_Of.B7 = true := by kernel_rfl
set_option maxHeartbeats 8000000 in
set_option maxRecDepth 100000 in
theorem gangsawref40_Of.calls (k : Nat) (A0 : Option Addr) (c0 : Nat) (l0 : List (S46)) (A1 : Option Addr) (c1 : Nat) (l1 : List (S46)) (r1 : List (List (S46))) (r2 : Int) (w : World) (hr0 : Kd.C k46 w A0 l0.length l0) (hc0 : l0.length ≤ c0) (hr1 : Kd.C k46 w A1 l1.length l1) (hc1 : l1.length ≤ c1) (h : gangsawref40_Of.f k l0 l1 = some (r1, r2)) :
  Calls Try.prog 21 #[.slice A0 l0.length c0, .slice A1 l1.length c1] w fun e w' => ∃ v0_ : Value, e = .returned (.tuple #[v0_, .int .i64 r2]) ∧ Kd.S (Kd.slice 46 k46) 38 w' w.heap.size (fun _ => True) v0_ r1 ∧ Below w.heap.size w w' := by
 have hu46 := Try.underlying46
 have HR0 := Aside0.mk hr0
 have HC0 := Aside0.mk hc0
 clear hr0 hc0
 have HR1 := Aside0.mk hr1
 have HC1 := Aside0.mk hc1
 clear hr1 hc1
 have HB := Aside0.mk (Below.refl w.heap.size w)
 have H : (if (l0.length : Int) = (l1.length : Int) then (gangsawref40_Of.j0 k l0 l1 (decide ((l0.length : Int) < 2))) else (gangsawref40_Of.j0 k l0 l1 true)) = some (r1, r2) := h
 clear h
 have HC3 := Aside0.mk H
 clear H
 go_enter Try.func21, Try.ntmps21
 go_upto_region 1 with (fail)
 go_cut [18] (fun v18 wc => ∃ (kq : Nat) (x18_2 : Bool), v18 = .bool x18_2 ∧ Aside0 (gangsawref40_Of.j0 kq l0 l1 x18_2 = some (r1, r2)) ∧ Aside0 (kq ≤ k) ∧ Aside0 (Below w.heap.size w wc))
 case first =>
  (have H := HC3.out); (clear HC3); (by_cases c4 : (l0.length : Int) = (l1.length : Int))
  ·rw [if_pos c4] at H
   (have c4b0 := beq_iff_eq.mpr c4); (have c4b1 := bne_eq_false_iff_eq.mpr c4); (have c4b2 : (l0.length == l1.length) = true := by first | simpa using c4 | (simp at c4 ⊢; omega)); (clear c4); ((first | rw [c4b0] | (simp only [i64_w, i32_w]; rw [c4b0]) | skip)); (have H' := Aside0.mk H); (clear H); (go_wp2); (go_meet)
   case rel => exact ⟨_, (decide ((l0.length : Int) < 2)), (by first | rfl | (simp; done) | (simp [*]; done)), H', ⟨by first | omega | exact Nat.le_refl _⟩, ⟨hb_ HB⟩⟩
  ·rw [if_neg c4] at H
   (have c4b0 := beq_eq_false_iff_ne.mpr c4); (have c4b1 := bne_iff_ne.mpr c4); (have c4b2 : (l0.length == l1.length) = false := by first | simpa using c4 | (simp at c4 ⊢; omega)); ((first | rw [c4b0] | (simp only [i64_w, i32_w]; rw [c4b0]) | skip)); (have H' := Aside0.mk H); (clear H); (go_wp2); (go_meet)
   case rel => exact ⟨_, (true), (by first | rfl | (simp; done) | (simp [*]; done)), H', ⟨by first | omega | exact Nat.le_refl _⟩, ⟨hb_ HB⟩⟩
 case rest =>
  (clear HC3); (try clear c1); (try clear c2); (try clear p2); (try clear c4); (try clear c4b0); (try clear c4b1); (try clear c4b2); (obtain ⟨kq, x18_2, rfl, HA, HJ2, HB⟩ := hcut)
  cases kq with
  | zero => exact absurd HA.out (by simp [gangsawref40_Of.j0])
  | succ kj2 =>
   (have H := HA.out); (clear HA); (simp only [gangsawref40_Of.j0] at H); (by_cases c5 : x18_2 = true)
   ·(subst c5); (have H1 : (some (([] : List (List (S46))), 1)) = some (r1, r2) := by rw [if_pos rfl] at H; exact H); (clear H); (have H := H1); (clear H1); (simp only [Option.some.injEq, Prod.mk.injEq] at H); (obtain ⟨rfl, rfl⟩ := H); (go_wp2); (go_ret2); (exact ⟨_, by first | rfl | (simp [errW_none, errW_some] <;> rfl) | (simp [*, errW_none, errW_some] <;> rfl), by first | exact Kd.S_nil _ _ _ _ _ | exact Kd.N_nil _ _ _ _ _ | exact Kd.V_nil _ _ _ _ _ | exact Kd.Q_nil _ _ _ _ _ | exact Kd.R_nil _ _ _ _ _, hb_ HB⟩)
   ·replace c5 := Bool.eq_false_iff.mpr c5
    (subst c5); (have H1 : (gangsawref40_Of.l0 kj2 l0 l1 (([] : List (List (S46)))) 1) = some (r1, r2) := by rw [if_neg (show ¬ (false = true) by decide)] at H; exact H); (clear H); (have H := H1); (clear H1); (obtain ⟨y398, hy398⟩ : ∃ y_ : List (List (S46)), y_ = (([] : List (List (S46)))) := ⟨_, rfl⟩); (replace H : (gangsawref40_Of.l0 kj2 l0 l1 y398 1) = some (r1, r2) := by first | (rw [hy398]; with_reducible exact H) | (have H2_ := (Option.bind_some _ _).symm.trans H; rw [hy398]; with_reducible exact H2_) | (have H2_ := (Option.bind_some _ _).symm.trans H; with_reducible exact H2_) | with_reducible exact H | (rw [hy398]; exact H) | exact H); (have Ny398 := Aside0.mk hy398); (clear hy398); (have H' := Aside0.mk H); (clear H); (go_wp2_with (first | ((with_reducible refine gate_dst (N := 19) rfl ?_); refine Kd.S_lit (Kd.slice 46 k46) _ 38 ?hg (N := 19) ?hd (xs := ([] : List (List (S46)))) (inner := []) (ok := fun _ => True) (okp := fun _ => True) ?hr ?hp (fun _ hk => hk) trivial (Below.refl _ _) (Nat.le_refl _) (by simp) ?_; (case hd => rfl); (case hg => first | rfl | (go_simp; done)); (case hr => first | (go_simp; done) | (go_simp; rfl)); (case hp => exact (Reps.none _ _)); intro v399 w6 ho7 hb hg_ hnew_; clear hg_ hnew_; (first | rw [← Ny398.out] at ho7 | (simp only [Int.reduceToNat] at ho7; rw [← Ny398.out] at ho7)); have HO400 := Aside0.mk (Kd.S_lower ho7 (below_size (hb_ HB))); replace HB := hs_ HB hb; clear hb ho7))); (go_loopg [6, 7] kj2 (fun kq v6 v7 w' => ∃ (x6_2 : List (List (S46))) (x7_2 : Int), v7 = .int .i64 x7_2 ∧ Aside0 (gangsawref40_Of.l0 kq l0 l1 x6_2 x7_2 = some (r1, r2)) ∧ Aside0 (kq ≤ kj2) ∧ Aside0 (Kd.S (Kd.slice 46 k46) 38 w' w.heap.size (fun _ => True) v6 x6_2) ∧ Aside0 (Below w.heap.size w w')))
    case atStart => exact ⟨(y398), (1), (by first | rfl | (simp; done) | (simp [*]; done)), H', ⟨Nat.le_refl _⟩, ⟨by (with_reducible repeat (first | apply Kd.S_alloc | apply Kd.S_drewN | apply Kd.S_drew)); exact HO400.out⟩, ⟨hb_ HB⟩⟩
    case round =>
     (clear H'); (try clear c1); (try clear c2); (try clear p2); (try clear c4); (try clear c4b0); (try clear c4b1); (try clear c4b2); (try clear c5); (try clear p2); (obtain ⟨x6_2, x7_2, rfl, HA, HK2, HO_6, HB⟩ := hrel)
     cases gk with
     | zero => exact absurd HA.out (by simp [gangsawref40_Of.l0])
     | succ k2 =>
      (have H := HA.out); (clear HA); (simp only [gangsawref40_Of.l0] at H); (by_cases c8 : x7_2 < (l0.length : Int))
      ·rw [if_pos c8] at H
       (have c8b0 := decide_eq_true c8); (clear c8); (obtain ⟨ji9, hji9⟩ : ∃ j_ : Int, (wrap64 (x7_2 - 1)) = j_ := ⟨_, rfl⟩); (replace H : (if 0 ≤ (ji9) then (if (ji9) < (l0.length : Int) then (if 0 ≤ x7_2 then (if x7_2 < (l1.length : Int) then (if (ji9) < (l1.length : Int) then (if x6_2.length < 5864062014805 then (gangsawref40_Of.l0 k2 l0 l1 (x6_2 ++ [(([(⟨(rd_T46 l0 (ji9)).f0, (rd_T46 l0 (ji9)).f1⟩ : S46), (⟨(rd_T46 l0 x7_2).f0, (rd_T46 l0 x7_2).f1⟩ : S46), (⟨(rd_T46 l1 x7_2).f0, (rd_T46 l1 x7_2).f1⟩ : S46), (⟨(rd_T46 l1 (ji9)).f0, (rd_T46 l1 (ji9)).f1⟩ : S46)] : List (S46)))]) (wrap64 (x7_2 + 1))) else (none)) else (none)) else (none)) else (none)) else (none)) else (none)) = some (r1, r2) := by first | (rw [hji9] at H; exact H) | (simp only [hji9] at H ⊢; exact H)); (have hji9w : (IntKind.i64.wrap (x7_2 - 1)) = ji9 := (i64_w _).trans hji9); (by_cases c10 : 0 ≤ (ji9))
       ·rw [if_pos c10] at H
        (have c10b0 := decide_eq_true c10); (clear c10); (by_cases c11 : (ji9) < (l0.length : Int))
        ·rw [if_pos c11] at H
         (have c11b0 := decide_eq_true c11); (clear c11); (by_cases c12 : 0 ≤ x7_2)
         ·rw [if_pos c12] at H
          (have c12b0 := decide_eq_true c12); (clear c12); (by_cases c13 : x7_2 < (l1.length : Int))
          ·rw [if_pos c13] at H
           (have c13b0 := decide_eq_true c13); (clear c13); (by_cases c14 : (ji9) < (l1.length : Int))
           ·rw [if_pos c14] at H
            (have c14b0 := decide_eq_true c14); (clear c14); (obtain ⟨y405, hy405⟩ : ∃ y_ : List (S46), y_ = (([(⟨(rd_T46 l0 (ji9)).f0, (rd_T46 l0 (ji9)).f1⟩ : S46), (⟨(rd_T46 l0 x7_2).f0, (rd_T46 l0 x7_2).f1⟩ : S46), (⟨(rd_T46 l1 x7_2).f0, (rd_T46 l1 x7_2).f1⟩ : S46), (⟨(rd_T46 l1 (ji9)).f0, (rd_T46 l1 (ji9)).f1⟩ : S46)] : List (S46))) := ⟨_, rfl⟩); (replace H : (if x6_2.length < 5864062014805 then (gangsawref40_Of.l0 k2 l0 l1 (x6_2 ++ [y405]) (wrap64 (x7_2 + 1))) else (none)) = some (r1, r2) := by first | (rw [hy405]; with_reducible exact H) | (have H2_ := (Option.bind_some _ _).symm.trans H; rw [hy405]; with_reducible exact H2_) | (have H2_ := (Option.bind_some _ _).symm.trans H; with_reducible exact H2_) | with_reducible exact H | (rw [hy405]; exact H) | exact H); (have Ny405 := Aside0.mk hy405); (clear hy405); (by_cases c15 : x6_2.length < 5864062014805)
            ·rw [if_pos c15] at H
             (have LMc15 := Aside0.mk c15); (clear c15); (obtain ⟨y408, hy408⟩ : ∃ y_ : List (List (S46)), y_ = (x6_2 ++ [y405]) := ⟨_, rfl⟩); (replace H : (gangsawref40_Of.l0 k2 l0 l1 y408 (wrap64 (x7_2 + 1))) = some (r1, r2) := by first | (rw [hy408]; with_reducible exact H) | (have H2_ := (Option.bind_some _ _).symm.trans H; rw [hy408]; with_reducible exact H2_) | (have H2_ := (Option.bind_some _ _).symm.trans H; with_reducible exact H2_) | with_reducible exact H | (rw [hy408]; exact H) | exact H); (have Ny408 := Aside0.mk hy408); (clear hy408); (have H' := Aside0.mk H); (clear H); (try go_wp2); (replace HO_6 := Aside0.mk (Kd.S_drew HO_6.out)); (replace HB := Aside0.mk (below_drew1 HB.out)); (have p401 : 0 ≤ ((ji9) : Int) := of_decide_eq_true (by first | (with_reducible assumption) | assumption)); (have q401 : (ji9) < (l0.length : Int) := of_decide_eq_true (by first | (with_reducible assumption) | assumption)); (obtain ⟨ad401, e401, hx401_0, hx401_1⟩ := at_T46 HR0.out (ji9) p401 q401); (have hw401_1 := hx401_1); (have hw401_0 := hx401_0); (cases e401); (replace hx401_0 := (HB.out.cell (World.block_lt_of_cell? w _ hx401_0)).trans hx401_0); (replace hx401_1 := (HB.out.cell (World.block_lt_of_cell? w _ hx401_1)).trans hx401_1); (replace p401 := eq_true p401); (replace q401 := eq_true q401); (have p402 : 0 ≤ (x7_2 : Int) := of_decide_eq_true (by first | (with_reducible assumption) | assumption)); (have q402 : x7_2 < (l0.length : Int) := of_decide_eq_true (by first | (with_reducible assumption) | assumption)); (obtain ⟨ad402, e402, hx402_0, hx402_1⟩ := at_T46 HR0.out x7_2 p402 q402); (have hw402_1 := hx402_1); (have hw402_0 := hx402_0); (obtain rfl : ad401 = ad402 := (by injection e402)); (replace hx402_0 := (HB.out.cell (World.block_lt_of_cell? w _ hx402_0)).trans hx402_0); (replace hx402_1 := (HB.out.cell (World.block_lt_of_cell? w _ hx402_1)).trans hx402_1); (replace p402 := eq_true p402); (replace q402 := eq_true q402); (have p403 : 0 ≤ (x7_2 : Int) := of_decide_eq_true (by first | (with_reducible assumption) | assumption)); (have q403 : x7_2 < (l1.length : Int) := of_decide_eq_true (by first | (with_reducible assumption) | assumption)); (obtain ⟨ad403, e403, hx403_0, hx403_1⟩ := at_T46 HR1.out x7_2 p403 q403); (have hw403_1 := hx403_1); (have hw403_0 := hx403_0); (cases e403); (replace hx403_0 := (HB.out.cell (World.block_lt_of_cell? w _ hx403_0)).trans hx403_0); (replace hx403_1 := (HB.out.cell (World.block_lt_of_cell? w _ hx403_1)).trans hx403_1); (replace p403 := eq_true p403); (replace q403 := eq_true q403); (have p404 : 0 ≤ ((ji9) : Int) := of_decide_eq_true (by first | (with_reducible assumption) | assumption)); (have q404 : (ji9) < (l1.length : Int) := of_decide_eq_true (by first | (with_reducible assumption) | assumption)); (obtain ⟨ad404, e404, hx404_0, hx404_1⟩ := at_T46 HR1.out (ji9) p404 q404); (have hw404_1 := hx404_1); (have hw404_0 := hx404_0); (obtain rfl : ad403 = ad404 := (by injection e404)); (replace hx404_0 := (HB.out.cell (World.block_lt_of_cell? w _ hx404_0)).trans hx404_0); (replace hx404_1 := (HB.out.cell (World.block_lt_of_cell? w _ hx404_1)).trans hx404_1); (replace p404 := eq_true p404); (replace q404 := eq_true q404); (refine start_ (n := 23) (S := fun w' => w'.cell? (ad401.add (((ji9)).toNat * 2)) = some (.int .i64 ((rd_T46 l0 (ji9)).f0)) ∧ w'.cell? ⟨(ad401.add (((ji9)).toNat * 2)).block, (ad401.add (((ji9)).toNat * 2)).off + 1, none⟩ = some (.int .i64 ((rd_T46 l0 (ji9)).f1)) ∧ w'.cell? (ad401.add ((x7_2).toNat * 2)) = some (.int .i64 ((rd_T46 l0 x7_2).f0)) ∧ w'.cell? ⟨(ad401.add ((x7_2).toNat * 2)).block, (ad401.add ((x7_2).toNat * 2)).off + 1, none⟩ = some (.int .i64 ((rd_T46 l0 x7_2).f1)) ∧ w'.cell? (ad403.add ((x7_2).toNat * 2)) = some (.int .i64 ((rd_T46 l1 x7_2).f0)) ∧ w'.cell? ⟨(ad403.add ((x7_2).toNat * 2)).block, (ad403.add ((x7_2).toNat * 2)).off + 1, none⟩ = some (.int .i64 ((rd_T46 l1 x7_2).f1)) ∧ w'.cell? (ad403.add (((ji9)).toNat * 2)) = some (.int .i64 ((rd_T46 l1 (ji9)).f0)) ∧ w'.cell? ⟨(ad403.add (((ji9)).toNat * 2)).block, (ad403.add (((ji9)).toNat * 2)).off + 1, none⟩ = some (.int .i64 ((rd_T46 l1 (ji9)).f1))) (ds := []) (bm 23 0) (by kernel_rfl) rfl rfl ⟨((HB.out.cell (World.block_lt_of_cell? w _ hw401_0)).trans hw401_0), ((HB.out.cell (World.block_lt_of_cell? w _ hw401_1)).trans hw401_1), ((HB.out.cell (World.block_lt_of_cell? w _ hw402_0)).trans hw402_0), ((HB.out.cell (World.block_lt_of_cell? w _ hw402_1)).trans hw402_1), ((HB.out.cell (World.block_lt_of_cell? w _ hw403_0)).trans hw403_0), ((HB.out.cell (World.block_lt_of_cell? w _ hw403_1)).trans hw403_1), ((HB.out.cell (World.block_lt_of_cell? w _ hw404_0)).trans hw404_0), ((HB.out.cell (World.block_lt_of_cell? w _ hw404_1)).trans hw404_1)⟩ (fun hHeld => ?_); refine with_tabW gangsawref40_Of.tab7 gangsawref40_Of.bits7 (fun HT_ HW_ => ?_))
             (generalize wr.drew = w16 at HO_6 HB hx401_0 hx401_1 hx402_0 hx402_1 hx403_0 hx403_1 hx404_0 hx404_1 hHeld ⊢); (refine pv_ 0 HT_ ?_); (refine pv_ 1 HT_ ?_); (refine pv_ 2 HT_ ?_); (refine pv_ 3 HT_ ?_); (refine pv_ 4 HT_ ?_); (refine pv_ 6 HT_ ?_); (refine pv_ 7 HT_ ?_); (refine pv_ 8 HT_ ?_); (refine pv_ 10 HT_ ?_); (refine pv_ 11 HT_ ?_); (refine pv_ 12 HT_ ?_); (refine pv_ 14 HT_ ?_); (refine pv_ 15 HT_ ?_); (refine pv_ 16 HT_ ?_); (refine pv_ 17 HT_ ?_); (refine tv_ 5 HT_ HW_ hHeld ?_); (refine tv_ 9 HT_ HW_ hHeld ?_); (refine tv_ 13 HT_ HW_ hHeld ?_); (refine tv_ 18 HT_ HW_ hHeld ?_); (refine one_ (i := 19) (N := some 45) (bm 23 1048575) rfl rfl (one_of HT_.out (by kernel_rfl)) (by decide) (fun K hK => ?_)); (refine Kd.R_lit_step k46 _ 46 ?hg (N := 45) ?hd (xs := ([(⟨(rd_T46 l0 (ji9)).f0, (rd_T46 l0 (ji9)).f1⟩ : S46), (⟨(rd_T46 l0 x7_2).f0, (rd_T46 l0 x7_2).f1⟩ : S46), (⟨(rd_T46 l1 x7_2).f0, (rd_T46 l1 x7_2).f1⟩ : S46), (⟨(rd_T46 l1 (ji9)).f0, (rd_T46 l1 (ji9)).f1⟩ : S46)] : List (S46))) (inner := [.int .i64 ((rd_T46 l0 (ji9)).f0), .int .i64 ((rd_T46 l0 (ji9)).f1), .int .i64 ((rd_T46 l0 x7_2).f0), .int .i64 ((rd_T46 l0 x7_2).f1), .int .i64 ((rd_T46 l1 x7_2).f0), .int .i64 ((rd_T46 l1 x7_2).f1), .int .i64 ((rd_T46 l1 (ji9)).f0), .int .i64 ((rd_T46 l1 (ji9)).f1)]) (ok := fun _ => True) (okp := fun _ => True) ?hr ?hp (fun _ hk => hk) trivial (Below.refl _ _) (Nat.le_refl _) (by simp) ?_; (case hd => rfl); (case hg => first | rfl | (go_simp; done)); (case hr => first | (go_simp; done) | (go_simp; rfl)); (case hp => exact (Reps.c2 (show Kd.M k46 _ _ _ (⟨(rd_T46 l0 (ji9)).f0, (rd_T46 l0 (ji9)).f1⟩ : S46) [.int .i64 ((rd_T46 l0 (ji9)).f0), .int .i64 ((rd_T46 l0 (ji9)).f1)] from (k46_mkM _ _ _ (⟨(rd_T46 l0 (ji9)).f0, (rd_T46 l0 (ji9)).f1⟩ : S46) )) (Reps.c2 (show Kd.M k46 _ _ _ (⟨(rd_T46 l0 x7_2).f0, (rd_T46 l0 x7_2).f1⟩ : S46) [.int .i64 ((rd_T46 l0 x7_2).f0), .int .i64 ((rd_T46 l0 x7_2).f1)] from (k46_mkM _ _ _ (⟨(rd_T46 l0 x7_2).f0, (rd_T46 l0 x7_2).f1⟩ : S46) )) (Reps.c2 (show Kd.M k46 _ _ _ (⟨(rd_T46 l1 x7_2).f0, (rd_T46 l1 x7_2).f1⟩ : S46) [.int .i64 ((rd_T46 l1 x7_2).f0), .int .i64 ((rd_T46 l1 x7_2).f1)] from (k46_mkM _ _ _ (⟨(rd_T46 l1 x7_2).f0, (rd_T46 l1 x7_2).f1⟩ : S46) )) (Reps.c2 (show Kd.M k46 _ _ _ (⟨(rd_T46 l1 (ji9)).f0, (rd_T46 l1 (ji9)).f1⟩ : S46) [.int .i64 ((rd_T46 l1 (ji9)).f0), .int .i64 ((rd_T46 l1 (ji9)).f1)] from (k46_mkM _ _ _ (⟨(rd_T46 l1 (ji9)).f0, (rd_T46 l1 (ji9)).f1⟩ : S46) )) (Reps.none _ _))))))); (intro v406 w17 ho18 hb hg_ hnew_); (clear hg_ hnew_); ((first | rw [← Ny405.out] at ho18 | (simp only [Int.reduceToNat] at ho18; rw [← Ny405.out] at ho18))); (replace HO_6 := Aside0.mk (Kd.S_elder' (by (with_reducible repeat (first | apply Kd.S_alloc | apply Kd.S_drewN | apply Kd.S_drew)); exact HO_6.out) (Kd.R_base ho18) hb)); (have HO407 := Aside0.mk (Kd.R_lower ho18 (below_size (hb_ HB)))); (replace HB := hs_ HB hb); (clear hb ho18); (obtain ⟨Ao20, co20, eo20⟩ := Kd.R_slice HO407.out); ((first | subst eo20 | (injection eo20 with f1_ f2_ f3_; have f4_ := f1_.symm; have f5_ := f3_.symm; clear f1_ f2_ f3_; subst f4_; subst f5_)))
             (refine hK.out _ _ ⟨((HB.out.cell (World.block_lt_of_cell? w _ hw401_0)).trans hw401_0), ((HB.out.cell (World.block_lt_of_cell? w _ hw401_1)).trans hw401_1), ((HB.out.cell (World.block_lt_of_cell? w _ hw402_0)).trans hw402_0), ((HB.out.cell (World.block_lt_of_cell? w _ hw402_1)).trans hw402_1), ((HB.out.cell (World.block_lt_of_cell? w _ hw403_0)).trans hw403_0), ((HB.out.cell (World.block_lt_of_cell? w _ hw403_1)).trans hw403_1), ((HB.out.cell (World.block_lt_of_cell? w _ hw404_0)).trans hw404_0), ((HB.out.cell (World.block_lt_of_cell? w _ hw404_1)).trans hw404_1)⟩ (fun hHeld => ?_)); (clear hK K); (refine nv_ ?_); (refine one_ (i := 20) (N := some 46) (bm 23 2097151) rfl rfl (one_of HT_.out (by kernel_rfl)) (by decide) (fun K hK => ?_)); (refine value_ (w1 := ?_) (v := ?_) (by rfl) rfl ?_ ?_); (rotate_left 2)
             ·go_simp
              constructor
              ·rfl
              ·rfl
             (refine hK.out _ _ ⟨(World.cell?_alloc_lt _ _ _ (World.block_lt_of_cell? _ _ (((HB.out.cell (World.block_lt_of_cell? w _ hw401_0)).trans hw401_0)))).trans (((HB.out.cell (World.block_lt_of_cell? w _ hw401_0)).trans hw401_0)), (World.cell?_alloc_lt _ _ _ (World.block_lt_of_cell? _ _ (((HB.out.cell (World.block_lt_of_cell? w _ hw401_1)).trans hw401_1)))).trans (((HB.out.cell (World.block_lt_of_cell? w _ hw401_1)).trans hw401_1)), (World.cell?_alloc_lt _ _ _ (World.block_lt_of_cell? _ _ (((HB.out.cell (World.block_lt_of_cell? w _ hw402_0)).trans hw402_0)))).trans (((HB.out.cell (World.block_lt_of_cell? w _ hw402_0)).trans hw402_0)), (World.cell?_alloc_lt _ _ _ (World.block_lt_of_cell? _ _ (((HB.out.cell (World.block_lt_of_cell? w _ hw402_1)).trans hw402_1)))).trans (((HB.out.cell (World.block_lt_of_cell? w _ hw402_1)).trans hw402_1)), (World.cell?_alloc_lt _ _ _ (World.block_lt_of_cell? _ _ (((HB.out.cell (World.block_lt_of_cell? w _ hw403_0)).trans hw403_0)))).trans (((HB.out.cell (World.block_lt_of_cell? w _ hw403_0)).trans hw403_0)), (World.cell?_alloc_lt _ _ _ (World.block_lt_of_cell? _ _ (((HB.out.cell (World.block_lt_of_cell? w _ hw403_1)).trans hw403_1)))).trans (((HB.out.cell (World.block_lt_of_cell? w _ hw403_1)).trans hw403_1)), (World.cell?_alloc_lt _ _ _ (World.block_lt_of_cell? _ _ (((HB.out.cell (World.block_lt_of_cell? w _ hw404_0)).trans hw404_0)))).trans (((HB.out.cell (World.block_lt_of_cell? w _ hw404_0)).trans hw404_0)), (World.cell?_alloc_lt _ _ _ (World.block_lt_of_cell? _ _ (((HB.out.cell (World.block_lt_of_cell? w _ hw404_1)).trans hw404_1)))).trans (((HB.out.cell (World.block_lt_of_cell? w _ hw404_1)).trans hw404_1))⟩ (fun hHeld => ?_)); (clear hK K); (refine nv_ ?_); (refine one_ (i := 21) (N := some 47) (bm 23 4194303) rfl rfl (one_of HT_.out (by kernel_rfl)) (by decide) (fun K hK => ?_)); (refine Kd.S_append_step (Kd.slice 46 k46) (w0 := w) w.heap.size (by rfl) (.tmp 26) (.tmp 46) 22 38 (.slice none 0 0) 24 rfl Try.underlying22 info38 rfl (by decide) (by omega) u6 x6_2 y405 [.slice Ao20 y405.length co20] (fun _ => True) (fun k_ => some k_ = (.slice Ao20 y405.length co20 : Value).ownBlock) rfl rfl ?aP (fun k_ hk_ => ((Kd.R_mono (ok' := fun k_ => ((fun _ => True)) k_ ∧ some k_ ≠ (u6 : Value).ownBlock) (Kd.R_apart' (HO407.out) (Kd.S_typed HO_6.out) (by decide)) (fun k_ hk => ⟨trivial, hk.2⟩))).1 k_ hk_.symm) ?aF ?aO ?aB ?aS ?aL ?_); ((case aP => exact Kd.M_row (Kd.R_mono (Kd.R_tight rfl (Kd.R_mono (ok' := fun k_ => ((fun _ => True)) k_ ∧ some k_ ≠ (u6 : Value).ownBlock) (Kd.R_apart' (HO407.out) (Kd.S_typed HO_6.out) (by decide)) (fun k_ hk => ⟨trivial, hk.2⟩))) (fun _ h_ => h_)))); ((case aB => exact (hb_ HB))); ((case aF => exact (fun _ _ => trivial))); ((case aO => exact (by (with_reducible repeat (first | apply Kd.S_alloc | apply Kd.S_drewN | apply Kd.S_drew)); exact Kd.S_mono HO_6.out (fun k_ hk => ⟨trivial, fun e_ => hk.2 e_⟩)))); ((case aS => exact (below_size (hb_ HB))))
             ((case aL => have := LMc15.out; omega)); (intro v409 w19 ho hb hg hat); (rw [← Ny408.out] at ho); (have n0_ := Aside0.mk (hb)); (have n1_ := Aside0.mk (ho)); (clear HB); (clear HO_6); (clear HO407); (have HB := n0_); (have HO410 := n1_); (clear n0_ n1_); (clear ho hb hg hat); (refine hK.out _ _ ⟨((HB.out.cell (World.block_lt_of_cell? w _ hw401_0)).trans hw401_0), ((HB.out.cell (World.block_lt_of_cell? w _ hw401_1)).trans hw401_1), ((HB.out.cell (World.block_lt_of_cell? w _ hw402_0)).trans hw402_0), ((HB.out.cell (World.block_lt_of_cell? w _ hw402_1)).trans hw402_1), ((HB.out.cell (World.block_lt_of_cell? w _ hw403_0)).trans hw403_0), ((HB.out.cell (World.block_lt_of_cell? w _ hw403_1)).trans hw403_1), ((HB.out.cell (World.block_lt_of_cell? w _ hw404_0)).trans hw404_0), ((HB.out.cell (World.block_lt_of_cell? w _ hw404_1)).trans hw404_1)⟩ (fun hHeld => ?_)); (clear hK K); (refine nv_ ?_); (refine pv_ 22 HT_ ?_); (refine done_ (done_of HT_.out (by kernel_rfl)) ?_); (try go_wp2); (go_roundg k2)
             case measure => have := HJ2.out; have := HK2.out; omega
             case rel => exact ⟨(y408), (wrap64 (x7_2 + 1)), (by first | rfl | (simp; done) | (simp [*]; done)), H', ⟨by have := HJ2.out; have := HK2.out; omega⟩, ⟨by (with_reducible repeat (first | apply Kd.S_alloc | apply Kd.S_drewN | apply Kd.S_drew)); exact HO410.out⟩, ⟨hb_ HB⟩⟩
            ·(rw [if_neg c15] at H); (exact absurd H (by simp))
           ·(rw [if_neg c14] at H); (exact absurd H (by simp))
          ·(rw [if_neg c13] at H); (exact absurd H (by simp))
         ·(rw [if_neg c12] at H); (exact absurd H (by simp))
        ·(rw [if_neg c11] at H); (exact absurd H (by simp))
       ·(rw [if_neg c10] at H); (exact absurd H (by simp))
      ·rw [if_neg c8] at H
       (have c8b0 := decide_eq_false c8); (clear c8); (replace H := Option.bind_eq_some_iff.mp H); (obtain ⟨t411, A210, H⟩ := H); (replace H : (if t411 = 0 then (some (x6_2, 0)) else (some (([] : List (List (S46))), t411))) = some (r1, r2) := H); (have A21 := Aside0.mk A210); (clear A210); (by_cases c22 : t411 = 0)
       ·(rw [if_pos c22] at H); (have c22b0 := beq_iff_eq.mpr c22); (have c22b1 := bne_eq_false_iff_eq.mpr c22); (clear c22); (simp only [Option.some.injEq, Prod.mk.injEq] at H); (obtain ⟨rfl, rfl⟩ := H); (obtain ⟨Ao23, co23, eo23⟩ := Kd.S_slice HO_6.out); (subst eo23); (go_wp2_with (first | ((with_reducible refine gate_callee (f := 15) rfl ?_); refine goesL_ (some 49) rfl rfl Try.func15 (by kernel_rfl) rfl #[.slice Ao23 x6_2.length co23] rfl (by (try simp only [List.map_toArray, List.map_cons, List.map_nil]); first | done | rfl | (simp only [List.length_drop, List.length_take]; rfl)) ?_; (with_reducible refine (gangsawref40_Check.calls k2 _ _ x6_2 t411 _ ?side1 ?side2 A21.out).mono ?_); (case side1 => repeat (first | exact (Kd.S_reads' HO_6.out).2.2 | (with_reducible refine Kd.C_alloc ?_ _) | (with_reducible refine Kd.C_drewN ?_ _) | (with_reducible refine Kd.C_drew ?_))); (case side2 => exact (Kd.S_reads' HO_6.out).2.1); rintro e w24 ⟨rfl, hb⟩; refine ⟨_, rfl, ?_⟩; replace HO_6 := Aside0.mk (Kd.S_below (by (with_reducible repeat (first | apply Kd.S_alloc | apply Kd.S_drewN | apply Kd.S_drew)); exact HO_6.out) hb); replace HB := hs_ HB hb; (try clear hb); (try clear hb2); (try clear hk); (try clear hi)))); (go_ret2); (exact ⟨_, by first | rfl | (simp [errW_none, errW_some] <;> rfl) | (simp [*, errW_none, errW_some] <;> rfl), by (with_reducible repeat (first | apply Kd.S_alloc | apply Kd.S_drewN | apply Kd.S_drew)); exact HO_6.out, hb_ HB⟩)
       ·(rw [if_neg c22] at H); (have c22b0 := beq_eq_false_iff_ne.mpr c22); (have c22b1 := bne_iff_ne.mpr c22); (simp only [Option.some.injEq, Prod.mk.injEq] at H); (obtain ⟨rfl, rfl⟩ := H); (obtain ⟨Ao25, co25, eo25⟩ := Kd.S_slice HO_6.out); (subst eo25); (go_wp2_with (first | ((with_reducible refine gate_callee (f := 15) rfl ?_); refine goesL_ (some 49) rfl rfl Try.func15 (by kernel_rfl) rfl #[.slice Ao25 x6_2.length co25] rfl (by (try simp only [List.map_toArray, List.map_cons, List.map_nil]); first | done | rfl | (simp only [List.length_drop, List.length_take]; rfl)) ?_; (with_reducible refine (gangsawref40_Check.calls k2 _ _ x6_2 t411 _ ?side1 ?side2 A21.out).mono ?_); (case side1 => repeat (first | exact (Kd.S_reads' HO_6.out).2.2 | (with_reducible refine Kd.C_alloc ?_ _) | (with_reducible refine Kd.C_drewN ?_ _) | (with_reducible refine Kd.C_drew ?_))); (case side2 => exact (Kd.S_reads' HO_6.out).2.1); rintro e w26 ⟨rfl, hb⟩; refine ⟨_, rfl, ?_⟩; replace HO_6 := Aside0.mk (Kd.S_below (by (with_reducible repeat (first | apply Kd.S_alloc | apply Kd.S_drewN | apply Kd.S_drew)); exact HO_6.out) hb); replace HB := hs_ HB hb; (try clear hb); (try clear hb2); (try clear hk); (try clear hi)))); (go_ret2); (exact ⟨_, by first | rfl | (simp [errW_none, errW_some] <;> rfl) | (simp [*, errW_none, errW_some] <;> rfl), by first | exact Kd.S_nil _ _ _ _ _ | exact Kd.N_nil _ _ _ _ _ | exact Kd.V_nil _ _ _ _ _ | exact Kd.Q_nil _ _ _ _ _ | exact Kd.R_nil _ _ _ _ _, hb_ HB⟩)

/-! ### gangsawlaw40_ArchLines: function 4 -/
mutual
def gangsawlaw40_ArchLines.j0 : Nat → List (S46) → List (S46) → Bool → Option (Bool)
 | 0, _, _, _ => none
 | k + 1, x0, x1, x16 => if x16 = true then ((gangsawlaw40_awake.f k).bind fun t412 => (some t412)) else (gangsawlaw40_ArchLines.j1 k x0 x1)
def gangsawlaw40_ArchLines.j1 : Nat → List (S46) → List (S46) → Option (Bool)
 | 0, _, _ => none
 | k + 1, x0, x1 => (arch_Of.f k x0 x1).bind fun bt413 => (gangsawlaw40_ArchLines.j2 k x0 x1 bt413.1 bt413.2)
def gangsawlaw40_ArchLines.j2 : Nat → List (S46) → List (S46) → List (List (S46)) → Int → Option (Bool)
 | 0, _, _, _, _ => none
 | k + 1, x0, x1, x5, x6 => (gangsawref40_Of.f k x0 x1).bind fun bt417 => (gangsawlaw40_ArchLines.j3 k x5 x6 bt417.1 bt417.2)
def gangsawlaw40_ArchLines.j3 : Nat → List (List (S46)) → Int → List (List (S46)) → Int → Option (Bool)
 | 0, _, _, _, _ => none
 | k + 1, x5, x6, x7, x8 => (gangsawlaw40_awake.f k).bind fun t421 => (if t421 = true then (if x6 = x8 then ((gangsawref40_Same.f k x5 x7).bind fun t422 => (gangsawlaw40_ArchLines.j4 k t422)) else (gangsawlaw40_ArchLines.j4 k false)) else (gangsawlaw40_ArchLines.j4 k false))
def gangsawlaw40_ArchLines.j4 : Nat → Bool → Option (Bool)
 | 0, _ => none
 | k + 1, x4 => some x4
end
def gangsawlaw40_ArchLines.f (k : Nat) (l0 : List (S46)) (l1 : List (S46)) : Option (Bool) := if (l0.length : Int) > 70 then (gangsawlaw40_ArchLines.j0 k l0 l1 true) else (gangsawlaw40_ArchLines.j0 k l0 l1 (decide ((l1.length : Int) > 70)))
theorem gangsawlaw40_ArchLines.mono_l : ∀ k, (∀ y0 y1 y2, LeO (gangsawlaw40_ArchLines.j0 k y0 y1 y2) (gangsawlaw40_ArchLines.j0 (k + 1) y0 y1 y2)) ∧ (∀ y0 y1, LeO (gangsawlaw40_ArchLines.j1 k y0 y1) (gangsawlaw40_ArchLines.j1 (k + 1) y0 y1)) ∧ (∀ y0 y1 y2 y3, LeO (gangsawlaw40_ArchLines.j2 k y0 y1 y2 y3) (gangsawlaw40_ArchLines.j2 (k + 1) y0 y1 y2 y3)) ∧ (∀ y0 y1 y2 y3, LeO (gangsawlaw40_ArchLines.j3 k y0 y1 y2 y3) (gangsawlaw40_ArchLines.j3 (k + 1) y0 y1 y2 y3)) ∧ (∀ y0, LeO (gangsawlaw40_ArchLines.j4 k y0) (gangsawlaw40_ArchLines.j4 (k + 1) y0))
 | 0 => ⟨fun _ _ _ r h => by simp [gangsawlaw40_ArchLines.j0] at h, fun _ _ r h => by simp [gangsawlaw40_ArchLines.j1] at h, fun _ _ _ _ r h => by simp [gangsawlaw40_ArchLines.j2] at h, fun _ _ _ _ r h => by simp [gangsawlaw40_ArchLines.j3] at h, fun _ r h => by simp [gangsawlaw40_ArchLines.j4] at h⟩
 | k + 1 => by
  (obtain ⟨ih0, ih1, ih2, ih3, ih4⟩ := gangsawlaw40_ArchLines.mono_l k); (refine ⟨?_, ?_, ?_, ?_, ?_⟩); (all_goals (intros; (first | unfold gangsawlaw40_ArchLines.j0 | unfold gangsawlaw40_ArchLines.j1 | unfold gangsawlaw40_ArchLines.j2 | unfold gangsawlaw40_ArchLines.j3 | unfold gangsawlaw40_ArchLines.j4)))
  all_goals (repeat' first
   | (with_reducible exact ih0 _ _ _)
   | (with_reducible exact ih1 _ _)
   | (with_reducible exact ih2 _ _ _ _)
   | (with_reducible exact ih3 _ _ _ _)
   | (with_reducible exact ih4 _)
   | (with_reducible exact arch_Of.mono _ _ _)
   | (with_reducible exact gangsawlaw40_awake.mono _)
   | (with_reducible exact gangsawref40_Of.mono _ _ _)
   | (with_reducible exact gangsawref40_Same.mono _ _ _)
   | (with_reducible exact LeO.refl _)
   | (with_reducible exact LeO.none _)
   | (with_reducible refine LeO.ite ?_ ?_)
   | (with_reducible refine LeO.bind ?_ (fun _ => ?_))
   | exact ih0 _ _ _
   | exact ih1 _ _
   | exact ih2 _ _ _ _
   | exact ih3 _ _ _ _
   | exact ih4 _
   | exact arch_Of.mono _ _ _
   | exact gangsawlaw40_awake.mono _
   | exact gangsawref40_Of.mono _ _ _
   | exact gangsawref40_Same.mono _ _ _
   | exact LeO.none _
   | refine LeO.ite ?_ ?_
   | refine LeO.bind ?_ (fun _ => ?_))
theorem gangsawlaw40_ArchLines.mono : ∀ a0 a1 k, LeO (gangsawlaw40_ArchLines.f k a0 a1) (gangsawlaw40_ArchLines.f (k + 1) a0 a1) := by
 intro a0 a1 k
 obtain ⟨ih0, ih1, ih2, ih3, ih4⟩ := gangsawlaw40_ArchLines.mono_l k
 unfold gangsawlaw40_ArchLines.f
 repeat' first
   | (with_reducible exact ih0 _ _ _)
   | (with_reducible exact ih1 _ _)
   | (with_reducible exact ih2 _ _ _ _)
   | (with_reducible exact ih3 _ _ _ _)
   | (with_reducible exact ih4 _)
   | (with_reducible exact arch_Of.mono _ _ _)
   | (with_reducible exact gangsawlaw40_awake.mono _)
   | (with_reducible exact gangsawref40_Of.mono _ _ _)
   | (with_reducible exact gangsawref40_Same.mono _ _ _)
   | (with_reducible exact LeO.refl _)
   | (with_reducible exact LeO.none _)
   | (with_reducible refine LeO.ite ?_ ?_)
   | (with_reducible refine LeO.bind ?_ (fun _ => ?_))
   | exact ih0 _ _ _
   | exact ih1 _ _
   | exact ih2 _ _ _ _
   | exact ih3 _ _ _ _
   | exact ih4 _
   | exact arch_Of.mono _ _ _
   | exact gangsawlaw40_awake.mono _
   | exact gangsawref40_Of.mono _ _ _
   | exact gangsawref40_Same.mono _ _ _
   | exact LeO.none _
   | refine LeO.ite ?_ ?_
   | refine LeO.bind ?_ (fun _ => ?_)
set_option maxHeartbeats 8000000 in
set_option maxRecDepth 100000 in
theorem gangsawlaw40_ArchLines.calls (k : Nat) (A0 : Option Addr) (c0 : Nat) (l0 : List (S46)) (A1 : Option Addr) (c1 : Nat) (l1 : List (S46)) (r : Bool) (w : World) (hr0 : Kd.C k46 w A0 l0.length l0) (hc0 : l0.length ≤ c0) (hr1 : Kd.C k46 w A1 l1.length l1) (hc1 : l1.length ≤ c1) (h : gangsawlaw40_ArchLines.f k l0 l1 = some r) :
  Calls Try.prog 4 #[.slice A0 l0.length c0, .slice A1 l1.length c1] w fun e w' => e = .returned (.bool r) ∧ Below w.heap.size w w' := by
 have HR0 := Aside0.mk hr0
 have HC0 := Aside0.mk hc0
 clear hr0 hc0
 have HR1 := Aside0.mk hr1
 have HC1 := Aside0.mk hc1
 clear hr1 hc1
 have HB := Aside0.mk (Below.refl w.heap.size w)
 have H : (if (l0.length : Int) > 70 then (gangsawlaw40_ArchLines.j0 k l0 l1 true) else (gangsawlaw40_ArchLines.j0 k l0 l1 (decide ((l1.length : Int) > 70)))) = some r := h
 clear h
 have HC3 := Aside0.mk H
 clear H
 go_enter Try.func4, Try.ntmps4
 go_upto_region 1 with (fail)
 refine cutU_ [none, none, none, none, none, none, none, none, none, some 9, some 10, some 11, some 12, some 13, some 14, some 15, some 16, some 17, some 18, some 19, some 20, some 21, some 22, some 23, some 24, some 25, some 26, some 27, some 28, some 29, some 30, some 31, some 32, some 33, some 34, some 35, some 36, some 37, some 38, some 39, some 40] (fun u_ wc_ => (fun v16 wc => ∃ (kq : Nat) (x16_2 : Bool), v16 = .bool x16_2 ∧ Aside0 (gangsawlaw40_ArchLines.j0 kq l0 l1 x16_2 = some r) ∧ Aside0 (kq ≤ k) ∧ Aside0 (Below w.heap.size w wc)) (u_ 16) wc_) ?rest0 ?first0
 case' rest0 => (intro u_ wc hcut; dsimp only [fg_, List.toList_toArray] at hcut ⊢; generalize u_ 16 = u16 at hcut ⊢)
 case' first0 => (intro _ _ _ _)
 case first0 =>
  (have H := HC3.out); (clear HC3); (by_cases c4 : (l0.length : Int) > 70)
  ·rw [if_pos c4] at H
   (have c4b0 := decide_eq_true c4); (have c4b1 : decide (70 < l0.length) = true := decide_eq_true (by omega)); (clear c4); ((first | rw [c4b0] | (simp only [i64_w, i32_w]; rw [c4b0]) | skip)); (have H' := Aside0.mk H); (clear H); (go_wp2); (refine Met.intro ?_); (go_step); (refine meetU_ ?rel)
   case rel => exact ⟨_, (true), (by first | rfl | (simp; done) | (simp [*]; done)), H', ⟨by first | omega | exact Nat.le_refl _⟩, ⟨hb_ HB⟩⟩
  ·rw [if_neg c4] at H
   (have c4b0 := decide_eq_false c4); (have c4b1 : decide (70 < l0.length) = false := decide_eq_false (by omega)); (clear c4); ((first | rw [c4b0] | (simp only [i64_w, i32_w]; rw [c4b0]) | skip)); (have H' := Aside0.mk H); (clear H); (go_wp2); (refine Met.intro ?_); (go_step); (refine meetU_ ?rel)
   case rel => exact ⟨_, (decide ((l1.length : Int) > 70)), (by first | rfl | (simp; done) | (simp [*]; done)), H', ⟨by first | omega | exact Nat.le_refl _⟩, ⟨hb_ HB⟩⟩
 case rest0 =>
  (clear HC3); (try clear c1); (try clear p2); (try clear c4); (try clear c4b0); (try clear c4b1); (obtain ⟨kq, x16_2, rfl, HA, HJ2, HB⟩ := hcut)
  cases kq with
  | zero => exact absurd HA.out (by simp [gangsawlaw40_ArchLines.j0])
  | succ kj2 =>
   (have H := HA.out); (clear HA); (simp only [gangsawlaw40_ArchLines.j0] at H); (have HC5 := Aside0.mk H); (clear H); (go_upto_if 16 with (fail)); (refine cutU_ [none, none, none, none, some 4, none, none, none, none, some 9, some 10, some 11, some 12, some 13, some 14, some 15, some 16, some 17, some 18, some 19, some 20, some 21, some 22, some 23, some 24, some 25, some 26, some 27, some 28, some 29, some 30, some 31, some 32, some 33, some 34, some 35, some 36, some 37, some 38, some 39, some 40] (fun u_ wc_ => (fun wc => ∃ (kq : Nat), Aside0 (gangsawlaw40_ArchLines.j1 kq l0 l1 = some r) ∧ Aside0 (kq ≤ kj2) ∧ Aside0 (Below w.heap.size w wc))  wc_) ?rest1 ?first1); (case' rest1 => (intro u_ wc hcut; dsimp only [fg_, List.toList_toArray] at hcut ⊢)); (case' first1 => (intro _ _ _ _))
   case first1 =>
    (have H := HC5.out); (clear HC5); (by_cases c6 : x16_2 = true)
    ·(subst c6); (have H1 : ((gangsawlaw40_awake.f kj2).bind fun t412 => (some t412)) = some r := by rw [if_pos rfl] at H; exact H); (clear H); (have H := H1); (clear H1); (replace H := Option.bind_eq_some_iff.mp H); (obtain ⟨t412, A70, H⟩ := H); (replace H : (some t412) = some r := H); (have A7 := Aside0.mk A70); (clear A70); (obtain rfl := Option.some.inj H); (go_wp2_with (first | ((with_reducible refine gate_callee (f := 11) rfl ?_); refine goesL_ (some 17) rfl rfl Try.func11 (by kernel_rfl) rfl #[] rfl (by (try simp only [List.map_toArray, List.map_cons, List.map_nil]); first | done | rfl | (simp only [List.length_drop, List.length_take]; rfl)) ?_; (with_reducible refine (gangsawlaw40_awake.calls kj2  t412 _ A7.out).mono ?_); rintro e w8 ⟨rfl, hb⟩; refine ⟨_, rfl, ?_⟩; replace HB := hs_ HB hb; (try clear hb); (try clear hb2); (try clear hk); (try clear hi)))); (go_ret); (exact ⟨by first | rfl | (simp [errW_none, errW_some] <;> rfl) | (simp [*, errW_none, errW_some] <;> rfl), hb_ HB⟩)
    ·replace c6 := Bool.eq_false_iff.mpr c6
     (subst c6); (have H1 : (gangsawlaw40_ArchLines.j1 kj2 l0 l1) = some r := by rw [if_neg (show ¬ (false = true) by decide)] at H; exact H); (clear H); (have H := H1); (clear H1); (have H' := Aside0.mk H); (clear H); (go_wp2); (refine Met.intro ?_); (go_step); (refine meetU_ ?rel)
     case rel => exact ⟨_, H', ⟨by have := HJ2.out; first | omega | exact Nat.le_refl _⟩, ⟨hb_ HB⟩⟩
   case rest1 =>
    (clear HC5); (try clear c1); (try clear p2); (try clear c4); (try clear c4b0); (try clear c4b1); (try clear c6); (try clear p2); (obtain ⟨kq, HA, HJ4, HB⟩ := hcut)
    cases kq with
    | zero => exact absurd HA.out (by simp [gangsawlaw40_ArchLines.j1])
    | succ kj4 =>
     (have H := HA.out); (clear HA); (simp only [gangsawlaw40_ArchLines.j1] at H); (have HC9 := Aside0.mk H); (clear H); (go_upto_region 3 with (fail)); (refine cutU_ [none, none, none, none, none, some 5, some 6, none, none, some 9, some 10, some 11, some 12, some 13, some 14, some 15, some 16, some 17, some 18, some 19, some 20, some 21, some 22, some 23, some 24, some 25, some 26, some 27, some 28, some 29, some 30, some 31, some 32, some 33, some 34, some 35, some 36, some 37, some 38, some 39, some 40] (fun u_ wc_ => (fun v5 v6 wc => ∃ (kq : Nat) (x5_8 : List (List (S46))) (x6_8 : Int), v6 = .int .i64 x6_8 ∧ Aside0 (gangsawlaw40_ArchLines.j2 kq l0 l1 x5_8 x6_8 = some r) ∧ Aside0 (kq ≤ kj4) ∧ Aside0 (Kd.S (Kd.slice 46 k46) 38 wc w.heap.size (fun _ => True) v5 x5_8) ∧ Aside0 (Below w.heap.size w wc)) (u_ 5) (u_ 6) wc_) ?rest2 ?first2); (case' rest2 => (intro u_ wc hcut; dsimp only [fg_, List.toList_toArray] at hcut ⊢; generalize u_ 5 = u5 at hcut ⊢; generalize u_ 6 = u6 at hcut ⊢)); (case' first2 => (intro _ _ _ _))
     case first2 =>
      (have H := HC9.out); (clear HC9); (replace H := Option.bind_eq_some_iff.mp H); (obtain ⟨⟨t413, t414⟩, A100, H⟩ := H); (replace H : (gangsawlaw40_ArchLines.j2 kj4 l0 l1 t413 t414) = some r := H); (have A10 := Aside0.mk A100); (clear A100); (have H' := Aside0.mk H); (clear H); (go_wp2_with (first | ((with_reducible refine gate_callee (f := 20) rfl ?_); refine goesL_ (some 21) rfl rfl Try.func20 (by kernel_rfl) rfl #[.slice A0 l0.length c0, .slice A1 l1.length c1] rfl (by (try simp only [List.map_toArray, List.map_cons, List.map_nil]); first | done | rfl | (simp only [List.length_drop, List.length_take]; rfl)) ?_; (with_reducible refine (arch_Of.calls kj4 _ _ l0 _ _ l1 t413 t414 _ ?side1 ?side2 ?side3 ?side4 A10.out).mono ?_); (case side1 => repeat (first | exact (Kd.C_below HR0.out HB.out) | (with_reducible refine Kd.C_alloc ?_ _) | (with_reducible refine Kd.C_drewN ?_ _) | (with_reducible refine Kd.C_drew ?_))); (case side2 => exact HC0.out); (case side3 => repeat (first | exact (Kd.C_below HR1.out HB.out) | (with_reducible refine Kd.C_alloc ?_ _) | (with_reducible refine Kd.C_drewN ?_ _) | (with_reducible refine Kd.C_drew ?_))); (case side4 => exact HC1.out); rintro e w11 ⟨v415, rfl, ho0, hb⟩; refine ⟨_, rfl, ?_⟩; have HO416 := Aside0.mk (Kd.S_lower ho0 (below_size (hb_ HB))); replace HB := hs_ HB hb; (try clear hb); (try clear hb2); (try clear hk); (try clear hi); (try clear ho0)))); (refine Met.intro ?_); (go_step); (refine meetU_ ?rel)
      case rel => exact ⟨_, (t413), (t414), (by first | rfl | (simp; done) | (simp [*]; done)), H', ⟨by have := HJ2.out; have := HJ4.out; first | omega | exact Nat.le_refl _⟩, ⟨by (with_reducible repeat (first | apply Kd.S_alloc | apply Kd.S_drewN | apply Kd.S_drew)); exact HO416.out⟩, ⟨hb_ HB⟩⟩
     case rest2 =>
      (clear HC9); (try clear c1); (try clear c2); (try clear p2); (try clear c4); (try clear c4b0); (try clear c4b1); (try clear c6); (try clear c11); (try clear p2); (obtain ⟨kq, x5_8, x6_8, rfl, HA, HJ8, HO_5, HB⟩ := hcut)
      cases kq with
      | zero => exact absurd HA.out (by simp [gangsawlaw40_ArchLines.j2])
      | succ kj8 =>
       (have H := HA.out); (clear HA); (simp only [gangsawlaw40_ArchLines.j2] at H); (have HC12 := Aside0.mk H); (clear H); (go_upto_region 4 with (fail)); (refine cutU_ [none, none, none, none, none, none, none, some 7, some 8, some 9, some 10, some 11, some 12, some 13, some 14, some 15, some 16, some 17, some 18, some 19, some 20, some 21, some 22, some 23, some 24, some 25, some 26, some 27, some 28, some 29, some 30, some 31, some 32, some 33, some 34, some 35, some 36, some 37, some 38, some 39, some 40] (fun u_ wc_ => (fun v7 v8 wc => ∃ (kq : Nat) (x7_11 : List (List (S46))) (x8_11 : Int), v8 = .int .i64 x8_11 ∧ Aside0 (gangsawlaw40_ArchLines.j3 kq x5_8 x6_8 x7_11 x8_11 = some r) ∧ Aside0 (kq ≤ kj8) ∧ Aside0 (Kd.S (Kd.slice 46 k46) 38 wc w.heap.size (fun k_ => some k_ ≠ (v7 : Value).ownBlock) u5 x5_8) ∧ Aside0 (Kd.S (Kd.slice 46 k46) 38 wc w.heap.size (fun k_ => some k_ ≠ (u5 : Value).ownBlock) v7 x7_11) ∧ Aside0 (Below w.heap.size w wc)) (u_ 7) (u_ 8) wc_) ?rest3 ?first3); (case' rest3 => (intro u_ wc hcut; dsimp only [fg_, List.toList_toArray] at hcut ⊢; generalize u_ 7 = u7 at hcut ⊢; generalize u_ 8 = u8 at hcut ⊢)); (case' first3 => (intro _ _ _ _))
       case first3 =>
        (have H := HC12.out); (clear HC12); (replace H := Option.bind_eq_some_iff.mp H); (obtain ⟨⟨t417, t418⟩, A130, H⟩ := H); (replace H : (gangsawlaw40_ArchLines.j3 kj8 x5_8 x6_8 t417 t418) = some r := H); (have A13 := Aside0.mk A130); (clear A130); (have H' := Aside0.mk H); (clear H); (go_wp2_with (first | ((with_reducible refine gate_callee (f := 21) rfl ?_); refine goesL_ (some 27) rfl rfl Try.func21 (by kernel_rfl) rfl #[.slice A0 l0.length c0, .slice A1 l1.length c1] rfl (by (try simp only [List.map_toArray, List.map_cons, List.map_nil]); first | done | rfl | (simp only [List.length_drop, List.length_take]; rfl)) ?_; (with_reducible refine (gangsawref40_Of.calls kj8 _ _ l0 _ _ l1 t417 t418 _ ?side1 ?side2 ?side3 ?side4 A13.out).mono ?_); (case side1 => repeat (first | exact (Kd.C_below HR0.out HB.out) | (with_reducible refine Kd.C_alloc ?_ _) | (with_reducible refine Kd.C_drewN ?_ _) | (with_reducible refine Kd.C_drew ?_))); (case side2 => exact HC0.out); (case side3 => repeat (first | exact (Kd.C_below HR1.out HB.out) | (with_reducible refine Kd.C_alloc ?_ _) | (with_reducible refine Kd.C_drewN ?_ _) | (with_reducible refine Kd.C_drew ?_))); (case side4 => exact HC1.out); rintro e w14 ⟨v419, rfl, ho0, hb⟩; refine ⟨_, rfl, ?_⟩; have HO420 := Aside0.mk (Kd.S_lower (Kd.S_new' ho0 (Kd.S_lt (by (with_reducible repeat (first | apply Kd.S_alloc | apply Kd.S_drewN | apply Kd.S_drew)); exact HO_5.out))) (below_size (hb_ HB))); replace HO_5 := Aside0.mk (Kd.S_elder' (by (with_reducible repeat (first | apply Kd.S_alloc | apply Kd.S_drewN | apply Kd.S_drew)); exact HO_5.out) (Kd.S_base ho0) hb); replace HB := hs_ HB hb; (try clear hb); (try clear hb2); (try clear hk); (try clear hi); (try clear ho0)))); (refine Met.intro ?_); (go_step); (refine meetU_ ?rel)
        case rel => exact ⟨_, (t417), (t418), (by first | rfl | (simp; done) | (simp [*]; done)), H', ⟨by have := HJ2.out; have := HJ4.out; have := HJ8.out; first | omega | exact Nat.le_refl _⟩, ⟨by (with_reducible repeat (first | apply Kd.S_alloc | apply Kd.S_drewN | apply Kd.S_drew)); exact Kd.S_mono HO_5.out (fun _ hk => hk.2)⟩, ⟨by (with_reducible repeat (first | apply Kd.S_alloc | apply Kd.S_drewN | apply Kd.S_drew)); exact Kd.S_mono HO420.out (fun _ hk => hk.2)⟩, ⟨hb_ HB⟩⟩
       case rest3 =>
        (clear HC12); (try clear c1); (try clear c2); (try clear p2); (try clear c4); (try clear c4b0); (try clear c4b1); (try clear c6); (try clear c11); (try clear p2); (obtain ⟨kq, x7_11, x8_11, rfl, HA, HJ11, HO_5, HO_7, HB⟩ := hcut)
        cases kq with
        | zero => exact absurd HA.out (by simp [gangsawlaw40_ArchLines.j3])
        | succ kj11 =>
         (have H := HA.out); (clear HA); (simp only [gangsawlaw40_ArchLines.j3] at H); (have HC15 := Aside0.mk H); (clear H); (go_upto_region 5 with (fail)); (refine cutU_ [none, none, none, none, some 4, none, none, none, none, some 9, some 10, some 11, some 12, some 13, some 14, some 15, some 16, some 17, some 18, some 19, some 20, some 21, some 22, some 23, some 24, some 25, some 26, some 27, some 28, some 29, some 30, some 31, some 32, some 33, some 34, some 35, some 36, some 37, some 38, some 39, some 40] (fun u_ wc_ => (fun v4 wc => ∃ (kq : Nat) (x4_14 : Bool), v4 = .bool x4_14 ∧ Aside0 (gangsawlaw40_ArchLines.j4 kq x4_14 = some r) ∧ Aside0 (kq ≤ kj11) ∧ Aside0 (Below w.heap.size w wc)) (u_ 4) wc_) ?rest4 ?first4); (case' rest4 => (intro u_ wc hcut; dsimp only [fg_, List.toList_toArray] at hcut ⊢; generalize u_ 4 = u4 at hcut ⊢)); (case' first4 => (intro _ _ _ _))
         case first4 =>
          (have H := HC15.out); (clear HC15); (replace H := Option.bind_eq_some_iff.mp H); (obtain ⟨t421, A160, H⟩ := H); (replace H : (if t421 = true then (if x6_8 = x8_11 then ((gangsawref40_Same.f kj11 x5_8 x7_11).bind fun t422 => (gangsawlaw40_ArchLines.j4 kj11 t422)) else (gangsawlaw40_ArchLines.j4 kj11 false)) else (gangsawlaw40_ArchLines.j4 kj11 false)) = some r := H); (have A16 := Aside0.mk A160); (clear A160); (by_cases c17 : t421 = true)
          ·subst c17
           (have H1 : (if x6_8 = x8_11 then ((gangsawref40_Same.f kj11 x5_8 x7_11).bind fun t422 => (gangsawlaw40_ArchLines.j4 kj11 t422)) else (gangsawlaw40_ArchLines.j4 kj11 false)) = some r := by rw [if_pos rfl] at H; exact H); (clear H); (have H := H1); (clear H1); (by_cases c18 : x6_8 = x8_11)
           ·rw [if_pos c18] at H
            (have c18b0 := beq_iff_eq.mpr c18); (have c18b1 := bne_eq_false_iff_eq.mpr c18); (clear c18); ((first | rw [c18b0] | (simp only [i64_w, i32_w]; rw [c18b0]) | skip)); (replace H := Option.bind_eq_some_iff.mp H); (obtain ⟨t422, A190, H⟩ := H); (replace H : (gangsawlaw40_ArchLines.j4 kj11 t422) = some r := H); (have A19 := Aside0.mk A190); (clear A190); (have H' := Aside0.mk H); (clear H); (go_wp2_with (first | ((with_reducible refine gate_callee (f := 11) rfl ?_); refine goesL_ (some 30) rfl rfl Try.func11 (by kernel_rfl) rfl #[] rfl (by (try simp only [List.map_toArray, List.map_cons, List.map_nil]); first | done | rfl | (simp only [List.length_drop, List.length_take]; rfl)) ?_; (with_reducible refine (gangsawlaw40_awake.calls kj11  true _ A16.out).mono ?_); rintro e w20 ⟨rfl, hb⟩; refine ⟨_, rfl, ?_⟩; replace HO_5 := Aside0.mk (Kd.S_below (by (with_reducible repeat (first | apply Kd.S_alloc | apply Kd.S_drewN | apply Kd.S_drew)); exact HO_5.out) hb); replace HO_7 := Aside0.mk (Kd.S_below (by (with_reducible repeat (first | apply Kd.S_alloc | apply Kd.S_drewN | apply Kd.S_drew)); exact HO_7.out) hb); replace HB := hs_ HB hb; (try clear hb); (try clear hb2); (try clear hk); (try clear hi); obtain ⟨Ao21, co21, eo21⟩ := Kd.S_slice HO_5.out; subst eo21; obtain ⟨Ao22, co22, eo22⟩ := Kd.S_slice HO_7.out; subst eo22) | (go_at_call 17; (with_reducible refine (gangsawref40_Same.calls kj11 _ _ x5_8 _ _ x7_11 t422 _ ?side1 ?side2 ?side3 ?side4 A19.out).mono ?_); (case side1 => repeat (first | exact (Kd.S_reads' HO_5.out).2.2 | (with_reducible refine Kd.C_alloc ?_ _) | (with_reducible refine Kd.C_drewN ?_ _) | (with_reducible refine Kd.C_drew ?_))); (case side2 => exact (Kd.S_reads' HO_5.out).2.1); (case side3 => repeat (first | exact (Kd.S_reads' HO_7.out).2.2 | (with_reducible refine Kd.C_alloc ?_ _) | (with_reducible refine Kd.C_drewN ?_ _) | (with_reducible refine Kd.C_drew ?_))); (case side4 => exact (Kd.S_reads' HO_7.out).2.1); rintro e w' ⟨rfl, ⟨nd, rfl⟩⟩))); (refine Met.intro ?_); (go_step); (refine meetU_ ?rel)
            case rel => exact ⟨_, (t422), (by first | rfl | (simp; done) | (simp [*]; done)), H', ⟨by have := HJ2.out; have := HJ4.out; have := HJ8.out; have := HJ11.out; first | omega | exact Nat.le_refl _⟩, ⟨hb_ HB⟩⟩
           ·rw [if_neg c18] at H
            (have c18b0 := beq_eq_false_iff_ne.mpr c18); (have c18b1 := bne_iff_ne.mpr c18); ((first | rw [c18b0] | (simp only [i64_w, i32_w]; rw [c18b0]) | skip)); (have H' := Aside0.mk H); (clear H); (go_wp2_with (first | ((with_reducible refine gate_callee (f := 11) rfl ?_); refine goesL_ (some 30) rfl rfl Try.func11 (by kernel_rfl) rfl #[] rfl (by (try simp only [List.map_toArray, List.map_cons, List.map_nil]); first | done | rfl | (simp only [List.length_drop, List.length_take]; rfl)) ?_; (with_reducible refine (gangsawlaw40_awake.calls kj11  true _ A16.out).mono ?_); rintro e w23 ⟨rfl, hb⟩; refine ⟨_, rfl, ?_⟩; replace HO_5 := Aside0.mk (Kd.S_below (by (with_reducible repeat (first | apply Kd.S_alloc | apply Kd.S_drewN | apply Kd.S_drew)); exact HO_5.out) hb); replace HO_7 := Aside0.mk (Kd.S_below (by (with_reducible repeat (first | apply Kd.S_alloc | apply Kd.S_drewN | apply Kd.S_drew)); exact HO_7.out) hb); replace HB := hs_ HB hb; (try clear hb); (try clear hb2); (try clear hk); (try clear hi)))); (refine Met.intro ?_); (go_step); (refine meetU_ ?rel)
            case rel => exact ⟨_, (false), (by first | rfl | (simp; done) | (simp [*]; done)), H', ⟨by have := HJ2.out; have := HJ4.out; have := HJ8.out; have := HJ11.out; first | omega | exact Nat.le_refl _⟩, ⟨hb_ HB⟩⟩
          ·replace c17 := Bool.eq_false_iff.mpr c17
           (subst c17); (have H1 : (gangsawlaw40_ArchLines.j4 kj11 false) = some r := by rw [if_neg (show ¬ (false = true) by decide)] at H; exact H); (clear H); (have H := H1); (clear H1); (have H' := Aside0.mk H); (clear H); (go_wp2_with (first | ((with_reducible refine gate_callee (f := 11) rfl ?_); refine goesL_ (some 30) rfl rfl Try.func11 (by kernel_rfl) rfl #[] rfl (by (try simp only [List.map_toArray, List.map_cons, List.map_nil]); first | done | rfl | (simp only [List.length_drop, List.length_take]; rfl)) ?_; (with_reducible refine (gangsawlaw40_awake.calls kj11  false _ A16.out).mono ?_); rintro e w24 ⟨rfl, hb⟩; refine ⟨_, rfl, ?_⟩; replace HO_5 := Aside0.mk (Kd.S_below (by (with_reducible repeat (first | apply Kd.S_alloc | apply Kd.S_drewN | apply Kd.S_drew)); exact HO_5.out) hb); replace HO_7 := Aside0.mk (Kd.S_below (by (with_reducible repeat (first | apply Kd.S_alloc | apply Kd.S_drewN | apply Kd.S_drew)); exact HO_7.out) hb); replace HB := hs_ HB hb; (try clear hb); (try clear hb2); (try clear hk); (try clear hi)))); (refine Met.intro ?_); (go_step); (refine meetU_ ?rel)
           case rel => exact ⟨_, (false), (by first | rfl | (simp; done) | (simp [*]; done)), H', ⟨by have := HJ2.out; have := HJ4.out; have := HJ8.out; have := HJ11.out; first | omega | exact Nat.le_refl _⟩, ⟨hb_ HB⟩⟩
         case rest4 =>
          (clear HC15); (try clear c1); (try clear c2); (try clear p2); (try clear c4); (try clear c4b0); (try clear c4b1); (try clear c6); (try clear c11); (try clear c17); (try clear c18); (try clear c18b0); (try clear c18b1); (try clear c20); (try clear c21); (try clear p2); (obtain ⟨kq, x4_14, rfl, HA, HJ14, HB⟩ := hcut)
          cases kq with
          | zero => exact absurd HA.out (by simp [gangsawlaw40_ArchLines.j4])
          | succ kj14 =>
           (have H := HA.out); (clear HA); (simp only [gangsawlaw40_ArchLines.j4] at H); (obtain rfl := Option.some.inj H); (go_wp2); (go_ret); (exact ⟨by first | rfl | (simp [errW_none, errW_some] <;> rfl) | (simp [*, errW_none, errW_some] <;> rfl), hb_ HB⟩)

/-- THE ONE PURE STATEMENT of gangsawlaw40_ArchLines. -/
def gangsawlaw40_ArchLines.Pure : Prop := ∀ (l0 : List (S46)) (l1 : List (S46)), (gSl g46) l0 → (gSl g46) l1 → ∃ k, gangsawlaw40_ArchLines.f k l0 l1 = some true
theorem gangsawlaw40_ArchLines.walk (P : gangsawlaw40_ArchLines.Pure) (A0 : Option Addr) (c0 : Nat) (l0 : List (S46)) (A1 : Option Addr) (c1 : Nat) (l1 : List (S46)) (w : World) (w0 : (gSl g46) l0) (w1 : (gSl g46) l1) (hr0 : Kd.C k46 w A0 l0.length l0) (hc0 : l0.length ≤ c0) (hr1 : Kd.C k46 w A1 l1.length l1) (hc1 : l1.length ≤ c1) :
  Calls Try.prog 4 #[.slice A0 l0.length c0, .slice A1 l1.length c1] w fun e w' => e = .returned (.bool true) ∧ Below w.heap.size w w' := by
 obtain ⟨k, h⟩ := P l0 l1 w0 w1
 refine (gangsawlaw40_ArchLines.calls k _ _ l0 _ _ l1 true w hr0 hc0 hr1 hc1 h).mono ?_
 rintro e w' ⟨rfl, hd⟩
 exact ⟨rfl, hd⟩

/-! ### arch_Inner: function 23 -/
def arch_Inner.f (k : Nat) (l0 : List (List (S46))) : Option ((List (S46)) × Int) := (arch_Check.f k l0).bind fun t423 => (if t423 = 0 then ((arch_line.f k l0 0 1).bind fun t424 => (some (t424, 0))) else (some (([] : List (S46)), t423)))
theorem arch_Inner.mono : ∀ a0 k, LeO (arch_Inner.f k a0) (arch_Inner.f (k + 1) a0) := by
  intro a0 k
  unfold arch_Inner.f
  repeat' first
      | (with_reducible exact arch_Check.mono _ _)
      | (with_reducible exact arch_line.mono _ _ _ _)
      | (with_reducible exact LeO.refl _)
      | (with_reducible exact LeO.none _)
      | (with_reducible refine LeO.ite ?_ ?_)
      | (with_reducible refine LeO.bind ?_ (fun _ => ?_))
      | exact arch_Check.mono _ _
      | exact arch_line.mono _ _ _ _
      | exact LeO.none _
      | refine LeO.ite ?_ ?_
      | refine LeO.bind ?_ (fun _ => ?_)
set_option maxHeartbeats 8000000 in
set_option maxRecDepth 100000 in
theorem arch_Inner.calls (k : Nat) (A0 : Option Addr) (c0 : Nat) (l0 : List (List (S46))) (r1 : List (S46)) (r2 : Int) (w : World) (hr0 : Kd.C (Kd.slice 46 k46) w A0 l0.length l0) (hc0 : l0.length ≤ c0) (h : arch_Inner.f k l0 = some (r1, r2)) :
    Calls Try.prog 23 #[.slice A0 l0.length c0] w fun e w' => ∃ v0_ : Value, e = .returned (.tuple #[v0_, .int .i64 r2]) ∧ Kd.R k46 46 w' w.heap.size (fun _ => True) v0_ r1 ∧ Below w.heap.size w w' := by
  have HR0 := Aside0.mk hr0
  have HC0 := Aside0.mk hc0
  clear hr0 hc0
  have HB := Aside0.mk (Below.refl w.heap.size w)
  have H : ((arch_Check.f k l0).bind fun t423 => (if t423 = 0 then ((arch_line.f k l0 0 1).bind fun t424 => (some (t424, 0))) else (some (([] : List (S46)), t423)))) = some (r1, r2) := h
  clear h
  replace H := Option.bind_eq_some_iff.mp H
  obtain ⟨t423, A20, H⟩ := H
  replace H : (if t423 = 0 then ((arch_line.f k l0 0 1).bind fun t424 => (some (t424, 0))) else (some (([] : List (S46)), t423))) = some (r1, r2) := H
  have A2 := Aside0.mk A20
  clear A20
  by_cases c3 : t423 = 0
  · rw [if_pos c3] at H
    have c3b0 : (t423 == 0) = true := beq_iff_eq.mpr c3
    have c3b1 : (t423 != 0) = false := bne_eq_false_iff_eq.mpr c3
    clear c3
    replace H := Option.bind_eq_some_iff.mp H
    obtain ⟨t424, A40, H⟩ := H
    replace H : (some (t424, 0)) = some (r1, r2) := H
    have A4 := Aside0.mk A40
    clear A40
    simp only [Option.some.injEq, Prod.mk.injEq] at H
    obtain ⟨rfl, rfl⟩ := H
    go_enter Try.func23, Try.ntmps23
    go_wp2_with (first | ((with_reducible refine gate_callee (f := 33) rfl ?_); refine goesL_ (some 6) rfl rfl Try.func33 (by kernel_rfl) rfl #[.slice A0 l0.length c0] rfl (by (try simp only [List.map_toArray, List.map_cons, List.map_nil]); first | done | rfl | (simp only [List.length_drop, List.length_take]; rfl)) ?_; (with_reducible refine (arch_Check.calls k _ _ l0 t423 _ ?side1 ?side2 A2.out).mono ?_); (case side1 => repeat (first | exact HR0.out | (with_reducible refine Kd.C_alloc ?_ _) | (with_reducible refine Kd.C_drewN ?_ _) | (with_reducible refine Kd.C_drew ?_))); (case side2 => exact HC0.out); rintro e w5 ⟨rfl, hb⟩; refine ⟨_, rfl, ?_⟩; have n0_ := Aside0.mk (below_step (by repeat (first | (with_reducible first | exact HB.out | apply below_alloc | apply pw_below_drewN | apply below_drew1) | exact HB.out)) hb); clear HB; have HB := n0_; clear n0_; (try clear hb); (try clear hb2); (try clear hk); (try clear hi)) | ((with_reducible refine gate_callee (f := 49) rfl ?_); refine goesL_ (some 11) rfl rfl Try.func49 (by kernel_rfl) rfl #[.slice A0 l0.length c0, .int .i64 0, .int .i64 1] rfl (by (try simp only [List.map_toArray, List.map_cons, List.map_nil]); first | done | rfl | (simp only [List.length_drop, List.length_take]; rfl)) ?_; (with_reducible refine (arch_line.calls k _ _ l0 0 1 t424 _ ?side1 ?side2 A4.out).mono ?_); (case side1 => repeat (first | exact (Kd.C_below HR0.out HB.out) | (with_reducible refine Kd.C_alloc ?_ _) | (with_reducible refine Kd.C_drewN ?_ _) | (with_reducible refine Kd.C_drew ?_))); (case side2 => exact HC0.out); rintro e w6 ⟨v425, rfl, ho0, hb⟩; refine ⟨_, rfl, ?_⟩; have n0_ := Aside0.mk (Kd.R_lower ho0 (below_size (by repeat (first | (with_reducible first | exact HB.out | apply below_alloc | apply pw_below_drewN | apply below_drew1) | exact HB.out)))); have n1_ := Aside0.mk (below_step (by repeat (first | (with_reducible first | exact HB.out | apply below_alloc | apply pw_below_drewN | apply below_drew1) | exact HB.out)) hb); clear HB; have HO426 := n0_; have HB := n1_; clear n0_ n1_; (try clear hb); (try clear hb2); (try clear hk); (try clear hi); (try clear ho0)))
    go_ret2
    exact ⟨_, by first | rfl | (simp [errW_none, errW_some] <;> rfl) | (simp [*, errW_none, errW_some] <;> rfl), by (with_reducible repeat (first | apply Kd.R_alloc | apply Kd.R_drewN | apply Kd.R_drew)); exact HO426.out, by repeat (first | (with_reducible first | exact HB.out | apply below_alloc | apply pw_below_drewN | apply below_drew1) | exact HB.out)⟩
  · rw [if_neg c3] at H
    have c3b0 : (t423 == 0) = false := beq_eq_false_iff_ne.mpr c3
    have c3b1 : (t423 != 0) = true := bne_iff_ne.mpr c3
    simp only [Option.some.injEq, Prod.mk.injEq] at H
    obtain ⟨rfl, rfl⟩ := H
    go_enter Try.func23, Try.ntmps23
    go_wp2_with (first | ((with_reducible refine gate_callee (f := 33) rfl ?_); refine goesL_ (some 6) rfl rfl Try.func33 (by kernel_rfl) rfl #[.slice A0 l0.length c0] rfl (by (try simp only [List.map_toArray, List.map_cons, List.map_nil]); first | done | rfl | (simp only [List.length_drop, List.length_take]; rfl)) ?_; (with_reducible refine (arch_Check.calls k _ _ l0 t423 _ ?side1 ?side2 A2.out).mono ?_); (case side1 => repeat (first | exact HR0.out | (with_reducible refine Kd.C_alloc ?_ _) | (with_reducible refine Kd.C_drewN ?_ _) | (with_reducible refine Kd.C_drew ?_))); (case side2 => exact HC0.out); rintro e w7 ⟨rfl, hb⟩; refine ⟨_, rfl, ?_⟩; have n0_ := Aside0.mk (below_step (by repeat (first | (with_reducible first | exact HB.out | apply below_alloc | apply pw_below_drewN | apply below_drew1) | exact HB.out)) hb); clear HB; have HB := n0_; clear n0_; (try clear hb); (try clear hb2); (try clear hk); (try clear hi)))
    go_ret2
    exact ⟨_, by first | rfl | (simp [errW_none, errW_some] <;> rfl) | (simp [*, errW_none, errW_some] <;> rfl), by first | exact Kd.R_nil _ _ _ _ _ | exact Kd.N_nil _ _ _ _ _ | exact Kd.V_nil _ _ _ _ _ | exact Kd.Q_nil _ _ _ _ _ | exact Kd.S_nil _ _ _ _ _, by repeat (first | (with_reducible first | exact HB.out | apply below_alloc | apply pw_below_drewN | apply below_drew1) | exact HB.out)⟩

end Go.Proofs.Ytjlljjnkjhdljaa.XA
