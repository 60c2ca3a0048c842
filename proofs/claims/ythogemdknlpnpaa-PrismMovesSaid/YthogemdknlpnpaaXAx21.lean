-- written by xprint.py, this project's own program (wip/), over the words of print.sh
import Derived.Test.YthogemdknlpnpaaXAx0
import Derived.Test.YthogemdknlpnpaaXAx20
import Derived.Test.YthogemdknlpnpaaFlat
namespace Go.Proofs.Ythogemdknlpnpaa.XA
open Go.Proofs.Ythogemdknlpnpaa.Flat Go.RowKit Go.Proofs.Ythogemdknlpnpaa.Opens Go.Proofs.YthogemdknlpnpaaW.PrintWords Go.Proofs.YthogemdknlpnpaaW.PrintLast Go.Proofs.YthogemdknlpnpaaW.PrintMore
attribute [local go_sem] max2_int min2_int max_two min_two max_three min_three max_four min_four cell_some cell_same   -- for this text's walks alone
set_option linter.unusedVariables false
set_option linter.unusedSimpArgs false

/-! ### gangsawref08_convex: function 35 -/
mutual
def gangsawref08_convex.l0 : Nat → List (S60) → Int → Int → Option (Bool)
 | 0, _, _, _ => none
 | k + 1, x0, x3, x4 => if x4 < x3 then (if x3 = 0 then (none) else (gangsawref08_convex.l1 k x0 x3 x4 (Int.tmod (wrap64 (x4 + 1)) x3) 0)) else (some true)
def gangsawref08_convex.l1 : Nat → List (S60) → Int → Int → Int → Int → Option (Bool)
 | 0, _, _, _, _, _ => none
 | k + 1, x0, x3, x4, x5, x6 => if x6 < x3 then (if x6 = x4 then (gangsawref08_convex.l1 k x0 x3 x4 x5 (wrap64 (x6 + 1))) else (if x6 = x5 then (gangsawref08_convex.l1 k x0 x3 x4 x5 (wrap64 (x6 + 1))) else (if 0 ≤ x4 then (if x4 < (x0.length : Int) then (if 0 ≤ x5 then (if x5 < (x0.length : Int) then (if 0 ≤ x6 then (if x6 < (x0.length : Int) then ((gangsawref08_Cross.f ((rd_T60 x0 x4).f0) ((rd_T60 x0 x4).f1) ((rd_T60 x0 x5).f0) ((rd_T60 x0 x5).f1) ((rd_T60 x0 x6).f0) ((rd_T60 x0 x6).f1)).bind fun t256 => (if t256 ≤ 0 then (some false) else (gangsawref08_convex.l1 k x0 x3 x4 x5 (wrap64 (x6 + 1))))) else (none)) else (none)) else (none)) else (none)) else (none)) else (none)))) else (gangsawref08_convex.l0 k x0 x3 (wrap64 (x4 + 1)))
end
def gangsawref08_convex.f (k : Nat) (l0 : List (S60)) : Option (Bool) := gangsawref08_convex.l0 k l0 (l0.length : Int) 0
theorem gangsawref08_convex.mono_l : ∀ k, (∀ y0 y1 y2, LeO (gangsawref08_convex.l0 k y0 y1 y2) (gangsawref08_convex.l0 (k + 1) y0 y1 y2)) ∧ (∀ y0 y1 y2 y3 y4, LeO (gangsawref08_convex.l1 k y0 y1 y2 y3 y4) (gangsawref08_convex.l1 (k + 1) y0 y1 y2 y3 y4))
 | 0 => ⟨fun _ _ _ r h => by simp [gangsawref08_convex.l0] at h, fun _ _ _ _ _ r h => by simp [gangsawref08_convex.l1] at h⟩
 | k + 1 => by
  (obtain ⟨ih0, ih1⟩ := gangsawref08_convex.mono_l k); (refine ⟨?_, ?_⟩)
  ·intro y0 y1 y2
   unfold gangsawref08_convex.l0
   repeat' first
   | (with_reducible exact ih0 _ _ _)
   | (with_reducible exact ih1 _ _ _ _ _)
   | (with_reducible exact LeO.refl _)
   | (with_reducible exact LeO.none _)
   | (with_reducible refine LeO.ite ?_ ?_)
   | (with_reducible refine LeO.bind ?_ (fun _ => ?_))
   | exact ih0 _ _ _
   | exact ih1 _ _ _ _ _
   | exact LeO.none _
   | refine LeO.ite ?_ ?_
   | refine LeO.bind ?_ (fun _ => ?_)
  ·intro y0 y1 y2 y3 y4
   unfold gangsawref08_convex.l1
   repeat' first
   | (with_reducible exact ih0 _ _ _)
   | (with_reducible exact ih1 _ _ _ _ _)
   | (with_reducible exact LeO.refl _)
   | (with_reducible exact LeO.none _)
   | (with_reducible refine LeO.ite ?_ ?_)
   | (with_reducible refine LeO.bind ?_ (fun _ => ?_))
   | exact ih0 _ _ _
   | exact ih1 _ _ _ _ _
   | exact LeO.none _
   | refine LeO.ite ?_ ?_
   | refine LeO.bind ?_ (fun _ => ?_)
theorem gangsawref08_convex.mono : ∀ a0 k, LeO (gangsawref08_convex.f k a0) (gangsawref08_convex.f (k + 1) a0) := by
 intro a0 k
 obtain ⟨ih0, ih1⟩ := gangsawref08_convex.mono_l k
 unfold gangsawref08_convex.f
 repeat' first
   | (with_reducible exact ih0 _ _ _)
   | (with_reducible exact ih1 _ _ _ _ _)
   | (with_reducible exact LeO.refl _)
   | (with_reducible exact LeO.none _)
   | (with_reducible refine LeO.ite ?_ ?_)
   | (with_reducible refine LeO.bind ?_ (fun _ => ?_))
   | exact ih0 _ _ _
   | exact ih1 _ _ _ _ _
   | exact LeO.none _
   | refine LeO.ite ?_ ?_
   | refine LeO.bind ?_ (fun _ => ?_)
def gangsawref08_convex.T9 : Bool × List (List Nat × List Nat) := (true, [([], []), ([], []), ([0, 1], [0, 1]), ([2], [2]), ([3], [3]), ([3], [3]), ([4, 5, 3], [3, 4, 5]), ([3, 6], [3, 6]), ([7, 3], [7]), ([8], [8]), ([8], [8]), ([9, 10, 8], [8, 9, 10]), ([11, 8], [8, 11]), ([8], [8]), ([8], [8]), ([13, 14, 8], [8, 13, 14]), ([15, 8], [8, 15]), ([8], [8]), ([8], [8]), ([17, 18, 8], [8, 17, 18]), ([19, 8], [8, 19]), ([12, 16, 20, 8, 8], [8, 12, 16, 20]), ([21, 8], [8, 21]), ([8, 22], [8, 22])])
def gangsawref08_convex.B9 : List Nat := [0, 0, 3, 7, 15, 15, 63, 127, 255, 511, 511, 2047, 4095, 511, 511, 25087, 57855, 511, 511, 393727, 918015, 2097151, 4194303, 8388607]
theorem gangsawref08_convex.tab9 : rtab .any (opsOf Try.f35 9) = gangsawref08_convex.T9 := by kernel_rfl
theorem gangsawref08_convex.bits9 : waitsOk gangsawref08_convex.T9.2 gangsawref08_convex.B9 = true := by kernel_rfl
set_option maxHeartbeats 8000000 in
set_option maxRecDepth 100000 in
theorem gangsawref08_convex.calls (k : Nat) (A0 : Option Addr) (c0 : Nat) (l0 : List (S60)) (r : Bool) (w : World) (hr0 : Kd.C k60 w A0 l0.length l0) (hc0 : l0.length ≤ c0) (h : gangsawref08_convex.f k l0 = some r) :
  Calls Try.prog 35 #[.slice A0 l0.length c0] w fun e w' => e = .returned (.bool r) ∧ Below w.heap.size w w' := by
 have hu60 := Try.underlying60
 have HR0 := Aside0.mk hr0
 have HC0 := Aside0.mk hc0
 clear hr0 hc0
 have HB := Aside0.mk (Below.refl w.heap.size w)
 have H : (gangsawref08_convex.l0 k l0 (l0.length : Int) 0) = some r := h
 clear h
 have H' := Aside0.mk H
 clear H
 go_enter Try.func35, Try.ntmps35
 go_wp2
 go_loopg [4] k (fun kq v4 w' => ∃ (x4_1 : Int), v4 = .int .i64 x4_1 ∧ Aside0 (gangsawref08_convex.l0 kq l0 (l0.length : Int) x4_1 = some r) ∧ Aside0 (kq ≤ k) ∧ Aside0 (Below w.heap.size w w'))
 case atStart => exact ⟨(0), (by first | rfl | (simp; done) | (simp [*]; done)), H', ⟨Nat.le_refl _⟩, ⟨hb_ HB⟩⟩
 case round =>
  (clear H'); (obtain ⟨x4_1, rfl, HA, HK1, HB⟩ := hrel)
  cases gk with
  | zero => exact absurd HA.out (by simp [gangsawref08_convex.l0])
  | succ k1 =>
   (have H := HA.out); (clear HA); (simp only [gangsawref08_convex.l0] at H); (by_cases c2 : x4_1 < (l0.length : Int))
   ·rw [if_pos c2] at H
    (have c2b0 := decide_eq_true c2); (clear c2); (by_cases c3 : (l0.length : Int) = 0)
    ·(rw [if_pos c3] at H); (exact absurd H (by simp))
    ·rw [if_neg c3] at H
     (have c3b0 := beq_eq_false_iff_ne.mpr c3); (have c3b1 := bne_iff_ne.mpr c3); (have c3b2 : ¬ (l0 = []) := fun h_ => c3 (by rw [h_]; rfl)); (have H' := Aside0.mk H); (clear H); (go_wp2); (go_loopg [6] k1 (fun kq v6 w' => ∃ (x6_2 : Int), v6 = .int .i64 x6_2 ∧ Aside0 (gangsawref08_convex.l1 kq l0 (l0.length : Int) x4_1 (Int.tmod (wrap64 (x4_1 + 1)) (l0.length : Int)) x6_2 = some r) ∧ Aside0 (kq ≤ k1) ∧ Aside0 (Below w.heap.size w w')))
     case atStart => exact ⟨(0), (by first | rfl | (simp; done) | (simp [*]; done)), H', ⟨Nat.le_refl _⟩, ⟨hb_ HB⟩⟩
     case round =>
      (clear H'); (try clear c2); (try clear c2b0); (try clear p2); (try clear c3); (try clear c3b0); (try clear c3b1); (try clear c3b2); (obtain ⟨x6_2, rfl, HA, HK2, HB⟩ := hrel)
      cases gk with
      | zero => exact absurd HA.out (by simp [gangsawref08_convex.l1])
      | succ k2 =>
       (have H := HA.out); (clear HA); (simp only [gangsawref08_convex.l1] at H); (by_cases c4 : x6_2 < (l0.length : Int))
       ·rw [if_pos c4] at H
        (have c4b0 := decide_eq_true c4); (clear c4); (by_cases c5 : x6_2 = x4_1)
        ·rw [if_pos c5] at H
         (have c5b0 := beq_iff_eq.mpr c5); (have c5b1 := bne_eq_false_iff_eq.mpr c5); (clear c5); (have H' := Aside0.mk H); (clear H); (try go_wp2); (replace HB := Aside0.mk (below_drew1 HB.out)); (refine start_ (n := 24) (S := fun w' => True) (ds := []) (bm 24 0) (by kernel_rfl) rfl rfl trivial (fun hHeld => ?_); refine with_tabW gangsawref08_convex.tab9 gangsawref08_convex.bits9 (fun HT_ HW_ => ?_)); (generalize wr.drew = w6 at HB hHeld ⊢); (refine pv_ 0 HT_ ?_); (refine pv_ 1 HT_ ?_); (refine pv_ 2 HT_ ?_); (refine pv_ 3 HT_ ?_); (refine pure_ (i := 4) (N := some 27) (v := undef) (a' := ?_) (bm 24 31) rfl rfl (any_of HT_.out (by kernel_rfl)) (fun _ _ _ h => h) (Or.inr ⟨by rfl, rfl⟩) ?_ ?_); (rotate_left)
         ·(simp only [Act.put, List.setIfInBounds_toArray, List.set_cons_zero, List.set_cons_succ, i64_w, i32_w]); (rfl)
         (refine pure_ (i := 5) (N := some 28) (v := undef) (a' := ?_) (bm 24 63) rfl rfl (any_of HT_.out (by kernel_rfl)) (fun _ _ _ h => h) (Or.inr ⟨by rfl, rfl⟩) ?_ ?_); (rotate_left)
         ·(simp only [Act.put, List.setIfInBounds_toArray, List.set_cons_zero, List.set_cons_succ, i64_w, i32_w]); (rfl)
         (refine pure_ (i := 6) (N := some 29) (v := undef) (a' := ?_) (bm 24 127) rfl rfl (any_of HT_.out (by kernel_rfl)) (fun _ _ _ h => h) (Or.inr ⟨by rfl, rfl⟩) ?_ ?_); (rotate_left)
         ·(simp only [Act.put, List.setIfInBounds_toArray, List.set_cons_zero, List.set_cons_succ, i64_w, i32_w]); (rfl)
         (refine pv_ 7 HT_ ?_); (refine pv_ 8 HT_ ?_); (refine pure_ (i := 9) (N := some 32) (v := undef) (a' := ?_) (bm 24 1023) rfl rfl (any_of HT_.out (by kernel_rfl)) (fun _ _ _ h => h) (Or.inr ⟨by rfl, rfl⟩) ?_ ?_); (rotate_left)
         ·(simp only [Act.put, List.setIfInBounds_toArray, List.set_cons_zero, List.set_cons_succ, i64_w, i32_w]); (rfl)
         (refine pure_ (i := 10) (N := some 33) (v := undef) (a' := ?_) (bm 24 2047) rfl rfl (any_of HT_.out (by kernel_rfl)) (fun _ _ _ h => h) (Or.inr ⟨by rfl, rfl⟩) ?_ ?_); (rotate_left)
         ·(simp only [Act.put, List.setIfInBounds_toArray, List.set_cons_zero, List.set_cons_succ, i64_w, i32_w]); (rfl)
         (refine pure_ (i := 11) (N := some 34) (v := undef) (a' := ?_) (bm 24 4095) rfl rfl (any_of HT_.out (by kernel_rfl)) (fun _ _ _ h => h) (Or.inr ⟨by rfl, rfl⟩) ?_ ?_); (rotate_left)
         ·(simp only [Act.put, List.setIfInBounds_toArray, List.set_cons_zero, List.set_cons_succ, i64_w, i32_w]); (rfl)
         (refine pure_ (i := 12) (N := some 35) (v := undef) (a' := ?_) (bm 24 8191) rfl rfl (any_of HT_.out (by kernel_rfl)) (fun _ _ _ h => h) (Or.inr ⟨by rfl, rfl⟩) ?_ ?_); (rotate_left)
         ·(simp only [Act.put, List.setIfInBounds_toArray, List.set_cons_zero, List.set_cons_succ, i64_w, i32_w]); (rfl)
         (refine pure_ (i := 13) (N := some 36) (v := undef) (a' := ?_) (bm 24 16383) rfl rfl (any_of HT_.out (by kernel_rfl)) (fun _ _ _ h => h) (Or.inr ⟨by rfl, rfl⟩) ?_ ?_); (rotate_left)
         ·(simp only [Act.put, List.setIfInBounds_toArray, List.set_cons_zero, List.set_cons_succ, i64_w, i32_w]); (rfl)
         (refine pure_ (i := 14) (N := some 37) (v := undef) (a' := ?_) (bm 24 32767) rfl rfl (any_of HT_.out (by kernel_rfl)) (fun _ _ _ h => h) (Or.inr ⟨by rfl, rfl⟩) ?_ ?_); (rotate_left)
         ·(simp only [Act.put, List.setIfInBounds_toArray, List.set_cons_zero, List.set_cons_succ, i64_w, i32_w]); (rfl)
         (refine pure_ (i := 15) (N := some 38) (v := undef) (a' := ?_) (bm 24 65535) rfl rfl (any_of HT_.out (by kernel_rfl)) (fun _ _ _ h => h) (Or.inr ⟨by rfl, rfl⟩) ?_ ?_); (rotate_left)
         ·(simp only [Act.put, List.setIfInBounds_toArray, List.set_cons_zero, List.set_cons_succ, i64_w, i32_w]); (rfl)
         (refine pure_ (i := 16) (N := some 39) (v := undef) (a' := ?_) (bm 24 131071) rfl rfl (any_of HT_.out (by kernel_rfl)) (fun _ _ _ h => h) (Or.inr ⟨by rfl, rfl⟩) ?_ ?_); (rotate_left)
         ·(simp only [Act.put, List.setIfInBounds_toArray, List.set_cons_zero, List.set_cons_succ, i64_w, i32_w]); (rfl)
         (refine pure_ (i := 17) (N := some 40) (v := undef) (a' := ?_) (bm 24 262143) rfl rfl (any_of HT_.out (by kernel_rfl)) (fun _ _ _ h => h) (Or.inr ⟨by rfl, rfl⟩) ?_ ?_); (rotate_left)
         ·(simp only [Act.put, List.setIfInBounds_toArray, List.set_cons_zero, List.set_cons_succ, i64_w, i32_w]); (rfl)
         (refine pure_ (i := 18) (N := some 41) (v := undef) (a' := ?_) (bm 24 524287) rfl rfl (any_of HT_.out (by kernel_rfl)) (fun _ _ _ h => h) (Or.inr ⟨by rfl, rfl⟩) ?_ ?_); (rotate_left)
         ·(simp only [Act.put, List.setIfInBounds_toArray, List.set_cons_zero, List.set_cons_succ, i64_w, i32_w]); (rfl)
         (refine pure_ (i := 19) (N := some 42) (v := undef) (a' := ?_) (bm 24 1048575) rfl rfl (any_of HT_.out (by kernel_rfl)) (fun _ _ _ h => h) (Or.inr ⟨by rfl, rfl⟩) ?_ ?_); (rotate_left)
         ·(simp only [Act.put, List.setIfInBounds_toArray, List.set_cons_zero, List.set_cons_succ, i64_w, i32_w]); (rfl)
         (refine pure_ (i := 20) (N := some 43) (v := undef) (a' := ?_) (bm 24 2097151) rfl rfl (any_of HT_.out (by kernel_rfl)) (fun _ _ _ h => h) (Or.inr ⟨by rfl, rfl⟩) ?_ ?_); (rotate_left)
         ·(simp only [Act.put, List.setIfInBounds_toArray, List.set_cons_zero, List.set_cons_succ, i64_w, i32_w]); (rfl)
         (refine pure_ (i := 21) (N := some 44) (v := undef) (a' := ?_) (bm 24 4194303) rfl rfl (any_of HT_.out (by kernel_rfl)) (fun _ _ _ h => h) (Or.inr ⟨by rfl, rfl⟩) ?_ ?_); (rotate_left)
         ·(simp only [Act.put, List.setIfInBounds_toArray, List.set_cons_zero, List.set_cons_succ, i64_w, i32_w]); (rfl)
         (refine pure_ (i := 22) (N := some 45) (v := undef) (a' := ?_) (bm 24 8388607) rfl rfl (any_of HT_.out (by kernel_rfl)) (fun _ _ _ h => h) (Or.inr ⟨by rfl, rfl⟩) ?_ ?_); (rotate_left)
         ·(simp only [Act.put, List.setIfInBounds_toArray, List.set_cons_zero, List.set_cons_succ, i64_w, i32_w]); (rfl)
         (refine pv_ 23 HT_ ?_); (refine done_ (done_of HT_.out (by kernel_rfl)) ?_); (try go_wp2); (try subst hji11); (go_roundg k2)
         case measure => have := HK1.out; have := HK2.out; omega
         case rel => exact ⟨(wrap64 (x6_2 + 1)), (by first | rfl | (simp; done) | (simp [*]; done)), H', ⟨by have := HK1.out; have := HK2.out; omega⟩, ⟨hb_ HB⟩⟩
        ·rw [if_neg c5] at H
         (have c5b0 := beq_eq_false_iff_ne.mpr c5); (have c5b1 := bne_iff_ne.mpr c5); (by_cases c7 : x6_2 = (Int.tmod (wrap64 (x4_1 + 1)) (l0.length : Int)))
         ·rw [if_pos c7] at H
          (have c7b0 := beq_iff_eq.mpr c7); (have c7b1 := bne_eq_false_iff_eq.mpr c7); (clear c7); (have H' := Aside0.mk H); (clear H); (try go_wp2); (replace HB := Aside0.mk (below_drew1 HB.out)); (refine start_ (n := 24) (S := fun w' => True) (ds := []) (bm 24 0) (by kernel_rfl) rfl rfl trivial (fun hHeld => ?_); refine with_tabW gangsawref08_convex.tab9 gangsawref08_convex.bits9 (fun HT_ HW_ => ?_)); (generalize wr.drew = w8 at HB hHeld ⊢); (refine pv_ 0 HT_ ?_); (refine pv_ 1 HT_ ?_); (refine pv_ 2 HT_ ?_); (refine pv_ 3 HT_ ?_); (refine pv_ 4 HT_ ?_); (refine pv_ 5 HT_ ?_); (refine pv_ 6 HT_ ?_); (refine pv_ 7 HT_ ?_); (refine pv_ 8 HT_ ?_); (refine pure_ (i := 9) (N := some 32) (v := undef) (a' := ?_) (bm 24 1023) rfl rfl (any_of HT_.out (by kernel_rfl)) (fun _ _ _ h => h) (Or.inr ⟨by rfl, rfl⟩) ?_ ?_); (rotate_left)
          ·(simp only [Act.put, List.setIfInBounds_toArray, List.set_cons_zero, List.set_cons_succ, i64_w, i32_w]); (rfl)
          (refine pure_ (i := 10) (N := some 33) (v := undef) (a' := ?_) (bm 24 2047) rfl rfl (any_of HT_.out (by kernel_rfl)) (fun _ _ _ h => h) (Or.inr ⟨by rfl, rfl⟩) ?_ ?_); (rotate_left)
          ·(simp only [Act.put, List.setIfInBounds_toArray, List.set_cons_zero, List.set_cons_succ, i64_w, i32_w]); (rfl)
          (refine pure_ (i := 11) (N := some 34) (v := undef) (a' := ?_) (bm 24 4095) rfl rfl (any_of HT_.out (by kernel_rfl)) (fun _ _ _ h => h) (Or.inr ⟨by rfl, rfl⟩) ?_ ?_); (rotate_left)
          ·(simp only [Act.put, List.setIfInBounds_toArray, List.set_cons_zero, List.set_cons_succ, i64_w, i32_w]); (rfl)
          (refine pure_ (i := 12) (N := some 35) (v := undef) (a' := ?_) (bm 24 8191) rfl rfl (any_of HT_.out (by kernel_rfl)) (fun _ _ _ h => h) (Or.inr ⟨by rfl, rfl⟩) ?_ ?_); (rotate_left)
          ·(simp only [Act.put, List.setIfInBounds_toArray, List.set_cons_zero, List.set_cons_succ, i64_w, i32_w]); (rfl)
          (refine pure_ (i := 13) (N := some 36) (v := undef) (a' := ?_) (bm 24 16383) rfl rfl (any_of HT_.out (by kernel_rfl)) (fun _ _ _ h => h) (Or.inr ⟨by rfl, rfl⟩) ?_ ?_); (rotate_left)
          ·(simp only [Act.put, List.setIfInBounds_toArray, List.set_cons_zero, List.set_cons_succ, i64_w, i32_w]); (rfl)
          (refine pure_ (i := 14) (N := some 37) (v := undef) (a' := ?_) (bm 24 32767) rfl rfl (any_of HT_.out (by kernel_rfl)) (fun _ _ _ h => h) (Or.inr ⟨by rfl, rfl⟩) ?_ ?_); (rotate_left)
          ·(simp only [Act.put, List.setIfInBounds_toArray, List.set_cons_zero, List.set_cons_succ, i64_w, i32_w]); (rfl)
          (refine pure_ (i := 15) (N := some 38) (v := undef) (a' := ?_) (bm 24 65535) rfl rfl (any_of HT_.out (by kernel_rfl)) (fun _ _ _ h => h) (Or.inr ⟨by rfl, rfl⟩) ?_ ?_); (rotate_left)
          ·(simp only [Act.put, List.setIfInBounds_toArray, List.set_cons_zero, List.set_cons_succ, i64_w, i32_w]); (rfl)
          (refine pure_ (i := 16) (N := some 39) (v := undef) (a' := ?_) (bm 24 131071) rfl rfl (any_of HT_.out (by kernel_rfl)) (fun _ _ _ h => h) (Or.inr ⟨by rfl, rfl⟩) ?_ ?_); (rotate_left)
          ·(simp only [Act.put, List.setIfInBounds_toArray, List.set_cons_zero, List.set_cons_succ, i64_w, i32_w]); (rfl)
          (refine pure_ (i := 17) (N := some 40) (v := undef) (a' := ?_) (bm 24 262143) rfl rfl (any_of HT_.out (by kernel_rfl)) (fun _ _ _ h => h) (Or.inr ⟨by rfl, rfl⟩) ?_ ?_); (rotate_left)
          ·(simp only [Act.put, List.setIfInBounds_toArray, List.set_cons_zero, List.set_cons_succ, i64_w, i32_w]); (rfl)
          (refine pure_ (i := 18) (N := some 41) (v := undef) (a' := ?_) (bm 24 524287) rfl rfl (any_of HT_.out (by kernel_rfl)) (fun _ _ _ h => h) (Or.inr ⟨by rfl, rfl⟩) ?_ ?_); (rotate_left)
          ·(simp only [Act.put, List.setIfInBounds_toArray, List.set_cons_zero, List.set_cons_succ, i64_w, i32_w]); (rfl)
          (refine pure_ (i := 19) (N := some 42) (v := undef) (a' := ?_) (bm 24 1048575) rfl rfl (any_of HT_.out (by kernel_rfl)) (fun _ _ _ h => h) (Or.inr ⟨by rfl, rfl⟩) ?_ ?_); (rotate_left)
          ·(simp only [Act.put, List.setIfInBounds_toArray, List.set_cons_zero, List.set_cons_succ, i64_w, i32_w]); (rfl)
          (refine pure_ (i := 20) (N := some 43) (v := undef) (a' := ?_) (bm 24 2097151) rfl rfl (any_of HT_.out (by kernel_rfl)) (fun _ _ _ h => h) (Or.inr ⟨by rfl, rfl⟩) ?_ ?_); (rotate_left)
          ·(simp only [Act.put, List.setIfInBounds_toArray, List.set_cons_zero, List.set_cons_succ, i64_w, i32_w]); (rfl)
          (refine pure_ (i := 21) (N := some 44) (v := undef) (a' := ?_) (bm 24 4194303) rfl rfl (any_of HT_.out (by kernel_rfl)) (fun _ _ _ h => h) (Or.inr ⟨by rfl, rfl⟩) ?_ ?_); (rotate_left)
          ·(simp only [Act.put, List.setIfInBounds_toArray, List.set_cons_zero, List.set_cons_succ, i64_w, i32_w]); (rfl)
          (refine pure_ (i := 22) (N := some 45) (v := undef) (a' := ?_) (bm 24 8388607) rfl rfl (any_of HT_.out (by kernel_rfl)) (fun _ _ _ h => h) (Or.inr ⟨by rfl, rfl⟩) ?_ ?_); (rotate_left)
          ·(simp only [Act.put, List.setIfInBounds_toArray, List.set_cons_zero, List.set_cons_succ, i64_w, i32_w]); (rfl)
          (refine pv_ 23 HT_ ?_); (refine done_ (done_of HT_.out (by kernel_rfl)) ?_); (try go_wp2); (try subst hji11); (go_roundg k2)
          case measure => have := HK1.out; have := HK2.out; omega
          case rel => exact ⟨(wrap64 (x6_2 + 1)), (by first | rfl | (simp; done) | (simp [*]; done)), H', ⟨by have := HK1.out; have := HK2.out; omega⟩, ⟨hb_ HB⟩⟩
         ·rw [if_neg c7] at H
          (have c7b0 := beq_eq_false_iff_ne.mpr c7); (have c7b1 := bne_iff_ne.mpr c7); (by_cases c9 : 0 ≤ x4_1)
          ·rw [if_pos c9] at H
           (have c9b0 := decide_eq_true c9); (clear c9); (by_cases c10 : x4_1 < (l0.length : Int))
           ·rw [if_pos c10] at H
            (have c10b0 := decide_eq_true c10); (clear c10); (obtain ⟨ji11, hji11⟩ : ∃ j_ : Int, (Int.tmod (wrap64 (x4_1 + 1)) (l0.length : Int)) = j_ := ⟨_, rfl⟩); (replace H : (if 0 ≤ (ji11) then (if (ji11) < (l0.length : Int) then (if 0 ≤ x6_2 then (if x6_2 < (l0.length : Int) then ((gangsawref08_Cross.f ((rd_T60 l0 x4_1).f0) ((rd_T60 l0 x4_1).f1) ((rd_T60 l0 (ji11)).f0) ((rd_T60 l0 (ji11)).f1) ((rd_T60 l0 x6_2).f0) ((rd_T60 l0 x6_2).f1)).bind fun t256 => (if t256 ≤ 0 then (some false) else (gangsawref08_convex.l1 k2 l0 (l0.length : Int) x4_1 (ji11) (wrap64 (x6_2 + 1))))) else (none)) else (none)) else (none)) else (none)) = some r := by first | (rw [hji11] at H; exact H) | (simp only [hji11] at H ⊢; exact H)); ((try rw [hji11] at c7b0)); ((try rw [hji11] at c7b1)); (by_cases c12 : 0 ≤ (ji11))
            ·rw [if_pos c12] at H
             (have c12b0 := decide_eq_true c12); (clear c12); (by_cases c13 : (ji11) < (l0.length : Int))
             ·rw [if_pos c13] at H
              (have c13b0 := decide_eq_true c13); (clear c13); (by_cases c14 : 0 ≤ x6_2)
              ·rw [if_pos c14] at H
               (have c14b0 := decide_eq_true c14); (clear c14); (by_cases c15 : x6_2 < (l0.length : Int))
               ·rw [if_pos c15] at H
                (have c15b0 := decide_eq_true c15); (clear c15); (replace H := Option.bind_eq_some_iff.mp H); (obtain ⟨t256, A160, H⟩ := H); (replace H : (if t256 ≤ 0 then (some false) else (gangsawref08_convex.l1 k2 l0 (l0.length : Int) x4_1 (ji11) (wrap64 (x6_2 + 1)))) = some r := H); (have A16 := Aside0.mk A160); (clear A160); (by_cases c17 : t256 ≤ 0)
                ·rw [if_pos c17] at H
                 (have c17b0 := decide_eq_true c17); (clear c17); (obtain rfl := Option.some.inj H); (try go_wp2); (replace HB := Aside0.mk (below_drew1 HB.out)); (have p253 : 0 ≤ (x4_1 : Int) := of_decide_eq_true (by first | (with_reducible assumption) | assumption)); (have q253 : x4_1 < (l0.length : Int) := of_decide_eq_true (by first | (with_reducible assumption) | assumption)); (obtain ⟨ad253, e253, hx253_0, hx253_1⟩ := at_T60 HR0.out x4_1 p253 q253); (have hw253_1 := hx253_1); (have hw253_0 := hx253_0); (cases e253); (replace hx253_0 := (HB.out.cell (World.block_lt_of_cell? w _ hx253_0)).trans hx253_0); (replace hx253_1 := (HB.out.cell (World.block_lt_of_cell? w _ hx253_1)).trans hx253_1); (replace p253 := eq_true p253); (replace q253 := eq_true q253); (have p254 : 0 ≤ ((ji11) : Int) := of_decide_eq_true (by first | (with_reducible assumption) | assumption)); (have q254 : (ji11) < (l0.length : Int) := of_decide_eq_true (by first | (with_reducible assumption) | assumption)); (obtain ⟨ad254, e254, hx254_0, hx254_1⟩ := at_T60 HR0.out (ji11) p254 q254); (have hw254_1 := hx254_1); (have hw254_0 := hx254_0); (obtain rfl : ad253 = ad254 := (by injection e254)); (replace hx254_0 := (HB.out.cell (World.block_lt_of_cell? w _ hx254_0)).trans hx254_0); (replace hx254_1 := (HB.out.cell (World.block_lt_of_cell? w _ hx254_1)).trans hx254_1); (replace p254 := eq_true p254); (replace q254 := eq_true q254); (have p255 : 0 ≤ (x6_2 : Int) := of_decide_eq_true (by first | (with_reducible assumption) | assumption)); (have q255 : x6_2 < (l0.length : Int) := of_decide_eq_true (by first | (with_reducible assumption) | assumption)); (obtain ⟨ad255, e255, hx255_0, hx255_1⟩ := at_T60 HR0.out x6_2 p255 q255); (have hw255_1 := hx255_1); (have hw255_0 := hx255_0); (obtain rfl : ad253 = ad255 := (by injection e255)); (replace hx255_0 := (HB.out.cell (World.block_lt_of_cell? w _ hx255_0)).trans hx255_0); (replace hx255_1 := (HB.out.cell (World.block_lt_of_cell? w _ hx255_1)).trans hx255_1); (replace p255 := eq_true p255); (replace q255 := eq_true q255); (refine start_ (n := 24) (S := fun w' => w'.cell? (ad253.add ((x4_1).toNat * 2)) = some (.int .i64 ((rd_T60 l0 x4_1).f0)) ∧ w'.cell? ⟨(ad253.add ((x4_1).toNat * 2)).block, (ad253.add ((x4_1).toNat * 2)).off + 1, none⟩ = some (.int .i64 ((rd_T60 l0 x4_1).f1)) ∧ w'.cell? (ad253.add (((ji11)).toNat * 2)) = some (.int .i64 ((rd_T60 l0 (ji11)).f0)) ∧ w'.cell? ⟨(ad253.add (((ji11)).toNat * 2)).block, (ad253.add (((ji11)).toNat * 2)).off + 1, none⟩ = some (.int .i64 ((rd_T60 l0 (ji11)).f1)) ∧ w'.cell? (ad253.add ((x6_2).toNat * 2)) = some (.int .i64 ((rd_T60 l0 x6_2).f0)) ∧ w'.cell? ⟨(ad253.add ((x6_2).toNat * 2)).block, (ad253.add ((x6_2).toNat * 2)).off + 1, none⟩ = some (.int .i64 ((rd_T60 l0 x6_2).f1))) (ds := []) (bm 24 0) (by kernel_rfl) rfl rfl ⟨((HB.out.cell (World.block_lt_of_cell? w _ hw253_0)).trans hw253_0), ((HB.out.cell (World.block_lt_of_cell? w _ hw253_1)).trans hw253_1), ((HB.out.cell (World.block_lt_of_cell? w _ hw254_0)).trans hw254_0), ((HB.out.cell (World.block_lt_of_cell? w _ hw254_1)).trans hw254_1), ((HB.out.cell (World.block_lt_of_cell? w _ hw255_0)).trans hw255_0), ((HB.out.cell (World.block_lt_of_cell? w _ hw255_1)).trans hw255_1)⟩ (fun hHeld => ?_); refine with_tabW gangsawref08_convex.tab9 gangsawref08_convex.bits9 (fun HT_ HW_ => ?_))
                 (generalize wr.drew = w18 at HB hx253_0 hx253_1 hx254_0 hx254_1 hx255_0 hx255_1 hHeld ⊢); (refine pv_ 0 HT_ ?_); (refine pv_ 1 HT_ ?_); (refine pv_ 2 HT_ ?_); (refine pv_ 3 HT_ ?_); (refine pv_ 4 HT_ ?_); (refine pv_ 5 HT_ ?_); (refine pv_ 6 HT_ ?_); (refine pv_ 7 HT_ ?_); (refine pv_ 8 HT_ ?_); (refine pv_ 9 HT_ ?_); (refine pv_ 10 HT_ ?_); (refine pv_ 11 HT_ ?_); (refine pv_ 13 HT_ ?_); (refine pv_ 14 HT_ ?_); (refine pv_ 15 HT_ ?_); (refine pv_ 17 HT_ ?_); (refine pv_ 18 HT_ ?_); (refine pv_ 19 HT_ ?_); (refine tv_ 12 HT_ HW_ hHeld ?_); (refine tv_ 16 HT_ HW_ hHeld ?_); (refine tv_ 20 HT_ HW_ hHeld ?_); (refine one_ (i := 21) (N := some 44) (bm 24 4194303) rfl rfl (one_of HT_.out (by kernel_rfl)) (by decide) (fun K hK => ?_)); (refine goes_ Try.func40 (by kernel_rfl) rfl #[.agg #[.int .i64 ((rd_T60 l0 x4_1).f0), .int .i64 ((rd_T60 l0 x4_1).f1)], .agg #[.int .i64 ((rd_T60 l0 (ji11)).f0), .int .i64 ((rd_T60 l0 (ji11)).f1)], .agg #[.int .i64 ((rd_T60 l0 x6_2).f0), .int .i64 ((rd_T60 l0 x6_2).f1)]] (by rfl) rfl rfl (by (try simp only [List.map_toArray, List.map_cons, List.map_nil]); first | done | (simp only [hji11]; rfl) | rfl | (simp only [List.length_drop, List.length_take]; rfl)) ?_); (with_reducible refine (gangsawref08_Cross.calls ((rd_T60 l0 x4_1).f0) ((rd_T60 l0 x4_1).f1) ((rd_T60 l0 (ji11)).f0) ((rd_T60 l0 (ji11)).f1) ((rd_T60 l0 x6_2).f0) ((rd_T60 l0 x6_2).f1) t256 _ A16.out).mono ?_); (rintro e w19 ⟨rfl, hb⟩); (refine ⟨_, rfl, ?_⟩); (replace HB := hs_ HB hb); ((try clear hb)); ((try clear hb2)); ((try clear hk)); ((try clear hi)); (refine hK.out _ _ ⟨((HB.out.cell (World.block_lt_of_cell? w _ hw253_0)).trans hw253_0), ((HB.out.cell (World.block_lt_of_cell? w _ hw253_1)).trans hw253_1), ((HB.out.cell (World.block_lt_of_cell? w _ hw254_0)).trans hw254_0), ((HB.out.cell (World.block_lt_of_cell? w _ hw254_1)).trans hw254_1), ((HB.out.cell (World.block_lt_of_cell? w _ hw255_0)).trans hw255_0), ((HB.out.cell (World.block_lt_of_cell? w _ hw255_1)).trans hw255_1)⟩ (fun hHeld => ?_)); (clear hK K); (refine nv_ ?_); (refine pv_ 22 HT_ ?_); (refine pv_ 23 HT_ ?_); (refine done_ (done_of HT_.out (by kernel_rfl)) ?_); (try go_wp2); (go_ret); (exact ⟨by first | rfl | (simp [errW_none, errW_some] <;> rfl) | (simp only [← hji11]; first | rfl | (simp [errW_none, errW_some] <;> rfl)) | (simp [*, errW_none, errW_some] <;> rfl), hb_ HB⟩)
                ·rw [if_neg c17] at H
                 (have c17b0 := decide_eq_false c17); (clear c17); (have H' := Aside0.mk H); (clear H); (try go_wp2); (replace HB := Aside0.mk (below_drew1 HB.out)); (have p253 : 0 ≤ (x4_1 : Int) := of_decide_eq_true (by first | (with_reducible assumption) | assumption)); (have q253 : x4_1 < (l0.length : Int) := of_decide_eq_true (by first | (with_reducible assumption) | assumption)); (obtain ⟨ad253, e253, hx253_0, hx253_1⟩ := at_T60 HR0.out x4_1 p253 q253); (have hw253_1 := hx253_1); (have hw253_0 := hx253_0); (cases e253); (replace hx253_0 := (HB.out.cell (World.block_lt_of_cell? w _ hx253_0)).trans hx253_0); (replace hx253_1 := (HB.out.cell (World.block_lt_of_cell? w _ hx253_1)).trans hx253_1); (replace p253 := eq_true p253); (replace q253 := eq_true q253); (have p254 : 0 ≤ ((ji11) : Int) := of_decide_eq_true (by first | (with_reducible assumption) | assumption)); (have q254 : (ji11) < (l0.length : Int) := of_decide_eq_true (by first | (with_reducible assumption) | assumption)); (obtain ⟨ad254, e254, hx254_0, hx254_1⟩ := at_T60 HR0.out (ji11) p254 q254); (have hw254_1 := hx254_1); (have hw254_0 := hx254_0); (obtain rfl : ad253 = ad254 := (by injection e254)); (replace hx254_0 := (HB.out.cell (World.block_lt_of_cell? w _ hx254_0)).trans hx254_0); (replace hx254_1 := (HB.out.cell (World.block_lt_of_cell? w _ hx254_1)).trans hx254_1); (replace p254 := eq_true p254); (replace q254 := eq_true q254); (have p255 : 0 ≤ (x6_2 : Int) := of_decide_eq_true (by first | (with_reducible assumption) | assumption)); (have q255 : x6_2 < (l0.length : Int) := of_decide_eq_true (by first | (with_reducible assumption) | assumption)); (obtain ⟨ad255, e255, hx255_0, hx255_1⟩ := at_T60 HR0.out x6_2 p255 q255); (have hw255_1 := hx255_1); (have hw255_0 := hx255_0); (obtain rfl : ad253 = ad255 := (by injection e255)); (replace hx255_0 := (HB.out.cell (World.block_lt_of_cell? w _ hx255_0)).trans hx255_0); (replace hx255_1 := (HB.out.cell (World.block_lt_of_cell? w _ hx255_1)).trans hx255_1); (replace p255 := eq_true p255); (replace q255 := eq_true q255); (refine start_ (n := 24) (S := fun w' => w'.cell? (ad253.add ((x4_1).toNat * 2)) = some (.int .i64 ((rd_T60 l0 x4_1).f0)) ∧ w'.cell? ⟨(ad253.add ((x4_1).toNat * 2)).block, (ad253.add ((x4_1).toNat * 2)).off + 1, none⟩ = some (.int .i64 ((rd_T60 l0 x4_1).f1)) ∧ w'.cell? (ad253.add (((ji11)).toNat * 2)) = some (.int .i64 ((rd_T60 l0 (ji11)).f0)) ∧ w'.cell? ⟨(ad253.add (((ji11)).toNat * 2)).block, (ad253.add (((ji11)).toNat * 2)).off + 1, none⟩ = some (.int .i64 ((rd_T60 l0 (ji11)).f1)) ∧ w'.cell? (ad253.add ((x6_2).toNat * 2)) = some (.int .i64 ((rd_T60 l0 x6_2).f0)) ∧ w'.cell? ⟨(ad253.add ((x6_2).toNat * 2)).block, (ad253.add ((x6_2).toNat * 2)).off + 1, none⟩ = some (.int .i64 ((rd_T60 l0 x6_2).f1))) (ds := []) (bm 24 0) (by kernel_rfl) rfl rfl ⟨((HB.out.cell (World.block_lt_of_cell? w _ hw253_0)).trans hw253_0), ((HB.out.cell (World.block_lt_of_cell? w _ hw253_1)).trans hw253_1), ((HB.out.cell (World.block_lt_of_cell? w _ hw254_0)).trans hw254_0), ((HB.out.cell (World.block_lt_of_cell? w _ hw254_1)).trans hw254_1), ((HB.out.cell (World.block_lt_of_cell? w _ hw255_0)).trans hw255_0), ((HB.out.cell (World.block_lt_of_cell? w _ hw255_1)).trans hw255_1)⟩ (fun hHeld => ?_); refine with_tabW gangsawref08_convex.tab9 gangsawref08_convex.bits9 (fun HT_ HW_ => ?_))
                 (generalize wr.drew = w20 at HB hx253_0 hx253_1 hx254_0 hx254_1 hx255_0 hx255_1 hHeld ⊢); (refine pv_ 0 HT_ ?_); (refine pv_ 1 HT_ ?_); (refine pv_ 2 HT_ ?_); (refine pv_ 3 HT_ ?_); (refine pv_ 4 HT_ ?_); (refine pv_ 5 HT_ ?_); (refine pv_ 6 HT_ ?_); (refine pv_ 7 HT_ ?_); (refine pv_ 8 HT_ ?_); (refine pv_ 9 HT_ ?_); (refine pv_ 10 HT_ ?_); (refine pv_ 11 HT_ ?_); (refine pv_ 13 HT_ ?_); (refine pv_ 14 HT_ ?_); (refine pv_ 15 HT_ ?_); (refine pv_ 17 HT_ ?_); (refine pv_ 18 HT_ ?_); (refine pv_ 19 HT_ ?_); (refine tv_ 12 HT_ HW_ hHeld ?_); (refine tv_ 16 HT_ HW_ hHeld ?_); (refine tv_ 20 HT_ HW_ hHeld ?_); (refine one_ (i := 21) (N := some 44) (bm 24 4194303) rfl rfl (one_of HT_.out (by kernel_rfl)) (by decide) (fun K hK => ?_)); (refine goes_ Try.func40 (by kernel_rfl) rfl #[.agg #[.int .i64 ((rd_T60 l0 x4_1).f0), .int .i64 ((rd_T60 l0 x4_1).f1)], .agg #[.int .i64 ((rd_T60 l0 (ji11)).f0), .int .i64 ((rd_T60 l0 (ji11)).f1)], .agg #[.int .i64 ((rd_T60 l0 x6_2).f0), .int .i64 ((rd_T60 l0 x6_2).f1)]] (by rfl) rfl rfl (by (try simp only [List.map_toArray, List.map_cons, List.map_nil]); first | done | (simp only [hji11]; rfl) | rfl | (simp only [List.length_drop, List.length_take]; rfl)) ?_); (with_reducible refine (gangsawref08_Cross.calls ((rd_T60 l0 x4_1).f0) ((rd_T60 l0 x4_1).f1) ((rd_T60 l0 (ji11)).f0) ((rd_T60 l0 (ji11)).f1) ((rd_T60 l0 x6_2).f0) ((rd_T60 l0 x6_2).f1) t256 _ A16.out).mono ?_); (rintro e w21 ⟨rfl, hb⟩); (refine ⟨_, rfl, ?_⟩); (replace HB := hs_ HB hb); ((try clear hb)); ((try clear hb2)); ((try clear hk)); ((try clear hi)); (refine hK.out _ _ ⟨((HB.out.cell (World.block_lt_of_cell? w _ hw253_0)).trans hw253_0), ((HB.out.cell (World.block_lt_of_cell? w _ hw253_1)).trans hw253_1), ((HB.out.cell (World.block_lt_of_cell? w _ hw254_0)).trans hw254_0), ((HB.out.cell (World.block_lt_of_cell? w _ hw254_1)).trans hw254_1), ((HB.out.cell (World.block_lt_of_cell? w _ hw255_0)).trans hw255_0), ((HB.out.cell (World.block_lt_of_cell? w _ hw255_1)).trans hw255_1)⟩ (fun hHeld => ?_)); (clear hK K); (refine nv_ ?_); (refine pv_ 22 HT_ ?_); (refine pv_ 23 HT_ ?_); (refine done_ (done_of HT_.out (by kernel_rfl)) ?_); (try go_wp2); (try subst hji11); (go_roundg k2)
                 case measure => have := HK1.out; have := HK2.out; omega
                 case rel => exact ⟨(wrap64 (x6_2 + 1)), (by first | rfl | (simp; done) | (simp [*]; done)), H', ⟨by have := HK1.out; have := HK2.out; omega⟩, ⟨hb_ HB⟩⟩
               ·(rw [if_neg c15] at H); (exact absurd H (by simp))
              ·(rw [if_neg c14] at H); (exact absurd H (by simp))
             ·(rw [if_neg c13] at H); (exact absurd H (by simp))
            ·(rw [if_neg c12] at H); (exact absurd H (by simp))
           ·(rw [if_neg c10] at H); (exact absurd H (by simp))
          ·(rw [if_neg c9] at H); (exact absurd H (by simp))
       ·rw [if_neg c4] at H
        (have c4b0 := decide_eq_false c4); (clear c4); (have H' := Aside0.mk H); (clear H); (go_wp2); (try subst hji11); (go_roundg k2)
        case measure => have := HK1.out; have := HK2.out; omega
        case rel => exact ⟨(wrap64 (x4_1 + 1)), (by first | rfl | (simp; done) | (simp [*]; done)), H', ⟨by have := HK1.out; have := HK2.out; omega⟩, ⟨hb_ HB⟩⟩
   ·(rw [if_neg c2] at H); (have c2b0 := decide_eq_false c2); (clear c2); (obtain rfl := Option.some.inj H); (go_wp2); (go_ret); (exact ⟨by first | rfl | (simp [errW_none, errW_some] <;> rfl) | (simp [*, errW_none, errW_some] <;> rfl), hb_ HB⟩)

end Go.Proofs.Ythogemdknlpnpaa.XA
