-- written by xprint.py, this project's own program (wip/), over the words of print.sh
import Derived.Test.YthogemdknlpnpaaXAx0
import Derived.Test.YthogemdknlpnpaaXAx20
import Derived.Test.YthogemdknlpnpaaFlat
namespace Go.Proofs.Ythogemdknlpnpaa.XA
open Go.Proofs.Ythogemdknlpnpaa.Flat Go.RowKit Go.Proofs.Ythogemdknlpnpaa.Opens Go.Proofs.YthogemdknlpnpaaW.PrintWords Go.Proofs.YthogemdknlpnpaaW.PrintLast Go.Proofs.YthogemdknlpnpaaW.PrintMore
attribute [local go_sem] max2_int min2_int max_two min_two max_three min_three max_four min_four cell_some cell_same   -- for this text's walks alone
set_option linter.unusedVariables false
set_option linter.unusedSimpArgs false

/-! ### gangsawref08_beyond: function 47 -/
def gangsawref08_beyond.l0 : Nat → List (S60) → Int → List (S60) → Int → Option (Bool)
 | 0, _, _, _, _ => none
 | k + 1, x0, x1, x2, x7 => if x7 < (x2.length : Int) then (if 0 ≤ x1 then (if x1 < (x0.length : Int) then (if (x0.length : Int) = 0 then (none) else (if 0 ≤ (Int.tmod (wrap64 (x1 + 1)) (x0.length : Int)) then (if (Int.tmod (wrap64 (x1 + 1)) (x0.length : Int)) < (x0.length : Int) then (if 0 ≤ x7 then ((gangsawref08_Cross.f ((rd_T60 x0 x1).f0) ((rd_T60 x0 x1).f1) ((rd_T60 x0 (Int.tmod (wrap64 (x1 + 1)) (x0.length : Int))).f0) ((rd_T60 x0 (Int.tmod (wrap64 (x1 + 1)) (x0.length : Int))).f1) ((rd_T60 x2 x7).f0) ((rd_T60 x2 x7).f1)).bind fun t318 => (if t318 > 0 then (some false) else (gangsawref08_beyond.l0 k x0 x1 x2 (wrap64 (x7 + 1))))) else (none)) else (none)) else (none))) else (none)) else (none)) else (some true)
def gangsawref08_beyond.f (k : Nat) (l0 : List (S60)) (a1 : Int) (l2 : List (S60)) : Option (Bool) := gangsawref08_beyond.l0 k l0 a1 l2 0
theorem gangsawref08_beyond.mono_l : ∀ k, (∀ y0 y1 y2 y3, LeO (gangsawref08_beyond.l0 k y0 y1 y2 y3) (gangsawref08_beyond.l0 (k + 1) y0 y1 y2 y3))
 | 0 => fun _ _ _ _ r h => by simp [gangsawref08_beyond.l0] at h
 | k + 1 => by
  have ih0 := gangsawref08_beyond.mono_l k
  ·intro y0 y1 y2 y3
   unfold gangsawref08_beyond.l0
   repeat' first
   | (with_reducible exact ih0 _ _ _ _)
   | (with_reducible exact LeO.refl _)
   | (with_reducible exact LeO.none _)
   | (with_reducible refine LeO.ite ?_ ?_)
   | (with_reducible refine LeO.bind ?_ (fun _ => ?_))
   | exact ih0 _ _ _ _
   | exact LeO.none _
   | refine LeO.ite ?_ ?_
   | refine LeO.bind ?_ (fun _ => ?_)
theorem gangsawref08_beyond.mono : ∀ a0 a1 a2 k, LeO (gangsawref08_beyond.f k a0 a1 a2) (gangsawref08_beyond.f (k + 1) a0 a1 a2) := by
 intro a0 a1 a2 k
 have ih0 := gangsawref08_beyond.mono_l k
 unfold gangsawref08_beyond.f
 repeat' first
   | (with_reducible exact ih0 _ _ _ _)
   | (with_reducible exact LeO.refl _)
   | (with_reducible exact LeO.none _)
   | (with_reducible refine LeO.ite ?_ ?_)
   | (with_reducible refine LeO.bind ?_ (fun _ => ?_))
   | exact ih0 _ _ _ _
   | exact LeO.none _
   | refine LeO.ite ?_ ?_
   | refine LeO.bind ?_ (fun _ => ?_)
def gangsawref08_beyond.T4 : Bool × List (List Nat × List Nat) := (true, [([], []), ([], []), ([0, 1], [0, 1]), ([2], [2]), ([], []), ([], []), ([5], [5]), ([], []), ([7], [7]), ([6, 8], [6, 8]), ([4, 9], [4, 9]), ([10], [10]), ([], []), ([], []), ([12, 13], [12, 13]), ([14], [14]), ([3, 11, 15], [3, 11, 15]), ([16], [16])])
def gangsawref08_beyond.B4 : List Nat := [0, 0, 3, 7, 0, 0, 32, 0, 128, 480, 1008, 2032, 0, 0, 12288, 28672, 65535, 131071]
theorem gangsawref08_beyond.tab4 : rtab .any (opsOf Try.f47 4) = gangsawref08_beyond.T4 := by kernel_rfl
theorem gangsawref08_beyond.bits4 : waitsOk gangsawref08_beyond.T4.2 gangsawref08_beyond.B4 = true := by kernel_rfl
set_option maxHeartbeats 8000000 in
set_option maxRecDepth 100000 in
theorem gangsawref08_beyond.calls (k : Nat) (A0 : Option Addr) (c0 : Nat) (l0 : List (S60)) (a1 : Int) (A2 : Option Addr) (c2 : Nat) (l2 : List (S60)) (r : Bool) (w : World) (hr0 : Kd.C k60 w A0 l0.length l0) (hc0 : l0.length ≤ c0) (hr2 : Kd.C k60 w A2 l2.length l2) (hc2 : l2.length ≤ c2) (h : gangsawref08_beyond.f k l0 a1 l2 = some r) :
  Calls Try.prog 47 #[.slice A0 l0.length c0, .int .i64 a1, .slice A2 l2.length c2] w fun e w' => e = .returned (.bool r) ∧ Below w.heap.size w w' := by
 have hu60 := Try.underlying60
 have HR0 := Aside0.mk hr0
 have HC0 := Aside0.mk hc0
 clear hr0 hc0
 have HR2 := Aside0.mk hr2
 have HC2 := Aside0.mk hc2
 clear hr2 hc2
 have HB := Aside0.mk (Below.refl w.heap.size w)
 have H : (gangsawref08_beyond.l0 k l0 a1 l2 0) = some r := h
 clear h
 have H' := Aside0.mk H
 clear H
 go_enter Try.func47, Try.ntmps47
 go_wp2
 go_loopg [7] k (fun kq v7 w' => ∃ (x7_1 : Int), v7 = .int .i64 x7_1 ∧ Aside0 (gangsawref08_beyond.l0 kq l0 a1 l2 x7_1 = some r) ∧ Aside0 (kq ≤ k) ∧ Aside0 (Below w.heap.size w w'))
 case atStart => exact ⟨(0), (by first | rfl | (simp; done) | (simp [*]; done)), H', ⟨Nat.le_refl _⟩, ⟨hb_ HB⟩⟩
 case round =>
  (clear H'); (try clear c2); (try clear p2); (obtain ⟨x7_1, rfl, HA, HK1, HB⟩ := hrel)
  cases gk with
  | zero => exact absurd HA.out (by simp [gangsawref08_beyond.l0])
  | succ k1 =>
   (have H := HA.out); (clear HA); (simp only [gangsawref08_beyond.l0] at H); (by_cases c4 : x7_1 < (l2.length : Int))
   ·rw [if_pos c4] at H
    (have c4b0 := decide_eq_true c4); (clear c4); (by_cases c5 : 0 ≤ a1)
    ·rw [if_pos c5] at H
     (have c5b0 := decide_eq_true c5); (clear c5); (by_cases c6 : a1 < (l0.length : Int))
     ·rw [if_pos c6] at H
      (have c6b0 := decide_eq_true c6); (clear c6); (by_cases c7 : (l0.length : Int) = 0)
      ·(rw [if_pos c7] at H); (exact absurd H (by simp))
      ·rw [if_neg c7] at H
       (have c7b0 := beq_eq_false_iff_ne.mpr c7); (have c7b1 := bne_iff_ne.mpr c7); (have c7b2 : ¬ (l0 = []) := fun h_ => c7 (by rw [h_]; rfl)); (obtain ⟨ji8, hji8⟩ : ∃ j_ : Int, (Int.tmod (wrap64 (a1 + 1)) (l0.length : Int)) = j_ := ⟨_, rfl⟩); (replace H : (if 0 ≤ (ji8) then (if (ji8) < (l0.length : Int) then (if 0 ≤ x7_1 then ((gangsawref08_Cross.f ((rd_T60 l0 a1).f0) ((rd_T60 l0 a1).f1) ((rd_T60 l0 (ji8)).f0) ((rd_T60 l0 (ji8)).f1) ((rd_T60 l2 x7_1).f0) ((rd_T60 l2 x7_1).f1)).bind fun t318 => (if t318 > 0 then (some false) else (gangsawref08_beyond.l0 k1 l0 a1 l2 (wrap64 (x7_1 + 1))))) else (none)) else (none)) else (none)) = some r := by first | (rw [hji8] at H; exact H) | (simp only [hji8] at H ⊢; exact H)); (by_cases c9 : 0 ≤ (ji8))
       ·rw [if_pos c9] at H
        (have c9b0 := decide_eq_true c9); (clear c9); (by_cases c10 : (ji8) < (l0.length : Int))
        ·rw [if_pos c10] at H
         (have c10b0 := decide_eq_true c10); (clear c10); (by_cases c11 : 0 ≤ x7_1)
         ·rw [if_pos c11] at H
          (have c11b0 := decide_eq_true c11); (clear c11); (replace H := Option.bind_eq_some_iff.mp H); (obtain ⟨t318, A120, H⟩ := H); (replace H : (if t318 > 0 then (some false) else (gangsawref08_beyond.l0 k1 l0 a1 l2 (wrap64 (x7_1 + 1)))) = some r := H); (have A12 := Aside0.mk A120); (clear A120); (by_cases c13 : t318 > 0)
          ·rw [if_pos c13] at H
           (have c13b0 := decide_eq_true c13); (clear c13); (obtain rfl := Option.some.inj H); (try go_wp2); (replace HB := Aside0.mk (below_drew1 HB.out)); (have p315 : 0 ≤ (a1 : Int) := of_decide_eq_true (by first | (with_reducible assumption) | assumption)); (have q315 : a1 < (l0.length : Int) := of_decide_eq_true (by first | (with_reducible assumption) | assumption)); (obtain ⟨ad315, e315, hx315_0, hx315_1⟩ := at_T60 HR0.out a1 p315 q315); (have hw315_1 := hx315_1); (have hw315_0 := hx315_0); (cases e315); (replace hx315_0 := (HB.out.cell (World.block_lt_of_cell? w _ hx315_0)).trans hx315_0); (replace hx315_1 := (HB.out.cell (World.block_lt_of_cell? w _ hx315_1)).trans hx315_1); (replace p315 := eq_true p315); (replace q315 := eq_true q315); (have p316 : 0 ≤ ((ji8) : Int) := of_decide_eq_true (by first | (with_reducible assumption) | assumption)); (have q316 : (ji8) < (l0.length : Int) := of_decide_eq_true (by first | (with_reducible assumption) | assumption)); (obtain ⟨ad316, e316, hx316_0, hx316_1⟩ := at_T60 HR0.out (ji8) p316 q316); (have hw316_1 := hx316_1); (have hw316_0 := hx316_0); (obtain rfl : ad315 = ad316 := (by injection e316)); (replace hx316_0 := (HB.out.cell (World.block_lt_of_cell? w _ hx316_0)).trans hx316_0); (replace hx316_1 := (HB.out.cell (World.block_lt_of_cell? w _ hx316_1)).trans hx316_1); (replace p316 := eq_true p316); (replace q316 := eq_true q316); (have p317 : 0 ≤ (x7_1 : Int) := of_decide_eq_true (by first | (with_reducible assumption) | assumption)); (have q317 : x7_1 < (l2.length : Int) := of_decide_eq_true (by first | (with_reducible assumption) | assumption)); (obtain ⟨ad317, e317, hx317_0, hx317_1⟩ := at_T60 HR2.out x7_1 p317 q317); (have hw317_1 := hx317_1); (have hw317_0 := hx317_0); (cases e317); (replace hx317_0 := (HB.out.cell (World.block_lt_of_cell? w _ hx317_0)).trans hx317_0); (replace hx317_1 := (HB.out.cell (World.block_lt_of_cell? w _ hx317_1)).trans hx317_1); (replace p317 := eq_true p317); (replace q317 := eq_true q317); (refine start_ (n := 18) (S := fun w' => w'.cell? (ad315.add ((a1).toNat * 2)) = some (.int .i64 ((rd_T60 l0 a1).f0)) ∧ w'.cell? ⟨(ad315.add ((a1).toNat * 2)).block, (ad315.add ((a1).toNat * 2)).off + 1, none⟩ = some (.int .i64 ((rd_T60 l0 a1).f1)) ∧ w'.cell? (ad315.add (((ji8)).toNat * 2)) = some (.int .i64 ((rd_T60 l0 (ji8)).f0)) ∧ w'.cell? ⟨(ad315.add (((ji8)).toNat * 2)).block, (ad315.add (((ji8)).toNat * 2)).off + 1, none⟩ = some (.int .i64 ((rd_T60 l0 (ji8)).f1)) ∧ w'.cell? (ad317.add ((x7_1).toNat * 2)) = some (.int .i64 ((rd_T60 l2 x7_1).f0)) ∧ w'.cell? ⟨(ad317.add ((x7_1).toNat * 2)).block, (ad317.add ((x7_1).toNat * 2)).off + 1, none⟩ = some (.int .i64 ((rd_T60 l2 x7_1).f1))) (ds := []) (bm 18 0) (by kernel_rfl) rfl rfl ⟨((HB.out.cell (World.block_lt_of_cell? w _ hw315_0)).trans hw315_0), ((HB.out.cell (World.block_lt_of_cell? w _ hw315_1)).trans hw315_1), ((HB.out.cell (World.block_lt_of_cell? w _ hw316_0)).trans hw316_0), ((HB.out.cell (World.block_lt_of_cell? w _ hw316_1)).trans hw316_1), ((HB.out.cell (World.block_lt_of_cell? w _ hw317_0)).trans hw317_0), ((HB.out.cell (World.block_lt_of_cell? w _ hw317_1)).trans hw317_1)⟩ (fun hHeld => ?_); refine with_tabW gangsawref08_beyond.tab4 gangsawref08_beyond.bits4 (fun HT_ HW_ => ?_))
           (generalize wr.drew = w14 at HB hx315_0 hx315_1 hx316_0 hx316_1 hx317_0 hx317_1 hHeld ⊢); (refine pv_ 0 HT_ ?_); (refine pv_ 1 HT_ ?_); (refine pv_ 2 HT_ ?_); (refine pv_ 4 HT_ ?_); (refine pv_ 5 HT_ ?_); (refine pv_ 6 HT_ ?_); (refine pv_ 7 HT_ ?_); (refine pv_ 8 HT_ ?_); (refine pv_ 9 HT_ ?_); (refine pv_ 10 HT_ ?_); (refine pv_ 12 HT_ ?_); (refine pv_ 13 HT_ ?_); (refine pv_ 14 HT_ ?_); (refine tv_ 3 HT_ HW_ hHeld ?_); (refine tv_ 11 HT_ HW_ hHeld ?_); (refine tv_ 15 HT_ HW_ hHeld ?_); (refine one_ (i := 16) (N := some 30) (bm 18 131071) rfl rfl (one_of HT_.out (by kernel_rfl)) (by decide) (fun K hK => ?_)); (refine goes_ Try.func40 (by kernel_rfl) rfl #[.agg #[.int .i64 ((rd_T60 l0 a1).f0), .int .i64 ((rd_T60 l0 a1).f1)], .agg #[.int .i64 ((rd_T60 l0 (ji8)).f0), .int .i64 ((rd_T60 l0 (ji8)).f1)], .agg #[.int .i64 ((rd_T60 l2 x7_1).f0), .int .i64 ((rd_T60 l2 x7_1).f1)]] (by rfl) rfl rfl (by (try simp only [List.map_toArray, List.map_cons, List.map_nil]); first | done | (simp only [hji8]; rfl) | rfl | (simp only [List.length_drop, List.length_take]; rfl)) ?_); (with_reducible refine (gangsawref08_Cross.calls ((rd_T60 l0 a1).f0) ((rd_T60 l0 a1).f1) ((rd_T60 l0 (ji8)).f0) ((rd_T60 l0 (ji8)).f1) ((rd_T60 l2 x7_1).f0) ((rd_T60 l2 x7_1).f1) t318 _ A12.out).mono ?_); (rintro e w15 ⟨rfl, hb⟩); (refine ⟨_, rfl, ?_⟩); (replace HB := hs_ HB hb); ((try clear hb)); ((try clear hb2)); ((try clear hk)); ((try clear hi)); (refine hK.out _ _ ⟨((HB.out.cell (World.block_lt_of_cell? w _ hw315_0)).trans hw315_0), ((HB.out.cell (World.block_lt_of_cell? w _ hw315_1)).trans hw315_1), ((HB.out.cell (World.block_lt_of_cell? w _ hw316_0)).trans hw316_0), ((HB.out.cell (World.block_lt_of_cell? w _ hw316_1)).trans hw316_1), ((HB.out.cell (World.block_lt_of_cell? w _ hw317_0)).trans hw317_0), ((HB.out.cell (World.block_lt_of_cell? w _ hw317_1)).trans hw317_1)⟩ (fun hHeld => ?_)); (clear hK K); (refine nv_ ?_); (refine pv_ 17 HT_ ?_); (refine done_ (done_of HT_.out (by kernel_rfl)) ?_); (try go_wp2); (go_ret); (exact ⟨by first | rfl | (simp [errW_none, errW_some] <;> rfl) | (simp only [← hji8]; first | rfl | (simp [errW_none, errW_some] <;> rfl)) | (simp [*, errW_none, errW_some] <;> rfl), hb_ HB⟩)
          ·rw [if_neg c13] at H
           (have c13b0 := decide_eq_false c13); (clear c13); (have H' := Aside0.mk H); (clear H); (try go_wp2); (replace HB := Aside0.mk (below_drew1 HB.out)); (have p315 : 0 ≤ (a1 : Int) := of_decide_eq_true (by first | (with_reducible assumption) | assumption)); (have q315 : a1 < (l0.length : Int) := of_decide_eq_true (by first | (with_reducible assumption) | assumption)); (obtain ⟨ad315, e315, hx315_0, hx315_1⟩ := at_T60 HR0.out a1 p315 q315); (have hw315_1 := hx315_1); (have hw315_0 := hx315_0); (cases e315); (replace hx315_0 := (HB.out.cell (World.block_lt_of_cell? w _ hx315_0)).trans hx315_0); (replace hx315_1 := (HB.out.cell (World.block_lt_of_cell? w _ hx315_1)).trans hx315_1); (replace p315 := eq_true p315); (replace q315 := eq_true q315); (have p316 : 0 ≤ ((ji8) : Int) := of_decide_eq_true (by first | (with_reducible assumption) | assumption)); (have q316 : (ji8) < (l0.length : Int) := of_decide_eq_true (by first | (with_reducible assumption) | assumption)); (obtain ⟨ad316, e316, hx316_0, hx316_1⟩ := at_T60 HR0.out (ji8) p316 q316); (have hw316_1 := hx316_1); (have hw316_0 := hx316_0); (obtain rfl : ad315 = ad316 := (by injection e316)); (replace hx316_0 := (HB.out.cell (World.block_lt_of_cell? w _ hx316_0)).trans hx316_0); (replace hx316_1 := (HB.out.cell (World.block_lt_of_cell? w _ hx316_1)).trans hx316_1); (replace p316 := eq_true p316); (replace q316 := eq_true q316); (have p317 : 0 ≤ (x7_1 : Int) := of_decide_eq_true (by first | (with_reducible assumption) | assumption)); (have q317 : x7_1 < (l2.length : Int) := of_decide_eq_true (by first | (with_reducible assumption) | assumption)); (obtain ⟨ad317, e317, hx317_0, hx317_1⟩ := at_T60 HR2.out x7_1 p317 q317); (have hw317_1 := hx317_1); (have hw317_0 := hx317_0); (cases e317); (replace hx317_0 := (HB.out.cell (World.block_lt_of_cell? w _ hx317_0)).trans hx317_0); (replace hx317_1 := (HB.out.cell (World.block_lt_of_cell? w _ hx317_1)).trans hx317_1); (replace p317 := eq_true p317); (replace q317 := eq_true q317); (refine start_ (n := 18) (S := fun w' => w'.cell? (ad315.add ((a1).toNat * 2)) = some (.int .i64 ((rd_T60 l0 a1).f0)) ∧ w'.cell? ⟨(ad315.add ((a1).toNat * 2)).block, (ad315.add ((a1).toNat * 2)).off + 1, none⟩ = some (.int .i64 ((rd_T60 l0 a1).f1)) ∧ w'.cell? (ad315.add (((ji8)).toNat * 2)) = some (.int .i64 ((rd_T60 l0 (ji8)).f0)) ∧ w'.cell? ⟨(ad315.add (((ji8)).toNat * 2)).block, (ad315.add (((ji8)).toNat * 2)).off + 1, none⟩ = some (.int .i64 ((rd_T60 l0 (ji8)).f1)) ∧ w'.cell? (ad317.add ((x7_1).toNat * 2)) = some (.int .i64 ((rd_T60 l2 x7_1).f0)) ∧ w'.cell? ⟨(ad317.add ((x7_1).toNat * 2)).block, (ad317.add ((x7_1).toNat * 2)).off + 1, none⟩ = some (.int .i64 ((rd_T60 l2 x7_1).f1))) (ds := []) (bm 18 0) (by kernel_rfl) rfl rfl ⟨((HB.out.cell (World.block_lt_of_cell? w _ hw315_0)).trans hw315_0), ((HB.out.cell (World.block_lt_of_cell? w _ hw315_1)).trans hw315_1), ((HB.out.cell (World.block_lt_of_cell? w _ hw316_0)).trans hw316_0), ((HB.out.cell (World.block_lt_of_cell? w _ hw316_1)).trans hw316_1), ((HB.out.cell (World.block_lt_of_cell? w _ hw317_0)).trans hw317_0), ((HB.out.cell (World.block_lt_of_cell? w _ hw317_1)).trans hw317_1)⟩ (fun hHeld => ?_); refine with_tabW gangsawref08_beyond.tab4 gangsawref08_beyond.bits4 (fun HT_ HW_ => ?_))
           (generalize wr.drew = w16 at HB hx315_0 hx315_1 hx316_0 hx316_1 hx317_0 hx317_1 hHeld ⊢); (refine pv_ 0 HT_ ?_); (refine pv_ 1 HT_ ?_); (refine pv_ 2 HT_ ?_); (refine pv_ 4 HT_ ?_); (refine pv_ 5 HT_ ?_); (refine pv_ 6 HT_ ?_); (refine pv_ 7 HT_ ?_); (refine pv_ 8 HT_ ?_); (refine pv_ 9 HT_ ?_); (refine pv_ 10 HT_ ?_); (refine pv_ 12 HT_ ?_); (refine pv_ 13 HT_ ?_); (refine pv_ 14 HT_ ?_); (refine tv_ 3 HT_ HW_ hHeld ?_); (refine tv_ 11 HT_ HW_ hHeld ?_); (refine tv_ 15 HT_ HW_ hHeld ?_); (refine one_ (i := 16) (N := some 30) (bm 18 131071) rfl rfl (one_of HT_.out (by kernel_rfl)) (by decide) (fun K hK => ?_)); (refine goes_ Try.func40 (by kernel_rfl) rfl #[.agg #[.int .i64 ((rd_T60 l0 a1).f0), .int .i64 ((rd_T60 l0 a1).f1)], .agg #[.int .i64 ((rd_T60 l0 (ji8)).f0), .int .i64 ((rd_T60 l0 (ji8)).f1)], .agg #[.int .i64 ((rd_T60 l2 x7_1).f0), .int .i64 ((rd_T60 l2 x7_1).f1)]] (by rfl) rfl rfl (by (try simp only [List.map_toArray, List.map_cons, List.map_nil]); first | done | (simp only [hji8]; rfl) | rfl | (simp only [List.length_drop, List.length_take]; rfl)) ?_); (with_reducible refine (gangsawref08_Cross.calls ((rd_T60 l0 a1).f0) ((rd_T60 l0 a1).f1) ((rd_T60 l0 (ji8)).f0) ((rd_T60 l0 (ji8)).f1) ((rd_T60 l2 x7_1).f0) ((rd_T60 l2 x7_1).f1) t318 _ A12.out).mono ?_); (rintro e w17 ⟨rfl, hb⟩); (refine ⟨_, rfl, ?_⟩); (replace HB := hs_ HB hb); ((try clear hb)); ((try clear hb2)); ((try clear hk)); ((try clear hi)); (refine hK.out _ _ ⟨((HB.out.cell (World.block_lt_of_cell? w _ hw315_0)).trans hw315_0), ((HB.out.cell (World.block_lt_of_cell? w _ hw315_1)).trans hw315_1), ((HB.out.cell (World.block_lt_of_cell? w _ hw316_0)).trans hw316_0), ((HB.out.cell (World.block_lt_of_cell? w _ hw316_1)).trans hw316_1), ((HB.out.cell (World.block_lt_of_cell? w _ hw317_0)).trans hw317_0), ((HB.out.cell (World.block_lt_of_cell? w _ hw317_1)).trans hw317_1)⟩ (fun hHeld => ?_)); (clear hK K); (refine nv_ ?_); (refine pv_ 17 HT_ ?_); (refine done_ (done_of HT_.out (by kernel_rfl)) ?_); (try go_wp2); (go_roundg k1)
           case measure => have := HK1.out; omega
           case rel => exact ⟨(wrap64 (x7_1 + 1)), (by first | rfl | (simp; done) | (simp [*]; done)), H', ⟨by have := HK1.out; omega⟩, ⟨hb_ HB⟩⟩
         ·(rw [if_neg c11] at H); (exact absurd H (by simp))
        ·(rw [if_neg c10] at H); (exact absurd H (by simp))
       ·(rw [if_neg c9] at H); (exact absurd H (by simp))
     ·(rw [if_neg c6] at H); (exact absurd H (by simp))
    ·(rw [if_neg c5] at H); (exact absurd H (by simp))
   ·(rw [if_neg c4] at H); (have c4b0 := decide_eq_false c4); (clear c4); (obtain rfl := Option.some.inj H); (go_wp2); (go_ret); (exact ⟨by first | rfl | (simp [errW_none, errW_some] <;> rfl) | (simp [*, errW_none, errW_some] <;> rfl), hb_ HB⟩)

end Go.Proofs.Ythogemdknlpnpaa.XA
