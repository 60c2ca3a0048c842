-- written by xprint.py, this project's own program (wip/), over the words of print.sh
import Derived.Test.YthogemdknlpnpaaXAx0
import Derived.Test.YthogemdknlpnpaaXAx27
import Derived.Test.YthogemdknlpnpaaXAx29
import Derived.Test.YthogemdknlpnpaaFlat
namespace Go.Proofs.Ythogemdknlpnpaa.XA
open Go.Proofs.Ythogemdknlpnpaa.Flat Go.RowKit Go.Proofs.Ythogemdknlpnpaa.Opens Go.Proofs.YthogemdknlpnpaaW.PrintWords Go.Proofs.YthogemdknlpnpaaW.PrintLast Go.Proofs.YthogemdknlpnpaaW.PrintMore
attribute [local go_sem] max2_int min2_int max_two min_two max_three min_three max_four min_four cell_some cell_same   -- for this text's walks alone
set_option linter.unusedVariables false
set_option linter.unusedSimpArgs false

/-! ### gangsawref08_Separator: function 24 -/
mutual
def gangsawref08_Separator.l0 : Nat → List (S60) → Int → List (S60) → Int → Int → Option (Int)
 | 0, _, _, _, _, _ => none
 | k + 1, x5, x6, x341000, x341001, x341002 => if x6 < (x341000.length : Int) then ((gangsawref08_beyond.f k x341000 x6 x5).bind fun t347 => (if t347 = true then (some x6) else (gangsawref08_Separator.l0 k x5 (wrap64 (x6 + 1)) x341000 x341001 x341002))) else (gangsawref08_Separator.l1 k x5 (([3, 1, 0, 2] : List Int)) 0 x341000 x341001 x341002)
def gangsawref08_Separator.l1 : Nat → List (S60) → List Int → Int → List (S60) → Int → Int → Option (Int)
 | 0, _, _, _, _, _, _ => none
 | k + 1, x5, x7, x8, x341000, x341001, x341002 => if x8 < 4 then (if 0 ≤ x8 then (if x8 < (x7.length : Int) then ((gangsawref08_beyond.f k x5 (rd x7 x8) x341000).bind fun t352 => (if t352 = true then (some (wrap64 (1000 + x8))) else (gangsawref08_Separator.l1 k x5 x7 (wrap64 (x8 + 1)) x341000 x341001 x341002))) else (none)) else (none)) else (some (-1))
end
def gangsawref08_Separator.f (k : Nat) (l0_0 : List (S60)) (a0_1 : Int) (a0_2 : Int) (a1_0 : Int) (a1_1 : Int) (a1_2 : Int) (a1_3 : Int) (a1_4 : Int) (a1_5 : Int) : Option (Int) := (gangsawref08_Of.f a1_0 a1_1 a1_2 a1_3 a1_4 a1_5).bind fun bt342 => (gangsawref08_Separator.l0 k bt342.1 0 l0_0 a0_1 a0_2)
theorem gangsawref08_Separator.mono_l : ∀ k, (∀ y0 y1 y2 y3 y4, LeO (gangsawref08_Separator.l0 k y0 y1 y2 y3 y4) (gangsawref08_Separator.l0 (k + 1) y0 y1 y2 y3 y4)) ∧ (∀ y0 y1 y2 y3 y4 y5, LeO (gangsawref08_Separator.l1 k y0 y1 y2 y3 y4 y5) (gangsawref08_Separator.l1 (k + 1) y0 y1 y2 y3 y4 y5))
 | 0 => ⟨fun _ _ _ _ _ r h => by simp [gangsawref08_Separator.l0] at h, fun _ _ _ _ _ _ r h => by simp [gangsawref08_Separator.l1] at h⟩
 | k + 1 => by
  (obtain ⟨ih0, ih1⟩ := gangsawref08_Separator.mono_l k); (refine ⟨?_, ?_⟩)
  ·intro y0 y1 y2 y3 y4
   unfold gangsawref08_Separator.l0
   repeat' first
   | (with_reducible exact ih0 _ _ _ _ _)
   | (with_reducible exact ih1 _ _ _ _ _ _)
   | (with_reducible exact gangsawref08_beyond.mono _ _ _ _)
   | (with_reducible exact LeO.refl _)
   | (with_reducible exact LeO.none _)
   | (with_reducible refine LeO.ite ?_ ?_)
   | (with_reducible refine LeO.bind ?_ (fun _ => ?_))
   | exact ih0 _ _ _ _ _
   | exact ih1 _ _ _ _ _ _
   | exact gangsawref08_beyond.mono _ _ _ _
   | exact LeO.none _
   | refine LeO.ite ?_ ?_
   | refine LeO.bind ?_ (fun _ => ?_)
  ·intro y0 y1 y2 y3 y4 y5
   unfold gangsawref08_Separator.l1
   repeat' first
   | (with_reducible exact ih0 _ _ _ _ _)
   | (with_reducible exact ih1 _ _ _ _ _ _)
   | (with_reducible exact gangsawref08_beyond.mono _ _ _ _)
   | (with_reducible exact LeO.refl _)
   | (with_reducible exact LeO.none _)
   | (with_reducible refine LeO.ite ?_ ?_)
   | (with_reducible refine LeO.bind ?_ (fun _ => ?_))
   | exact ih0 _ _ _ _ _
   | exact ih1 _ _ _ _ _ _
   | exact gangsawref08_beyond.mono _ _ _ _
   | exact LeO.none _
   | refine LeO.ite ?_ ?_
   | refine LeO.bind ?_ (fun _ => ?_)
theorem gangsawref08_Separator.mono : ∀ a0 a1 a2 a3 a4 a5 a6 a7 a8 k, LeO (gangsawref08_Separator.f k a0 a1 a2 a3 a4 a5 a6 a7 a8) (gangsawref08_Separator.f (k + 1) a0 a1 a2 a3 a4 a5 a6 a7 a8) := by
 intro a0 a1 a2 a3 a4 a5 a6 a7 a8 k
 obtain ⟨ih0, ih1⟩ := gangsawref08_Separator.mono_l k
 unfold gangsawref08_Separator.f
 repeat' first
   | (with_reducible exact ih0 _ _ _ _ _)
   | (with_reducible exact ih1 _ _ _ _ _ _)
   | (with_reducible exact gangsawref08_beyond.mono _ _ _ _)
   | (with_reducible exact LeO.refl _)
   | (with_reducible exact LeO.none _)
   | (with_reducible refine LeO.ite ?_ ?_)
   | (with_reducible refine LeO.bind ?_ (fun _ => ?_))
   | exact ih0 _ _ _ _ _
   | exact ih1 _ _ _ _ _ _
   | exact gangsawref08_beyond.mono _ _ _ _
   | exact LeO.none _
   | refine LeO.ite ?_ ?_
   | refine LeO.bind ?_ (fun _ => ?_)
theorem gangsawref08_Separator.fix25_0 (a0 a1 a2 : Value) (w : World) : (Instr.field 25 (.agg #[a0, a1, a2]) 0).run Try.prog w = .ok a0 w := by kernel_rfl

def gangsawref08_Separator.T11 : Bool × List (List Nat × List Nat) := (true, [([], []), ([], []), ([], []), ([1, 2], [1, 2]), ([3], [3]), ([], []), ([5], [5]), ([0, 4, 6], [0, 4, 6])])
def gangsawref08_Separator.B11 : List Nat := [0, 0, 0, 6, 14, 0, 32, 127]
theorem gangsawref08_Separator.tab11 : rtab .any (opsOf Try.f24 11) = gangsawref08_Separator.T11 := by kernel_rfl
theorem gangsawref08_Separator.bits11 : waitsOk gangsawref08_Separator.T11.2 gangsawref08_Separator.B11 = true := by kernel_rfl
set_option maxHeartbeats 8000000 in
set_option maxRecDepth 100000 in
theorem gangsawref08_Separator.calls (k : Nat) (A0_0 : Option Addr) (c0_0 : Nat) (l0_0 : List (S60)) (a0_1 : Int) (a0_2 : Int) (a1_0 : Int) (a1_1 : Int) (a1_2 : Int) (a1_3 : Int) (a1_4 : Int) (a1_5 : Int) (r : Int) (w : World) (hr0_0 : Kd.C k60 w A0_0 l0_0.length l0_0) (hc0_0 : l0_0.length ≤ c0_0) (h : gangsawref08_Separator.f k l0_0 a0_1 a0_2 a1_0 a1_1 a1_2 a1_3 a1_4 a1_5 = some r) :
  Calls Try.prog 24 #[.agg #[.slice A0_0 l0_0.length c0_0, .int .i64 a0_1, .int .i64 a0_2], .agg #[.int .i64 a1_0, .int .i64 a1_1, .int .i64 a1_2, .int .i64 a1_3, .int .i64 a1_4, .int .i64 a1_5]] w fun e w' => e = .returned (.int .i64 r) ∧ Below w.heap.size w w' := by
 have hu25 := Try.underlying25
 have hu32 := Try.underlying32
 have hfx25_0 := gangsawref08_Separator.fix25_0
 have HR0_0 := Aside0.mk hr0_0
 have HC0_0 := Aside0.mk hc0_0
 clear hr0_0 hc0_0
 have HB := Aside0.mk (Below.refl w.heap.size w)
 have H : ((gangsawref08_Of.f a1_0 a1_1 a1_2 a1_3 a1_4 a1_5).bind fun bt342 => (gangsawref08_Separator.l0 k bt342.1 0 l0_0 a0_1 a0_2)) = some r := h
 clear h
 replace H := Option.bind_eq_some_iff.mp H
 obtain ⟨⟨t342, t345, t346⟩, A30, H⟩ := H
 replace H : (gangsawref08_Separator.l0 k t342 0 l0_0 a0_1 a0_2) = some r := H
 have A3 := Aside0.mk A30
 clear A30
 have H' := Aside0.mk H
 clear H
 go_enter Try.func24, Try.ntmps24
 go_wp2_with (first | ((with_reducible refine gate_dst (N := 2) rfl ?_); refine box_event ?hg (N := 2) ?hd (cs := #[.slice A0_0 l0_0.length c0_0, .int .i64 a0_1, .int .i64 a0_2]) (t := 25) ?hr ?_; (case hd => rfl); (case hg => first | rfl | (go_simp; done)); (case hr => first | (go_simp; done) | (go_simp; rfl)); intro gb340 hg w4 hbox hb; have BK340 := Aside0.mk (hbox); have GW340 := gw_ HB hg; have GE340 := gw_ HB hg; replace HB := hs_ HB hb; clear hb hbox hg) | ((with_reducible refine gate_dst (N := 3) rfl ?_); refine box_event ?hg (N := 3) ?hd (cs := #[.int .i64 a1_0, .int .i64 a1_1, .int .i64 a1_2, .int .i64 a1_3, .int .i64 a1_4, .int .i64 a1_5]) (t := 32) ?hr ?_; (case hd => rfl); (case hg => first | rfl | (go_simp; done)); (case hr => first | (go_simp; done) | (go_simp; rfl)); intro gb341 hg w5 hbox hb; have BK341 := Aside0.mk (hbox); have GW341 := gw_ HB hg; have GE341 := gw_ HB hg; replace HB := hs_ HB hb; have NB340_341 := nl_ BK340 hg; have NB341_340 := nr_ BK340 hg; replace BK340 := bb_ BK340 hb; clear hb hbox hg; have hnb6 := NB341_340.out; have hnc6 := NB340_341.out; obtain ⟨hcz7_0, hcz7_1, hcz7_2, hcz7_3, hcz7_4, hcz7_5, hfz7_0, hfz7_1, hfz7_2, hfz7_3, hfz7_4, hfz7_5⟩ := cz6_ BK341) | ((with_reducible refine gate_callee (f := 22) rfl ?_); refine goesL_ (some 10) rfl rfl Try.func22 (by kernel_rfl) rfl #[.agg #[.int .i64 a1_0, .int .i64 a1_1, .int .i64 a1_2, .int .i64 a1_3, .int .i64 a1_4, .int .i64 a1_5]] rfl (by (try simp only [List.map_toArray, List.map_cons, List.map_nil]); first | done | rfl | (simp only [List.length_drop, List.length_take]; rfl)) ?_; (with_reducible refine (gangsawref08_Of.calls a1_0 a1_1 a1_2 a1_3 a1_4 a1_5 t342 t345 t346 _ A3.out).mono ?_); rintro e w8 ⟨v343, rfl, ho0, hb⟩; refine ⟨_, rfl, ?_⟩; have HO344 := Aside0.mk (Kd.R_lower ho0 (below_size (hb_ HB))); replace BK340 := bb_ BK340 hb; replace BK341 := bb_ BK341 hb; replace HB := hs_ HB hb; (try clear hb); (try clear hb2); (try clear hk); (try clear hi); (try clear ho0)))
 go_loopg [6] k (fun kq v6 w' => ∃ (x6_1 : Int), v6 = .int .i64 x6_1 ∧ Aside0 (gangsawref08_Separator.l0 kq t342 x6_1 l0_0 a0_1 a0_2 = some r) ∧ Aside0 (kq ≤ k) ∧ Aside0 (Kd.R k60 60 w' w.heap.size (fun _ => True) v343 t342) ∧ Aside0 (w'.heap[gb340]? = some (.cells #[(.slice A0_0 l0_0.length c0_0), .int .i64 a0_1, .int .i64 a0_2] 25 (0, 0))) ∧ Aside0 (w'.heap[gb341]? = some (.cells #[.int .i64 a1_0, .int .i64 a1_1, .int .i64 a1_2, .int .i64 a1_3, .int .i64 a1_4, .int .i64 a1_5] 32 (0, 0))) ∧ Aside0 (Below w.heap.size w w'))
 case atStart => exact ⟨(0), (by first | rfl | (simp; done) | (simp [*]; done)), H', ⟨Nat.le_refl _⟩, ⟨by (with_reducible repeat (first | apply Kd.R_alloc | apply Kd.R_drewN | apply Kd.R_drew)); exact HO344.out⟩, ⟨bk_ BK340⟩, ⟨bk_ BK341⟩, ⟨hb_ HB⟩⟩
 case round =>
  (clear H'); (try clear c2); (try clear p2); (try clear c6); (try clear hcz7_0); (try clear hcz7_1); (try clear hcz7_2); (try clear hcz7_3); (try clear hcz7_4); (try clear hcz7_5); (try clear hfz7_0); (try clear hfz7_1); (try clear hfz7_2); (try clear hfz7_3); (try clear hfz7_4); (try clear hfz7_5); (obtain ⟨x6_1, rfl, HA, HK1, HO_5, BK340, BK341, HB⟩ := hrel)
  cases gk with
  | zero => exact absurd HA.out (by simp [gangsawref08_Separator.l0])
  | succ k1 =>
   (have H := HA.out); (clear HA); (simp only [gangsawref08_Separator.l0] at H); (by_cases c9 : x6_1 < (l0_0.length : Int))
   ·rw [if_pos c9] at H
    (have c9b0 := decide_eq_true c9); (clear c9); (replace H := Option.bind_eq_some_iff.mp H); (obtain ⟨t347, A100, H⟩ := H); (replace H : (if t347 = true then (some x6_1) else (gangsawref08_Separator.l0 k1 t342 (wrap64 (x6_1 + 1)) l0_0 a0_1 a0_2)) = some r := H); (have A10 := Aside0.mk A100); (clear A100); (by_cases c11 : t347 = true)
    ·subst c11
     (have H1 : (some x6_1) = some r := by rw [if_pos rfl] at H; exact H); (clear H); (have H := H1); (clear H1); (obtain rfl := Option.some.inj H); (have hnb12 := NB340_341.out); (have hnc12 := NB341_340.out); (obtain ⟨hcz13_0, hcz13_1, hcz13_2, hfz13_0, hfz13_1, hfz13_2⟩ := cz3_ BK340); (obtain ⟨Ao14, co14, eo14⟩ := Kd.R_slice HO_5.out); (subst eo14); (go_wp2_with (first | ((with_reducible refine gate_callee (f := 47) rfl ?_); refine goesL_ (some 23) rfl rfl Try.func47 (by kernel_rfl) rfl #[.slice A0_0 l0_0.length c0_0, .int .i64 x6_1, .slice Ao14 t342.length co14] rfl (by (try simp only [List.map_toArray, List.map_cons, List.map_nil]); first | done | rfl | (simp only [List.length_drop, List.length_take]; rfl)) ?_; (with_reducible refine (gangsawref08_beyond.calls k1 _ _ l0_0 x6_1 _ _ t342 true _ ?side1 ?side2 ?side3 ?side4 A10.out).mono ?_); (case side1 => repeat (first | exact (Kd.C_below HR0_0.out HB.out) | (with_reducible refine Kd.C_alloc ?_ _) | (with_reducible refine Kd.C_drewN ?_ _) | (with_reducible refine Kd.C_drew ?_))); (case side2 => exact HC0_0.out); (case side3 => repeat (first | exact (Kd.R_reads' HO_5.out).2.2 | (with_reducible refine Kd.C_alloc ?_ _) | (with_reducible refine Kd.C_drewN ?_ _) | (with_reducible refine Kd.C_drew ?_))); (case side4 => exact (Kd.R_reads' HO_5.out).2.1); rintro e w15 ⟨rfl, hb⟩; refine ⟨_, rfl, ?_⟩; replace HO_5 := rb_ HO_5 hb; replace BK340 := bb_ BK340 hb; replace BK341 := bb_ BK341 hb; replace HB := hs_ HB hb; (try clear hb); (try clear hb2); (try clear hk); (try clear hi)))); (go_ret); (exact ⟨by first | rfl | (simp [errW_none, errW_some] <;> rfl) | (simp [*, errW_none, errW_some] <;> rfl), hb_ HB⟩)
    ·replace c11 := Bool.eq_false_iff.mpr c11
     (subst c11); (have H1 : (gangsawref08_Separator.l0 k1 t342 (wrap64 (x6_1 + 1)) l0_0 a0_1 a0_2) = some r := by rw [if_neg (show ¬ (false = true) by decide)] at H; exact H); (clear H); (have H := H1); (clear H1); (have H' := Aside0.mk H); (clear H); (have hnb16 := NB340_341.out); (have hnc16 := NB341_340.out); (obtain ⟨hcz17_0, hcz17_1, hcz17_2, hfz17_0, hfz17_1, hfz17_2⟩ := cz3_ BK340); (obtain ⟨Ao18, co18, eo18⟩ := Kd.R_slice HO_5.out); (subst eo18); (go_wp2_with (first | ((with_reducible refine gate_callee (f := 47) rfl ?_); refine goesL_ (some 23) rfl rfl Try.func47 (by kernel_rfl) rfl #[.slice A0_0 l0_0.length c0_0, .int .i64 x6_1, .slice Ao18 t342.length co18] rfl (by (try simp only [List.map_toArray, List.map_cons, List.map_nil]); first | done | rfl | (simp only [List.length_drop, List.length_take]; rfl)) ?_; (with_reducible refine (gangsawref08_beyond.calls k1 _ _ l0_0 x6_1 _ _ t342 false _ ?side1 ?side2 ?side3 ?side4 A10.out).mono ?_); (case side1 => repeat (first | exact (Kd.C_below HR0_0.out HB.out) | (with_reducible refine Kd.C_alloc ?_ _) | (with_reducible refine Kd.C_drewN ?_ _) | (with_reducible refine Kd.C_drew ?_))); (case side2 => exact HC0_0.out); (case side3 => repeat (first | exact (Kd.R_reads' HO_5.out).2.2 | (with_reducible refine Kd.C_alloc ?_ _) | (with_reducible refine Kd.C_drewN ?_ _) | (with_reducible refine Kd.C_drew ?_))); (case side4 => exact (Kd.R_reads' HO_5.out).2.1); rintro e w19 ⟨rfl, hb⟩; refine ⟨_, rfl, ?_⟩; replace HO_5 := rb_ HO_5 hb; replace BK340 := bb_ BK340 hb; replace BK341 := bb_ BK341 hb; replace HB := hs_ HB hb; (try clear hb); (try clear hb2); (try clear hk); (try clear hi)))); (go_roundg k1)
     case measure => have := HK1.out; omega
     case rel => exact ⟨(wrap64 (x6_1 + 1)), (by first | rfl | (simp; done) | (simp [*]; done)), H', ⟨by have := HK1.out; omega⟩, ⟨by (with_reducible repeat (first | apply Kd.R_alloc | apply Kd.R_drewN | apply Kd.R_drew)); exact HO_5.out⟩, ⟨bk_ BK340⟩, ⟨bk_ BK341⟩, ⟨hb_ HB⟩⟩
   ·rw [if_neg c9] at H
    (have c9b0 := decide_eq_false c9); (clear c9); (obtain ⟨y348, hy348⟩ : ∃ y_ : List Int, y_ = (([3, 1, 0, 2] : List Int)) := ⟨_, rfl⟩); (replace H : (gangsawref08_Separator.l1 k1 t342 y348 0 l0_0 a0_1 a0_2) = some r := by first | (rw [hy348]; with_reducible exact H) | (have H2_ := (Option.bind_some _ _).symm.trans H; rw [hy348]; with_reducible exact H2_) | (have H2_ := (Option.bind_some _ _).symm.trans H; with_reducible exact H2_) | with_reducible exact H | (rw [hy348]; exact H) | exact H); (have Ny348 := Aside0.mk hy348); (clear hy348); (have H' := Aside0.mk H); (clear H); (have hnb20 := NB340_341.out); (have hnc20 := NB341_340.out); (obtain ⟨hcz21_0, hcz21_1, hcz21_2, hfz21_0, hfz21_1, hfz21_2⟩ := cz3_ BK340); (go_wp2_with (first | ((with_reducible refine gate_dst (N := 25) rfl ?_); refine Kd.R_lit (Kd.int .i64) _ 3 ?hg (N := 25) ?hd (xs := ([3, 1, 0, 2] : List Int)) (inner := [.int .i64 3, .int .i64 1, .int .i64 0, .int .i64 2]) (ok := fun _ => True) (okp := fun _ => True) ?hr ?hp (fun _ hk => hk) trivial (Below.refl _ _) (Nat.le_refl _) (by simp) ?_; (case hd => rfl); (case hg => first | rfl | (go_simp; done)); (case hr => first | (go_simp; done) | (go_simp; rfl)); (case hp => exact (Reps.one (show Kd.M (Kd.int .i64) _ _ _ 3 [.int .i64 3] from rfl) (Reps.one (show Kd.M (Kd.int .i64) _ _ _ 1 [.int .i64 1] from rfl) (Reps.one (show Kd.M (Kd.int .i64) _ _ _ 0 [.int .i64 0] from rfl) (Reps.one (show Kd.M (Kd.int .i64) _ _ _ 2 [.int .i64 2] from rfl) (Reps.none _ _)))))); intro v349 w22 ho23 hb hg_ hnew_; clear hg_ hnew_; (first | rw [← Ny348.out] at ho23 | (simp only [Int.reduceToNat] at ho23; rw [← Ny348.out] at ho23)); replace HO_5 := rb_ HO_5 hb; have HO350 := Aside0.mk (Kd.R_lower ho23 (below_size (hb_ HB))); replace BK340 := bb_ BK340 hb; replace BK341 := bb_ BK341 hb; replace HB := hs_ HB hb; clear hb ho23))); (go_loopg [8] k1 (fun kq v8 w' => ∃ (x8_2 : Int), v8 = .int .i64 x8_2 ∧ Aside0 (gangsawref08_Separator.l1 kq t342 y348 x8_2 l0_0 a0_1 a0_2 = some r) ∧ Aside0 (kq ≤ k1) ∧ Aside0 (Kd.R k60 60 w' w.heap.size (fun _ => True) v343 t342) ∧ Aside0 (Kd.R (Kd.int .i64) 3 w' w.heap.size (fun _ => True) v349 y348) ∧ Aside0 (w'.heap[gb340]? = some (.cells #[(.slice A0_0 l0_0.length c0_0), .int .i64 a0_1, .int .i64 a0_2] 25 (0, 0))) ∧ Aside0 (w'.heap[gb341]? = some (.cells #[.int .i64 a1_0, .int .i64 a1_1, .int .i64 a1_2, .int .i64 a1_3, .int .i64 a1_4, .int .i64 a1_5] 32 (0, 0))) ∧ Aside0 (Below w.heap.size w w')))
    case atStart => exact ⟨(0), (by first | rfl | (simp; done) | (simp [*]; done)), H', ⟨Nat.le_refl _⟩, ⟨by (with_reducible repeat (first | apply Kd.R_alloc | apply Kd.R_drewN | apply Kd.R_drew)); exact HO_5.out⟩, ⟨by (with_reducible repeat (first | apply Kd.R_alloc | apply Kd.R_drewN | apply Kd.R_drew)); exact HO350.out⟩, ⟨bk_ BK340⟩, ⟨bk_ BK341⟩, ⟨hb_ HB⟩⟩
    case round =>
     (clear H'); (try clear c1); (try clear c2); (try clear p2); (try clear c4); (try clear c6); (try clear p6); (try clear c9); (try clear c9b0); (try clear c11); (try clear c12); (try clear c16); (try clear c20); (try clear c22); (try clear hcz13_0); (try clear hcz13_1); (try clear hcz13_2); (try clear hcz17_0); (try clear hcz17_1); (try clear hcz17_2); (try clear hcz21_0); (try clear hcz21_1); (try clear hcz21_2); (try clear hcz7_0); (try clear hcz7_1); (try clear hcz7_2); (try clear hcz7_3); (try clear hcz7_4); (try clear hcz7_5); (try clear hfz13_0); (try clear hfz13_1); (try clear hfz13_2); (try clear hfz17_0); (try clear hfz17_1); (try clear hfz17_2); (try clear hfz21_0); (try clear hfz21_1); (try clear hfz21_2); (try clear hfz7_0); (try clear hfz7_1); (try clear hfz7_2); (try clear hfz7_3); (try clear hfz7_4); (try clear hfz7_5); (try clear p2); (obtain ⟨x8_2, rfl, HA, HK2, HO_5, HO_7, BK340, BK341, HB⟩ := hrel)
     cases gk with
     | zero => exact absurd HA.out (by simp [gangsawref08_Separator.l1])
     | succ k2 =>
      (have H := HA.out); (clear HA); (simp only [gangsawref08_Separator.l1] at H); (by_cases c24 : x8_2 < 4)
      ·rw [if_pos c24] at H
       (have c24b0 := decide_eq_true c24); (clear c24); (by_cases c25 : 0 ≤ x8_2)
       ·rw [if_pos c25] at H
        (have c25b0 := decide_eq_true c25); (clear c25); (by_cases c26 : x8_2 < (y348.length : Int))
        ·rw [if_pos c26] at H
         (have c26b0 := decide_eq_true c26); (clear c26); (replace H := Option.bind_eq_some_iff.mp H); (obtain ⟨t352, A270, H⟩ := H); (replace H : (if t352 = true then (some (wrap64 (1000 + x8_2))) else (gangsawref08_Separator.l1 k2 t342 y348 (wrap64 (x8_2 + 1)) l0_0 a0_1 a0_2)) = some r := H); (have A27 := Aside0.mk A270); (clear A270); (by_cases c28 : t352 = true)
         ·subst c28
          (have H1 : (some (wrap64 (1000 + x8_2))) = some r := by rw [if_pos rfl] at H; exact H); (clear H); (have H := H1); (clear H1); (obtain rfl := Option.some.inj H); (try go_wp2); (replace HO_5 := Aside0.mk (Kd.R_drew HO_5.out)); (replace HO_7 := Aside0.mk (Kd.R_drew HO_7.out)); (replace BK340 := Aside0.mk (blk_drew BK340.out)); (replace BK341 := Aside0.mk (blk_drew BK341.out)); (replace HB := Aside0.mk (below_drew1 HB.out)); (obtain ⟨Ao30, co30, eo30⟩ := Kd.R_slice HO_7.out); ((first | subst eo30 | (injection eo30 with f1_ f2_ f3_; have f4_ := f1_.symm; have f5_ := f3_.symm; clear f1_ f2_ f3_; subst f4_; subst f5_))); (have p351 : 0 ≤ (x8_2 : Int) := of_decide_eq_true (by first | (with_reducible assumption) | assumption)); (have q351 : x8_2 < (y348.length : Int) := of_decide_eq_true (by first | (with_reducible assumption) | assumption)); (obtain ⟨ad351, e351, hx351_0⟩ := Kd.at_int (Kd.R_reads' HO_7.out).2.2 x8_2 p351 q351); (cases e351); (replace p351 := eq_true p351); (replace q351 := eq_true q351); (obtain ⟨Ao31, co31, eo31⟩ := Kd.R_slice HO_5.out); ((first | subst eo31 | (injection eo31 with f1_ f2_ f3_; have f4_ := f1_.symm; have f5_ := f3_.symm; clear f1_ f2_ f3_; subst f4_; subst f5_))); (refine start_ (n := 8) (S := fun w' => w'.cell? ⟨gb340, 0, none⟩ = some (.slice A0_0 l0_0.length c0_0) ∧ w'.cell? ⟨gb340, 1, none⟩ = some (.int .i64 a0_1) ∧ w'.cell? ⟨gb340, 2, none⟩ = some (.int .i64 a0_2) ∧ w'.cell? (ad351.add (x8_2).toNat) = some (.int .i64 (rd y348 x8_2))) (ds := []) (bm 8 0) (by kernel_rfl) rfl rfl ⟨(blk_cell BK340.out 0).trans rfl, (blk_cell BK340.out 1).trans rfl, (blk_cell BK340.out 2).trans rfl, hx351_0⟩ (fun hHeld => ?_); refine with_tabW gangsawref08_Separator.tab11 gangsawref08_Separator.bits11 (fun HT_ HW_ => ?_)); (generalize wr.drew = w29 at HO_5 HO_7 BK340 BK341 HB hx351_0 hHeld ⊢); (refine pv_ 0 HT_ ?_); (refine pv_ 1 HT_ ?_); (refine pv_ 2 HT_ ?_); (refine pv_ 3 HT_ ?_); (refine pv_ 5 HT_ ?_); (refine tv_ 4 HT_ HW_ hHeld ?_); (refine tv_ 6 HT_ HW_ hHeld ?_); (refine one_ (i := 7) (N := some 37) (bm 8 255) rfl rfl (one_of HT_.out (by kernel_rfl)) (by decide) (fun K hK => ?_)); (refine goes_ Try.func47 (by kernel_rfl) rfl #[.slice Ao31 t342.length co31, .int .i64 (rd y348 x8_2), .slice A0_0 l0_0.length c0_0] (by rfl) rfl rfl (by (try simp only [List.map_toArray, List.map_cons, List.map_nil]); first | done | rfl | (simp only [List.length_drop, List.length_take]; rfl)) ?_); (with_reducible refine (gangsawref08_beyond.calls k2 _ _ t342 (rd y348 x8_2) _ _ l0_0 true _ ?side1 ?side2 ?side3 ?side4 A27.out).mono ?_); ((case side1 => repeat (first | exact (Kd.R_reads' HO_5.out).2.2 | (with_reducible refine Kd.C_alloc ?_ _) | (with_reducible refine Kd.C_drewN ?_ _) | (with_reducible refine Kd.C_drew ?_)))); ((case side2 => exact (Kd.R_reads' HO_5.out).2.1)); ((case side3 => repeat (first | exact (Kd.C_below HR0_0.out HB.out) | (with_reducible refine Kd.C_alloc ?_ _) | (with_reducible refine Kd.C_drewN ?_ _) | (with_reducible refine Kd.C_drew ?_)))); ((case side4 => exact HC0_0.out)); (rintro e w32 ⟨rfl, hb⟩)
          (have HS3_ := (hb.cell (World.block_lt_of_cell? _ _ (hHeld.2.2.2))).trans (hHeld.2.2.2)); (refine ⟨_, rfl, ?_⟩); (replace HO_5 := rb_ HO_5 hb); (replace HO_7 := rb_ HO_7 hb); (replace BK340 := bb_ BK340 hb); (replace BK341 := bb_ BK341 hb); (replace HB := hs_ HB hb); ((try clear hb)); ((try clear hb2)); ((try clear hk)); ((try clear hi)); (refine hK.out _ _ ⟨(blk_cell BK340.out 0).trans rfl, (blk_cell BK340.out 1).trans rfl, (blk_cell BK340.out 2).trans rfl, HS3_⟩ (fun hHeld => ?_)); (clear hK K); (refine nv_ ?_); (refine done_ (done_of HT_.out (by kernel_rfl)) ?_); (try go_wp2); (go_ret); (exact ⟨by first | rfl | (simp [errW_none, errW_some] <;> rfl) | (simp [*, errW_none, errW_some] <;> rfl), hb_ HB⟩)
         ·replace c28 := Bool.eq_false_iff.mpr c28
          (subst c28); (have H1 : (gangsawref08_Separator.l1 k2 t342 y348 (wrap64 (x8_2 + 1)) l0_0 a0_1 a0_2) = some r := by rw [if_neg (show ¬ (false = true) by decide)] at H; exact H); (clear H); (have H := H1); (clear H1); (have H' := Aside0.mk H); (clear H); (try go_wp2); (replace HO_5 := Aside0.mk (Kd.R_drew HO_5.out)); (replace HO_7 := Aside0.mk (Kd.R_drew HO_7.out)); (replace BK340 := Aside0.mk (blk_drew BK340.out)); (replace BK341 := Aside0.mk (blk_drew BK341.out)); (replace HB := Aside0.mk (below_drew1 HB.out)); (obtain ⟨Ao34, co34, eo34⟩ := Kd.R_slice HO_7.out); ((first | subst eo34 | (injection eo34 with f1_ f2_ f3_; have f4_ := f1_.symm; have f5_ := f3_.symm; clear f1_ f2_ f3_; subst f4_; subst f5_))); (have p351 : 0 ≤ (x8_2 : Int) := of_decide_eq_true (by first | (with_reducible assumption) | assumption)); (have q351 : x8_2 < (y348.length : Int) := of_decide_eq_true (by first | (with_reducible assumption) | assumption)); (obtain ⟨ad351, e351, hx351_0⟩ := Kd.at_int (Kd.R_reads' HO_7.out).2.2 x8_2 p351 q351); (cases e351); (replace p351 := eq_true p351); (replace q351 := eq_true q351); (obtain ⟨Ao35, co35, eo35⟩ := Kd.R_slice HO_5.out); ((first | subst eo35 | (injection eo35 with f1_ f2_ f3_; have f4_ := f1_.symm; have f5_ := f3_.symm; clear f1_ f2_ f3_; subst f4_; subst f5_))); (refine start_ (n := 8) (S := fun w' => w'.cell? ⟨gb340, 0, none⟩ = some (.slice A0_0 l0_0.length c0_0) ∧ w'.cell? ⟨gb340, 1, none⟩ = some (.int .i64 a0_1) ∧ w'.cell? ⟨gb340, 2, none⟩ = some (.int .i64 a0_2) ∧ w'.cell? (ad351.add (x8_2).toNat) = some (.int .i64 (rd y348 x8_2))) (ds := []) (bm 8 0) (by kernel_rfl) rfl rfl ⟨(blk_cell BK340.out 0).trans rfl, (blk_cell BK340.out 1).trans rfl, (blk_cell BK340.out 2).trans rfl, hx351_0⟩ (fun hHeld => ?_); refine with_tabW gangsawref08_Separator.tab11 gangsawref08_Separator.bits11 (fun HT_ HW_ => ?_)); (generalize wr.drew = w33 at HO_5 HO_7 BK340 BK341 HB hx351_0 hHeld ⊢); (refine pv_ 0 HT_ ?_); (refine pv_ 1 HT_ ?_); (refine pv_ 2 HT_ ?_); (refine pv_ 3 HT_ ?_); (refine pv_ 5 HT_ ?_); (refine tv_ 4 HT_ HW_ hHeld ?_); (refine tv_ 6 HT_ HW_ hHeld ?_); (refine one_ (i := 7) (N := some 37) (bm 8 255) rfl rfl (one_of HT_.out (by kernel_rfl)) (by decide) (fun K hK => ?_)); (refine goes_ Try.func47 (by kernel_rfl) rfl #[.slice Ao35 t342.length co35, .int .i64 (rd y348 x8_2), .slice A0_0 l0_0.length c0_0] (by rfl) rfl rfl (by (try simp only [List.map_toArray, List.map_cons, List.map_nil]); first | done | rfl | (simp only [List.length_drop, List.length_take]; rfl)) ?_); (with_reducible refine (gangsawref08_beyond.calls k2 _ _ t342 (rd y348 x8_2) _ _ l0_0 false _ ?side1 ?side2 ?side3 ?side4 A27.out).mono ?_); ((case side1 => repeat (first | exact (Kd.R_reads' HO_5.out).2.2 | (with_reducible refine Kd.C_alloc ?_ _) | (with_reducible refine Kd.C_drewN ?_ _) | (with_reducible refine Kd.C_drew ?_)))); ((case side2 => exact (Kd.R_reads' HO_5.out).2.1)); ((case side3 => repeat (first | exact (Kd.C_below HR0_0.out HB.out) | (with_reducible refine Kd.C_alloc ?_ _) | (with_reducible refine Kd.C_drewN ?_ _) | (with_reducible refine Kd.C_drew ?_))))
          ((case side4 => exact HC0_0.out)); (rintro e w36 ⟨rfl, hb⟩); (have HS3_ := (hb.cell (World.block_lt_of_cell? _ _ (hHeld.2.2.2))).trans (hHeld.2.2.2)); (refine ⟨_, rfl, ?_⟩); (replace HO_5 := rb_ HO_5 hb); (replace HO_7 := rb_ HO_7 hb); (replace BK340 := bb_ BK340 hb); (replace BK341 := bb_ BK341 hb); (replace HB := hs_ HB hb); ((try clear hb)); ((try clear hb2)); ((try clear hk)); ((try clear hi)); (refine hK.out _ _ ⟨(blk_cell BK340.out 0).trans rfl, (blk_cell BK340.out 1).trans rfl, (blk_cell BK340.out 2).trans rfl, HS3_⟩ (fun hHeld => ?_)); (clear hK K); (refine nv_ ?_); (refine done_ (done_of HT_.out (by kernel_rfl)) ?_); (try go_wp2); (go_roundg k2)
          case measure => have := HK1.out; have := HK2.out; omega
          case rel => exact ⟨(wrap64 (x8_2 + 1)), (by first | rfl | (simp; done) | (simp [*]; done)), H', ⟨by have := HK1.out; have := HK2.out; omega⟩, ⟨by (with_reducible repeat (first | apply Kd.R_alloc | apply Kd.R_drewN | apply Kd.R_drew)); exact HO_5.out⟩, ⟨by (with_reducible repeat (first | apply Kd.R_alloc | apply Kd.R_drewN | apply Kd.R_drew)); exact HO_7.out⟩, ⟨bk_ BK340⟩, ⟨bk_ BK341⟩, ⟨hb_ HB⟩⟩
        ·(rw [if_neg c26] at H); (exact absurd H (by simp))
       ·(rw [if_neg c25] at H); (exact absurd H (by simp))
      ·(rw [if_neg c24] at H); (have c24b0 := decide_eq_false c24); (clear c24); (obtain rfl := Option.some.inj H); (go_wp2); (go_ret); (exact ⟨by first | rfl | (simp [errW_none, errW_some] <;> rfl) | (simp [*, errW_none, errW_some] <;> rfl), hb_ HB⟩)

end Go.Proofs.Ythogemdknlpnpaa.XA
