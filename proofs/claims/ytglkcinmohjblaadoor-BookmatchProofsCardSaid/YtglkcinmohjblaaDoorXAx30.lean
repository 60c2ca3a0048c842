import Derived.Test.YtglkcinmohjblaaDoorXAx13
import Derived.Test.YtglkcinmohjblaaDoorXAx21
namespace Go.Proofs.YtglkcinmohjblaaDoor.XA
open Flat Go.RowKit Opens YtglkcinmohjblaaDoorW.PrintWords YtglkcinmohjblaaDoorW.PrintLast YtglkcinmohjblaaDoorW.PrintMore
attribute [local go_sem] max2_int min2_int max_two min_two max_three min_three max_four min_four cell_some cell_same
set_option linter.unusedVariables false
set_option linter.unusedSimpArgs false

mutual
def m_Proves.j0 : Nat → List (S62) → Int → List (S51) → Bool → Bool → Bool → Option (Bool)
 | 0, _, _, _, _, _, _ => none
 | k + 1, x0, x1, x2, x24, x25000, x25001 => if x24 = true then (some false) else (if 0 ≤ (wrap64 ((x2.length : Int) - 1)) then (if (wrap64 ((x2.length : Int) - 1)) < (x2.length : Int) then (if ((rd_T51 x2 (wrap64 ((x2.length : Int) - 1))).f0) > 0 then (m_Proves.j1 k x0 x2 true x25000 x25001) else (if ((rd_T51 x2 (wrap64 ((x2.length : Int) - 1))).f1) > 0 then (m_Proves.j1 k x0 x2 true x25000 x25001) else (if 0 < (x2.length : Int) then (if x1 > ((rd_T51 x2 0).f0) then (m_Proves.j1 k x0 x2 true x25000 x25001) else (m_Proves.j1 k x0 x2 (decide (x1 > ((rd_T51 x2 0).f1))) x25000 x25001)) else (none)))) else (none)) else (none))
def m_Proves.j1 : Nat → List (S62) → List (S51) → Bool → Bool → Bool → Option (Bool)
 | 0, _, _, _, _, _ => none
 | k + 1, x0, x2, x54, x25000, x25001 => if x54 = true then (some false) else (m_Proves.l0 k x0 x2 (wrap64 ((x0.length : Int) - 1)) 0 x25000 x25001)
def m_Proves.l0 : Nat → List (S62) → List (S51) → Int → Int → Bool → Bool → Option (Bool)
 | 0, _, _, _, _, _, _ => none
 | k + 1, x0, x2, x57, x58, x25000, x25001 => if x58 < x57 then (m_Proves.l1 k x0 x2 x58 x57 x58 0 x25000 x25001 x25000 x25001) else (some true)
def m_Proves.l1 : Nat → List (S62) → List (S51) → Int → Int → Int → Int → Bool → Bool → Bool → Bool → Option (Bool)
 | 0, _, _, _, _, _, _, _, _, _, _ => none
 | k + 1, x0, x2, x8, x57, x58, x62, x108, x109, x25000, x25001 => if x62 < 2 then (if x62 = 0 then (m_Proves.j4 k x0 x2 x8 x108 x57 x58 0 x108 x109 x25000 x25001) else (if x62 = 1 then (m_Proves.j4 k x0 x2 x8 x109 x57 x58 1 x108 x109 x25000 x25001) else (none))) else (m_Proves.l0 k x0 x2 x57 (wrap64 (x58 + 1)) x25000 x25001)
def m_Proves.j4 : Nat → List (S62) → List (S51) → Int → Bool → Int → Int → Int → Bool → Bool → Bool → Bool → Option (Bool)
 | 0, _, _, _, _, _, _, _, _, _, _, _ => none
 | k + 1, x0, x2, x8, x10, x57, x58, x62, x108, x109, x25000, x25001 => m_Proves.l2 k x0 x2 x8 x10 x57 x58 x62 0 x108 x109 x25000 x25001 x25000 x25001
def m_Proves.l2 : Nat → List (S62) → List (S51) → Int → Bool → Int → Int → Int → Int → Bool → Bool → Bool → Bool → Bool → Bool → Option (Bool)
 | 0, _, _, _, _, _, _, _, _, _, _, _, _, _, _ => none
 | k + 1, x0, x2, x8, x10, x57, x58, x62, x66, x108, x109, x110, x111, x25000, x25001 => if x66 < 2 then (if x66 = 0 then (m_Proves.j6 k x0 x2 x8 x10 x110 x57 x58 x62 0 x108 x109 x110 x111 x25000 x25001) else (if x66 = 1 then (m_Proves.j6 k x0 x2 x8 x10 x111 x57 x58 x62 1 x108 x109 x110 x111 x25000 x25001) else (none))) else (m_Proves.l1 k x0 x2 x8 x57 x58 (wrap64 (x62 + 1)) x108 x109 x25000 x25001)
def m_Proves.j6 : Nat → List (S62) → List (S51) → Int → Bool → Bool → Int → Int → Int → Int → Bool → Bool → Bool → Bool → Bool → Bool → Option (Bool)
 | 0, _, _, _, _, _, _, _, _, _, _, _, _, _, _, _ => none
 | k + 1, x0, x2, x8, x10, x12, x57, x58, x62, x66, x108, x109, x110, x111, x25000, x25001 => (m_way.f x10).bind fun t284 => (if 0 ≤ x8 then (if x8 < (x2.length : Int) then (if t284 = 0 then ((m_between.f k x0 x8 x10 (wrap64 (x8 + 1)) x12).bind fun t286 => (m_Proves.j7 k x0 x2 x8 x10 x12 ((rd_T51 x2 x8).f0) t286 x57 x58 x62 x66 x108 x109 x110 x111 x25000 x25001)) else (if t284 = 1 then ((m_between.f k x0 x8 x10 (wrap64 (x8 + 1)) x12).bind fun t287 => (m_Proves.j7 k x0 x2 x8 x10 x12 ((rd_T51 x2 x8).f1) t287 x57 x58 x62 x66 x108 x109 x110 x111 x25000 x25001)) else (none))) else (none)) else (none))
def m_Proves.j7 : Nat → List (S62) → List (S51) → Int → Bool → Bool → Int → Int → Int → Int → Int → Int → Bool → Bool → Bool → Bool → Bool → Bool → Option (Bool)
 | 0, _, _, _, _, _, _, _, _, _, _, _, _, _, _, _, _, _ => none
 | k + 1, x0, x2, x8, x10, x12, x13, x14, x57, x58, x62, x66, x108, x109, x110, x111, x25000, x25001 => if x13 ≥ (wrap64 ((-9223372036854775808) + x14)) then ((m_way.f x12).bind fun t288 => (if 0 ≤ (wrap64 (x8 + 1)) then (if (wrap64 (x8 + 1)) < (x2.length : Int) then (if t288 = 0 then (m_Proves.j8 k x0 x2 x8 x10 x57 x58 x62 x66 (decide ((wrap64 (x13 - x14)) > ((rd_T51 x2 (wrap64 (x8 + 1))).f0))) x108 x109 x110 x111 x25000 x25001) else (if t288 = 1 then (m_Proves.j8 k x0 x2 x8 x10 x57 x58 x62 x66 (decide ((wrap64 (x13 - x14)) > ((rd_T51 x2 (wrap64 (x8 + 1))).f1))) x108 x109 x110 x111 x25000 x25001) else (none))) else (none)) else (none))) else (m_Proves.j8 k x0 x2 x8 x10 x57 x58 x62 x66 false x108 x109 x110 x111 x25000 x25001)
def m_Proves.j8 : Nat → List (S62) → List (S51) → Int → Bool → Int → Int → Int → Int → Bool → Bool → Bool → Bool → Bool → Bool → Bool → Option (Bool)
 | 0, _, _, _, _, _, _, _, _, _, _, _, _, _, _, _ => none
 | k + 1, x0, x2, x8, x10, x57, x58, x62, x66, x102, x108, x109, x110, x111, x25000, x25001 => if x102 = true then (some false) else (m_Proves.l2 k x0 x2 x8 x10 x57 x58 x62 (wrap64 (x66 + 1)) x108 x109 x110 x111 x25000 x25001)
end
def m_Proves.f (k : Nat) (l0 : List (S62)) (a1 : Int) (l2 : List (S51))  : Option (Bool) := (m_check.f k l0).bind fun t279 => (if t279 = 0 then (m_Proves.j0 k l0 a1 l2 ((l2.length : Int) != (l0.length : Int)) false true) else (m_Proves.j0 k l0 a1 l2 true false true))
theorem m_Proves.mono_l : ∀ k, (∀ y0 y1 y2 y3 y4 y5, LeO (m_Proves.j0 k y0 y1 y2 y3 y4 y5) (m_Proves.j0 (k + 1) y0 y1 y2 y3 y4 y5)) ∧ (∀ y0 y1 y2 y3 y4, LeO (m_Proves.j1 k y0 y1 y2 y3 y4) (m_Proves.j1 (k + 1) y0 y1 y2 y3 y4)) ∧ (∀ y0 y1 y2 y3 y4 y5, LeO (m_Proves.l0 k y0 y1 y2 y3 y4 y5) (m_Proves.l0 (k + 1) y0 y1 y2 y3 y4 y5)) ∧ (∀ y0 y1 y2 y3 y4 y5 y6 y7 y8 y9, LeO (m_Proves.l1 k y0 y1 y2 y3 y4 y5 y6 y7 y8 y9) (m_Proves.l1 (k + 1) y0 y1 y2 y3 y4 y5 y6 y7 y8 y9)) ∧ (∀ y0 y1 y2 y3 y4 y5 y6 y7 y8 y9 y10, LeO (m_Proves.j4 k y0 y1 y2 y3 y4 y5 y6 y7 y8 y9 y10) (m_Proves.j4 (k + 1) y0 y1 y2 y3 y4 y5 y6 y7 y8 y9 y10)) ∧ (∀ y0 y1 y2 y3 y4 y5 y6 y7 y8 y9 y10 y11 y12 y13, LeO (m_Proves.l2 k y0 y1 y2 y3 y4 y5 y6 y7 y8 y9 y10 y11 y12 y13) (m_Proves.l2 (k + 1) y0 y1 y2 y3 y4 y5 y6 y7 y8 y9 y10 y11 y12 y13)) ∧ (∀ y0 y1 y2 y3 y4 y5 y6 y7 y8 y9 y10 y11 y12 y13 y14, LeO (m_Proves.j6 k y0 y1 y2 y3 y4 y5 y6 y7 y8 y9 y10 y11 y12 y13 y14) (m_Proves.j6 (k + 1) y0 y1 y2 y3 y4 y5 y6 y7 y8 y9 y10 y11 y12 y13 y14)) ∧ (∀ y0 y1 y2 y3 y4 y5 y6 y7 y8 y9 y10 y11 y12 y13 y14 y15 y16, LeO (m_Proves.j7 k y0 y1 y2 y3 y4 y5 y6 y7 y8 y9 y10 y11 y12 y13 y14 y15 y16) (m_Proves.j7 (k + 1) y0 y1 y2 y3 y4 y5 y6 y7 y8 y9 y10 y11 y12 y13 y14 y15 y16)) ∧ (∀ y0 y1 y2 y3 y4 y5 y6 y7 y8 y9 y10 y11 y12 y13 y14, LeO (m_Proves.j8 k y0 y1 y2 y3 y4 y5 y6 y7 y8 y9 y10 y11 y12 y13 y14) (m_Proves.j8 (k + 1) y0 y1 y2 y3 y4 y5 y6 y7 y8 y9 y10 y11 y12 y13 y14))
 | 0 => ⟨fun _ _ _ _ _ _ r h => by simp [m_Proves.j0] at h, fun _ _ _ _ _ r h => by simp [m_Proves.j1] at h, fun _ _ _ _ _ _ r h => by simp [m_Proves.l0] at h, fun _ _ _ _ _ _ _ _ _ _ r h => by simp [m_Proves.l1] at h, fun _ _ _ _ _ _ _ _ _ _ _ r h => by simp [m_Proves.j4] at h, fun _ _ _ _ _ _ _ _ _ _ _ _ _ _ r h => by simp [m_Proves.l2] at h, fun _ _ _ _ _ _ _ _ _ _ _ _ _ _ _ r h => by simp [m_Proves.j6] at h, fun _ _ _ _ _ _ _ _ _ _ _ _ _ _ _ _ _ r h => by simp [m_Proves.j7] at h, fun _ _ _ _ _ _ _ _ _ _ _ _ _ _ _ r h => by simp [m_Proves.j8] at h⟩
 | k + 1 => by
  obtain ⟨ih0, ih1, ih2, ih3, ih4, ih5, ih6, ih7, ih8⟩ := m_Proves.mono_l k; refine ⟨?_, ?_, ?_, ?_, ?_, ?_, ?_, ?_, ?_⟩; (all_goals (intros; (first | unfold m_Proves.j0 | unfold m_Proves.j1 | unfold m_Proves.l0 | unfold m_Proves.l1 | unfold m_Proves.j4 | unfold m_Proves.l2 | unfold m_Proves.j6 | unfold m_Proves.j7 | unfold m_Proves.j8)))
  all_goals (repeat' first
   | (with_reducible exact ih1 _ _ _ _ _)
   | (with_reducible exact ih2 _ _ _ _ _ _)
   | (with_reducible exact ih3 _ _ _ _ _ _ _ _ _ _)
   | (with_reducible exact ih4 _ _ _ _ _ _ _ _ _ _ _)
   | (with_reducible exact ih5 _ _ _ _ _ _ _ _ _ _ _ _ _ _)
   | (with_reducible exact ih6 _ _ _ _ _ _ _ _ _ _ _ _ _ _ _)
   | (with_reducible exact ih7 _ _ _ _ _ _ _ _ _ _ _ _ _ _ _ _ _)
   | (with_reducible exact ih8 _ _ _ _ _ _ _ _ _ _ _ _ _ _ _)
   | (with_reducible exact m_between.mono _ _ _ _ _ _)
   | (with_reducible exact LeO.refl _)
   | (with_reducible refine LeO.ite ?_ ?_)
   | (with_reducible refine LeO.bind ?_ (fun _ => ?_))
   )
theorem m_Proves.mono : ∀ a0 a1 a2 k, LeO (m_Proves.f k a0 a1 a2) (m_Proves.f (k + 1) a0 a1 a2) := by
 intro a0 a1 a2 k
 obtain ⟨ih0, ih1, ih2, ih3, ih4, ih5, ih6, ih7, ih8⟩ := m_Proves.mono_l k
 unfold m_Proves.f
 repeat' first
   | (with_reducible exact ih0 _ _ _ _ _ _)
   | (with_reducible exact m_check.mono _ _)
   | (with_reducible refine LeO.ite ?_ ?_)
   | (with_reducible refine LeO.bind ?_ (fun _ => ?_))
   
theorem m_Proves.aix73 (a0_0 a1_0 : Value) (w : World) : (Instr.index 73 (.agg #[a0_0, a1_0]) (.int .i64 0)).run Tryd.prog w = .ok a0_0 w ∧ (Instr.index 73 (.agg #[a0_0, a1_0]) (.int .i64 1)).run Tryd.prog w = .ok a1_0 w := by
 refine ⟨by kernel_rfl, by kernel_rfl⟩

def m_Proves.T15 : Bool × List (List Nat × List Nat) := (true, [([], []), ([], []), ([], []), ([2], [2]), ([0, 1], [0, 1]), ([4, 3], [3, 4]), ([5], [5]), ([], []), ([], []), ([], []), ([8, 9], [8, 9]), ([], []), ([11], [11]), ([], []), ([12, 13], [12, 13]), ([7, 10, 14, 3], [7, 10, 14]), ([6, 15, 0, 1, 2, 3, 4, 5, 6], [6]), ([15, 16, 0, 1, 2, 3, 4, 5, 6, 7, 8, 9, 10, 11, 12, 13, 14, 15, 16], [15])])
def m_Proves.B15 : List Nat := [0, 0, 0, 4, 3, 31, 63, 0, 0, 0, 768, 0, 2048, 0, 14336, 32652, 65535, 131071]
theorem m_Proves.tab15 : rtab .any (opsOf Tryd.f26 15) = m_Proves.T15 := by kernel_rfl
theorem m_Proves.bits15 : waitsOk m_Proves.T15.2 m_Proves.B15 = true := by kernel_rfl
def m_Proves.T16 : Bool × List (List Nat × List Nat) := (true, [([], []), ([], []), ([1], [1]), ([0, 2], [0, 2]), ([3], [3]), ([4], [4]), ([4], [4]), ([5, 6, 4], [4, 5, 6]), ([4], [4]), ([4], [4]), ([9, 4], [4, 9]), ([4], [4]), ([11, 4, 4], [4, 11]), ([8, 10, 4], [4, 8, 10]), ([13, 12, 4], [4, 12, 13]), ([14, 4], [4, 14]), ([7, 15, 4], [4, 7, 15]), ([4, 16], [4, 16])])
def m_Proves.B16 : List Nat := [0, 0, 2, 7, 15, 31, 31, 127, 31, 31, 543, 31, 2079, 1823, 16159, 32543, 65535, 131071]
theorem m_Proves.tab16 : rtab .any (opsOf Tryd.f26 16) = m_Proves.T16 := by kernel_rfl
theorem m_Proves.bits16 : waitsOk m_Proves.T16.2 m_Proves.B16 = true := by kernel_rfl
set_option maxHeartbeats 8000000 in
set_option maxRecDepth 100000 in
theorem m_Proves.calls (k : Nat) (A0 : Option Addr) (c0 : Nat) (l0 : List (S62)) (a1 : Int) (A2 : Option Addr) (c2 : Nat) (l2 : List (S51)) (tg0 : TypeId) (r : Bool) (w : World) (hr0 : Kd.C k62 w A0 l0.length l0) (hc0 : l0.length ≤ c0) (hr2 : Kd.C k51 w A2 l2.length l2) (hc2 : l2.length ≤ c2) (hb24 : w.heap[0]? = some (.cells #[.bool false, .bool true] tg0 (0, 0))) (h : m_Proves.f k l0 a1 l2 = some r) :
  Calls Tryd.prog 26 #[.slice A0 l0.length c0, .int .i64 a1, .slice A2 l2.length c2] w fun e w' => e = .returned (.bool r) ∧ Below w.heap.size w w' := by
 have hu51 := Tryd.underlying51
 have hu73 := Tryd.underlying73
 have hu39 := Tryd.underlying39
 have hix73 := m_Proves.aix73
 have HR0 := ak hr0
 have HC0 := ak hc0
 clear hr0 hc0
 have HR2 := ak hr2
 have HC2 := ak hc2
 clear hr2 hc2
 have GL24 := blk_lt hb24
 have BK24 := ak hb24
 clear hb24
 have HB := ak (Below.refl w.heap.size w)
 have H : ((m_check.f k l0).bind fun t279 => (if t279 = 0 then (m_Proves.j0 k l0 a1 l2 ((l2.length : Int) != (l0.length : Int)) false true) else (m_Proves.j0 k l0 a1 l2 true false true))) = some r := h
 clear h
 have HC5 := ak H
 clear H
 go_enter Tryd.func26, Tryd.ntmps26
 go_upto_region 1 with (fail)
 go_cut [24] (fun v24 wc => ∃ (kq : Nat) (x24_4 : Bool), v24 = .bool x24_4 ∧ Aside0 (m_Proves.j0 kq l0 a1 l2 x24_4 false true = some r) ∧ Aside0 (kq ≤ k) ∧ Aside0 (wc.heap[0]? = some (.cells #[.bool false, .bool true] tg0 (0, 0))) ∧ Aside0 (Below w.heap.size w wc))
 case first =>
  have H := HC5.1; clear HC5; obtain ⟨t279, A60, H⟩ := obs_ H; (replace H : (if t279 = 0 then (m_Proves.j0 k l0 a1 l2 ((l2.length : Int) != (l0.length : Int)) false true) else (m_Proves.j0 k l0 a1 l2 true false true)) = some r := H); have A6 := ak A60; clear A60; (by_cases c7 : t279 = 0)
  ·rw [if_pos c7] at H
   have c7b0 := beq_iff_eq.mpr c7; have c7b1 := bne_eq_false_iff_eq.mpr c7; clear c7; have H' := ak H; clear H; (go_wp2_with (first | ((with_reducible refine gate_callee (f := 34) rfl ?_); refine goesL_ (some 16) rfl rfl Tryd.func34 (by kernel_rfl) rfl #[.slice A0 l0.length c0] rfl am_ ?_; (with_reducible refine (m_check.calls k (fun k_ => k_ < w.heap.size) _ _ l0 t279 _ ?side1 A6.1).mono ?_); (case side1 => exact Kd.V_mk HC0.1 (Kd.F_below (Kd.C_F k62_heap HR0.1) (hb_ HB))); rintro e w8 ⟨rfl, hb⟩; refine ⟨_, rfl, ?_⟩; replace BK24 := bg0 (t := tg0) (bk_ BK24) hb; replace HB := hs_ HB hb; (try clear hb)))); (go_meet)
   case rel => exact ⟨_, (((l2.length : Int) != (l0.length : Int))), (by rfl), H', ⟨by omega⟩, ⟨bk_ BK24⟩, ⟨hb_ HB⟩⟩
  rw [if_neg c7] at H
  have c7b0 := beq_eq_false_iff_ne.mpr c7; have c7b1 := bne_iff_ne.mpr c7; have H' := ak H; clear H; (go_wp2_with (first | ((with_reducible refine gate_callee (f := 34) rfl ?_); refine goesL_ (some 16) rfl rfl Tryd.func34 (by kernel_rfl) rfl #[.slice A0 l0.length c0] rfl am_ ?_; (with_reducible refine (m_check.calls k (fun k_ => k_ < w.heap.size) _ _ l0 t279 _ ?side1 A6.1).mono ?_); (case side1 => exact Kd.V_mk HC0.1 (Kd.F_below (Kd.C_F k62_heap HR0.1) (hb_ HB))); rintro e w9 ⟨rfl, hb⟩; refine ⟨_, rfl, ?_⟩; replace BK24 := bg0 (t := tg0) (bk_ BK24) hb; replace HB := hs_ HB hb; (try clear hb)))); (go_meet)
  case rel => exact ⟨_, (true), (by rfl), H', ⟨by omega⟩, ⟨bk_ BK24⟩, ⟨hb_ HB⟩⟩
 clear HC5; obtain ⟨kq, x24_4, rfl, HA, HJ4, BK24, HB⟩ := hcut
 cases kq with
 | zero => exact absurd HA.1 (by simp [m_Proves.j0])
 | succ kj4 =>
  have H := HA.1; clear HA; simp only [m_Proves.j0] at H; (by_cases c10 : x24_4 = true)
  ·subst c10; (replace H : (some false) = some r := by rw [if_pos rfl] at H; exact H); obtain rfl := Option.some.inj H; (go_wp2); (go_ret); (exact ⟨by rfl, hb_ HB⟩)
  replace c10 := Bool.eq_false_iff.mpr c10
  subst c10; (replace H : (if 0 ≤ (wrap64 ((l2.length : Int) - 1)) then (if (wrap64 ((l2.length : Int) - 1)) < (l2.length : Int) then (if ((rd_T51 l2 (wrap64 ((l2.length : Int) - 1))).f0) > 0 then (m_Proves.j1 kj4 l0 l2 true false true) else (if ((rd_T51 l2 (wrap64 ((l2.length : Int) - 1))).f1) > 0 then (m_Proves.j1 kj4 l0 l2 true false true) else (if 0 < (l2.length : Int) then (if a1 > ((rd_T51 l2 0).f0) then (m_Proves.j1 kj4 l0 l2 true false true) else (m_Proves.j1 kj4 l0 l2 (decide (a1 > ((rd_T51 l2 0).f1))) false true)) else (none)))) else (none)) else (none)) = some r := by rw [if_neg (show ¬ (false = true) by decide)] at H; exact H); obtain ⟨ji11, hji11⟩ : ∃ j_ : Int, (wrap64 ((l2.length : Int) - 1)) = j_ := ⟨_, rfl⟩; (replace H : (if 0 ≤ (ji11) then (if (ji11) < (l2.length : Int) then (if ((rd_T51 l2 (ji11)).f0) > 0 then (m_Proves.j1 kj4 l0 l2 true false true) else (if ((rd_T51 l2 (ji11)).f1) > 0 then (m_Proves.j1 kj4 l0 l2 true false true) else (if 0 < (l2.length : Int) then (if a1 > ((rd_T51 l2 0).f0) then (m_Proves.j1 kj4 l0 l2 true false true) else (m_Proves.j1 kj4 l0 l2 (decide (a1 > ((rd_T51 l2 0).f1))) false true)) else (none)))) else (none)) else (none)) = some r := by (rw [hji11] at H; exact H)); have hji11w : (IntKind.i64.wrap ((l2.length : Int) - 1)) = ji11 := (i64_w _).trans hji11; (by_cases c12 : 0 ≤ (ji11))
  ·rw [if_pos c12] at H
   have c12b0 := decide_eq_true c12; clear c12; (by_cases c13 : (ji11) < (l2.length : Int))
   ·rw [if_pos c13] at H
    have c13b0 := decide_eq_true c13; clear c13; have HC14 := ak H; clear H; have p280 : 0 ≤ ((ji11) : Int) := od_; have q280 : (ji11) < (l2.length : Int) := od_; obtain ⟨ad280, e280, hx280_0, hx280_1⟩ := at_T51 HR2.1 (ji11) p280 q280; (cases e280); replace hx280_0 := (hc_ HB hx280_0).trans hx280_0; replace hx280_1 := (hc_ HB hx280_1).trans hx280_1; replace p280 := eq_true p280; replace q280 := eq_true q280; (go_upto_region 4 with (first | ((with_reducible refine gate_dst (N := 7) rfl ?_); refine box_event ?hg (N := 7) ?hd (cs := #[.int .i64 0, .int .i64 0]) (t := 51) ?hr ?_; (case hd => rfl); (case hg => rfl); (case hr => (go_simp; done)); intro gb281 hg w15 hbox hb; have BK281 := ak (hbox); have GW281 := gw_ HB hg; have GE281 := gw_ HB hg; replace HB := hs_ HB hb; have NB24_281 := ak ((by rw [hg]; exact Nat.ne_of_lt (blk_lt (g := 0) (o := gw0 tg0) (bk_ BK24)) : 0 ≠ gb281)); have NB281_24 := ak ((by rw [hg]; exact Nat.ne_of_gt (blk_lt (g := 0) (o := gw0 tg0) (bk_ BK24)) : gb281 ≠ 0)); replace BK24 := bg0 (t := tg0) (bk_ BK24) hb; clear hb hbox hg; have hnb16 := NB281_24.1; have hnc16 := NB24_281.1; obtain ⟨hcz17_0, hcz17_1, hfz17_0, hfz17_1⟩ := cz2_ BK281))); (go_cut [54] (fun v54 wc => ∃ (kq : Nat) (x54_13 : Bool), v54 = .bool x54_13 ∧ Aside0 (m_Proves.j1 kq l0 l2 x54_13 false true = some r) ∧ Aside0 (kq ≤ kj4) ∧ Aside0 (wc.heap[0]? = some (.cells #[.bool false, .bool true] tg0 (0, 0))) ∧ Aside0 (wc.heap[gb281]? = some (.cells #[.int .i64 ((rd_T51 l2 (ji11)).f0), .int .i64 ((rd_T51 l2 (ji11)).f1)] 51 (0, 0))) ∧ Aside0 (Below w.heap.size w wc)))
    case first =>
     have H := HC14.1; clear HC14; (by_cases c18 : ((rd_T51 l2 (ji11)).f0) > 0)
     ·rw [if_pos c18] at H
      have c18b0 := decide_eq_true c18; clear c18; have H' := ak H; clear H; have hnb19 := NB281_24.1; have hnc19 := NB24_281.1; obtain ⟨hcz20_0, hcz20_1, hfz20_0, hfz20_1⟩ := cz2_ BK281; (go_wp2); (go_meet)
      case rel => exact ⟨_, (true), (by rfl), H', ⟨by have := HJ4.1; omega⟩, ⟨by refine blk_far ?_ NB24_281.1 _; refine blk_far ?_ NB24_281.1 _; exact BK24.1⟩, ⟨by refine blk_put (cs := #[.int .i64 ((rd_T51 l2 (ji11)).f0), .int .i64 0]) ?_ 1 _ rfl; refine blk_put (cs := #[.int .i64 0, .int .i64 0]) ?_ 0 _ rfl; exact BK281.1⟩, ⟨hb_ HB⟩⟩
     rw [if_neg c18] at H
     have c18b0 := decide_eq_false c18; clear c18; (by_cases c21 : ((rd_T51 l2 (ji11)).f1) > 0)
     ·rw [if_pos c21] at H
      have c21b0 := decide_eq_true c21; clear c21; have H' := ak H; clear H; have hnb22 := NB281_24.1; have hnc22 := NB24_281.1; obtain ⟨hcz23_0, hcz23_1, hfz23_0, hfz23_1⟩ := cz2_ BK281; (go_wp2); (go_meet)
      case rel => exact ⟨_, (true), (by rfl), H', ⟨by have := HJ4.1; omega⟩, ⟨by refine blk_far ?_ NB24_281.1 _; refine blk_far ?_ NB24_281.1 _; exact BK24.1⟩, ⟨by refine blk_put (cs := #[.int .i64 ((rd_T51 l2 (ji11)).f0), .int .i64 0]) ?_ 1 _ rfl; refine blk_put (cs := #[.int .i64 0, .int .i64 0]) ?_ 0 _ rfl; exact BK281.1⟩, ⟨hb_ HB⟩⟩
     rw [if_neg c21] at H
     have c21b0 := decide_eq_false c21; clear c21; (by_cases c24 : 0 < (l2.length : Int))
     ·rw [if_pos c24] at H
      have c24b0 := decide_eq_true c24; (have c24b1 : decide (0 < l2.length) = true := decide_eq_true (by omega)); clear c24; (by_cases c25 : a1 > ((rd_T51 l2 0).f0))
      ·rw [if_pos c25] at H
       have c25b0 := decide_eq_true c25; clear c25; have H' := ak H; clear H; have hnb26 := NB281_24.1; have hnc26 := NB24_281.1; obtain ⟨hcz27_0, hcz27_1, hfz27_0, hfz27_1⟩ := cz2_ BK281; (have p282 : 0 ≤ (0 : Int) := (by omega)); have q282 : 0 < (l2.length : Int) := od_; obtain ⟨ad282, e282, hx282_0, hx282_1⟩ := at_T51 HR2.1 0 p282 q282; (obtain rfl : ad280 = ad282 := (by injection e282)); (have qi282 : (0 < l2.length) = True := eq_true (by omega)); ((try rw [show ((0 : Int)).toNat = 0 from rfl] at hx282_0)); ((try rw [show 0 * 2 = 0 from rfl] at hx282_0)); ((try rw [Addr.add_zero'] at hx282_0)); ((try rw [show ((0 : Int)).toNat = 0 from rfl] at hx282_1)); ((try rw [show 0 * 2 = 0 from rfl] at hx282_1)); ((try rw [Addr.add_zero'] at hx282_1)); (have hn282_0 : ad280.block ≠ gb281 := Nat.ne_of_lt (Nat.lt_of_lt_of_le (by have := World.block_lt_of_cell? _ _ hx282_0; exact this) GW281.1)); (have hn282_1 : ad280.block ≠ gb281 := Nat.ne_of_lt (Nat.lt_of_lt_of_le (by have := World.block_lt_of_cell? _ _ hx282_0; exact this) GW281.1)); replace hx282_0 := (hc_ HB hx282_0).trans hx282_0; replace hx282_1 := (hc_ HB hx282_1).trans hx282_1; (replace hx282_0 := (cell_far (p := ⟨gb281, 0, none⟩) (by exact hn282_0) (.int .i64 ((rd_T51 l2 (ji11)).f0))).trans hx282_0); (replace hx282_1 := (cell_far (p := ⟨gb281, 0, none⟩) (by exact hn282_0) (.int .i64 ((rd_T51 l2 (ji11)).f0))).trans hx282_1); (replace hx282_0 := (cell_far (p := ⟨gb281, 1, none⟩) (by exact hn282_1) (.int .i64 ((rd_T51 l2 (ji11)).f1))).trans hx282_0); (replace hx282_1 := (cell_far (p := ⟨gb281, 1, none⟩) (by exact hn282_1) (.int .i64 ((rd_T51 l2 (ji11)).f1))).trans hx282_1); clear hn282_0 hn282_1; replace p282 := eq_true p282; replace q282 := eq_true q282; (go_wp2); (go_meet)
       case rel => exact ⟨_, (true), (by rfl), H', ⟨by have := HJ4.1; omega⟩, ⟨by refine blk_far ?_ NB24_281.1 _; refine blk_far ?_ NB24_281.1 _; exact BK24.1⟩, ⟨by refine blk_put (cs := #[.int .i64 ((rd_T51 l2 (ji11)).f0), .int .i64 0]) ?_ 1 _ rfl; refine blk_put (cs := #[.int .i64 0, .int .i64 0]) ?_ 0 _ rfl; exact BK281.1⟩, ⟨hb_ HB⟩⟩
      rw [if_neg c25] at H
      have c25b0 := decide_eq_false c25; clear c25; have H' := ak H; clear H; have hnb28 := NB281_24.1; have hnc28 := NB24_281.1; obtain ⟨hcz29_0, hcz29_1, hfz29_0, hfz29_1⟩ := cz2_ BK281; (have p282 : 0 ≤ (0 : Int) := (by omega)); have q282 : 0 < (l2.length : Int) := od_; obtain ⟨ad282, e282, hx282_0, hx282_1⟩ := at_T51 HR2.1 0 p282 q282; (obtain rfl : ad280 = ad282 := (by injection e282)); (have qi282 : (0 < l2.length) = True := eq_true (by omega)); ((try rw [show ((0 : Int)).toNat = 0 from rfl] at hx282_0)); ((try rw [show 0 * 2 = 0 from rfl] at hx282_0)); ((try rw [Addr.add_zero'] at hx282_0)); ((try rw [show ((0 : Int)).toNat = 0 from rfl] at hx282_1)); ((try rw [show 0 * 2 = 0 from rfl] at hx282_1)); ((try rw [Addr.add_zero'] at hx282_1)); (have hn282_0 : ad280.block ≠ gb281 := Nat.ne_of_lt (Nat.lt_of_lt_of_le (by have := World.block_lt_of_cell? _ _ hx282_0; exact this) GW281.1)); (have hn282_1 : ad280.block ≠ gb281 := Nat.ne_of_lt (Nat.lt_of_lt_of_le (by have := World.block_lt_of_cell? _ _ hx282_0; exact this) GW281.1)); replace hx282_0 := (hc_ HB hx282_0).trans hx282_0; replace hx282_1 := (hc_ HB hx282_1).trans hx282_1; (replace hx282_0 := (cell_far (p := ⟨gb281, 0, none⟩) (by exact hn282_0) (.int .i64 ((rd_T51 l2 (ji11)).f0))).trans hx282_0); (replace hx282_1 := (cell_far (p := ⟨gb281, 0, none⟩) (by exact hn282_0) (.int .i64 ((rd_T51 l2 (ji11)).f0))).trans hx282_1); (replace hx282_0 := (cell_far (p := ⟨gb281, 1, none⟩) (by exact hn282_1) (.int .i64 ((rd_T51 l2 (ji11)).f1))).trans hx282_0); (replace hx282_1 := (cell_far (p := ⟨gb281, 1, none⟩) (by exact hn282_1) (.int .i64 ((rd_T51 l2 (ji11)).f1))).trans hx282_1); clear hn282_0 hn282_1; replace p282 := eq_true p282; replace q282 := eq_true q282; (have p283 : 0 ≤ (0 : Int) := (by omega)); have q283 : 0 < (l2.length : Int) := od_; obtain ⟨ad283, e283, hx283_0, hx283_1⟩ := at_T51 HR2.1 0 p283 q283; (obtain rfl : ad280 = ad283 := (by injection e283)); (have qi283 : (0 < l2.length) = True := eq_true (by omega)); ((try rw [show ((0 : Int)).toNat = 0 from rfl] at hx283_0)); ((try rw [show 0 * 2 = 0 from rfl] at hx283_0)); ((try rw [Addr.add_zero'] at hx283_0)); ((try rw [show ((0 : Int)).toNat = 0 from rfl] at hx283_1)); ((try rw [show 0 * 2 = 0 from rfl] at hx283_1)); ((try rw [Addr.add_zero'] at hx283_1)); (have hn283_0 : ad280.block ≠ gb281 := Nat.ne_of_lt (Nat.lt_of_lt_of_le (by have := World.block_lt_of_cell? _ _ hx283_0; exact this) GW281.1))
      (have hn283_1 : ad280.block ≠ gb281 := Nat.ne_of_lt (Nat.lt_of_lt_of_le (by have := World.block_lt_of_cell? _ _ hx283_0; exact this) GW281.1)); replace hx283_0 := (hc_ HB hx283_0).trans hx283_0; replace hx283_1 := (hc_ HB hx283_1).trans hx283_1; (replace hx283_0 := (cell_far (p := ⟨gb281, 0, none⟩) (by exact hn283_0) (.int .i64 ((rd_T51 l2 (ji11)).f0))).trans hx283_0); (replace hx283_1 := (cell_far (p := ⟨gb281, 0, none⟩) (by exact hn283_0) (.int .i64 ((rd_T51 l2 (ji11)).f0))).trans hx283_1); (replace hx283_0 := (cell_far (p := ⟨gb281, 1, none⟩) (by exact hn283_1) (.int .i64 ((rd_T51 l2 (ji11)).f1))).trans hx283_0); (replace hx283_1 := (cell_far (p := ⟨gb281, 1, none⟩) (by exact hn283_1) (.int .i64 ((rd_T51 l2 (ji11)).f1))).trans hx283_1); clear hn283_0 hn283_1; replace p283 := eq_true p283; replace q283 := eq_true q283; (go_wp2); (go_meet)
      case rel => exact ⟨_, (decide (a1 > ((rd_T51 l2 0).f1))), (by rfl), H', ⟨by have := HJ4.1; omega⟩, ⟨by refine blk_far ?_ NB24_281.1 _; refine blk_far ?_ NB24_281.1 _; exact BK24.1⟩, ⟨by refine blk_put (cs := #[.int .i64 ((rd_T51 l2 (ji11)).f0), .int .i64 0]) ?_ 1 _ rfl; refine blk_put (cs := #[.int .i64 0, .int .i64 0]) ?_ 0 _ rfl; exact BK281.1⟩, ⟨hb_ HB⟩⟩
     rw [if_neg c24] at H; (exact absurd H (by simp))
    clear HC14; (try clear c12b0); (try clear c13b0); (try clear hcz17_0); (try clear hcz17_1); (try clear hfz17_0); (try clear hfz17_1); (try clear hx280_0); (try clear hx280_1); (try clear p280); (try clear q280); obtain ⟨kq, x54_13, rfl, HA, HJ13, BK24, BK281, HB⟩ := hcut
    cases kq with
    | zero => exact absurd HA.1 (by simp [m_Proves.j1])
    | succ kj13 =>
     have H := HA.1; clear HA; simp only [m_Proves.j1] at H; (by_cases c30 : x54_13 = true)
     ·subst c30; (replace H : (some false) = some r := by rw [if_pos rfl] at H; exact H); obtain rfl := Option.some.inj H; (go_wp2); (go_ret); (exact ⟨by rfl, hb_ HB⟩)
     replace c30 := Bool.eq_false_iff.mpr c30
     subst c30; (replace H : (m_Proves.l0 kj13 l0 l2 (wrap64 ((l0.length : Int) - 1)) 0 false true) = some r := by rw [if_neg (show ¬ (false = true) by decide)] at H; exact H); have H' := ak H; clear H; (go_wp2); (go_loopg [58] kj13 (fun kq v58 w' => ∃ (x58_3 : Int), v58 = .int .i64 x58_3 ∧ Aside0 (m_Proves.l0 kq l0 l2 (wrap64 ((l0.length : Int) - 1)) x58_3 false true = some r) ∧ Aside0 (kq ≤ kj13) ∧ Aside0 (w'.heap[0]? = some (.cells #[.bool false, .bool true] tg0 (0, 0))) ∧ Aside0 (w'.heap[gb281]? = some (.cells #[.int .i64 ((rd_T51 l2 (ji11)).f0), .int .i64 ((rd_T51 l2 (ji11)).f1)] 51 (0, 0))) ∧ Aside0 (Below w.heap.size w w')))
     case atStart => exact ⟨(0), (by rfl), H', ⟨Nat.le_refl _⟩, ⟨bk_ BK24⟩, ⟨bk_ BK281⟩, ⟨hb_ HB⟩⟩
     clear H'; obtain ⟨x58_3, rfl, HA, HK3, BK24, BK281, HB⟩ := hrel
     cases gk with
     | zero => exact absurd HA.1 (by simp [m_Proves.l0])
     | succ k3 =>
      have H := HA.1; clear HA; simp only [m_Proves.l0] at H; (by_cases c31 : x58_3 < (wrap64 ((l0.length : Int) - 1)))
      ·rw [if_pos c31] at H
       have c31b0 := decide_eq_true c31; clear c31; have H' := ak H; clear H; have hnb32 := NB24_281.1; have hnc32 := NB281_24.1; obtain ⟨hcz33_0, hcz33_1, hfz33_0, hfz33_1⟩ := cz2_ BK24; (go_wp2); (go_loopg [62] k3 (fun kq v62 w' => ∃ (x62_4 : Int), v62 = .int .i64 x62_4 ∧ Aside0 (m_Proves.l1 kq l0 l2 x58_3 (wrap64 ((l0.length : Int) - 1)) x58_3 x62_4 false true false true = some r) ∧ Aside0 (kq ≤ k3) ∧ Aside0 (w'.heap[0]? = some (.cells #[.bool false, .bool true] tg0 (0, 0))) ∧ Aside0 (w'.heap[gb281]? = some (.cells #[.int .i64 ((rd_T51 l2 (ji11)).f0), .int .i64 ((rd_T51 l2 (ji11)).f1)] 51 (0, 0))) ∧ Aside0 (Below w.heap.size w w')))
       case atStart => exact ⟨(0), (by rfl), H', ⟨Nat.le_refl _⟩, ⟨bk_ BK24⟩, ⟨bk_ BK281⟩, ⟨hb_ HB⟩⟩
       clear H'; (try clear c31b0); (try clear hcz33_0); (try clear hcz33_1); (try clear hfz33_0); (try clear hfz33_1); obtain ⟨x62_4, rfl, HA, HK4, BK24, BK281, HB⟩ := hrel
       cases gk with
       | zero => exact absurd HA.1 (by simp [m_Proves.l1])
       | succ k4 =>
        have H := HA.1; clear HA; simp only [m_Proves.l1] at H; (by_cases c34 : x62_4 < 2)
        ·rw [if_pos c34] at H
         have c34b0 := decide_eq_true c34; clear c34; have HC35 := ak H; clear H; (go_upto_region 11 with (fail)); (go_cut [10] (fun v10 wc => ∃ (kq : Nat) (x10_34 : Bool), v10 = .bool x10_34 ∧ Aside0 (m_Proves.j4 kq l0 l2 x58_3 x10_34 (wrap64 ((l0.length : Int) - 1)) x58_3 x62_4 false true false true = some r) ∧ Aside0 (kq ≤ k4) ∧ Aside0 (wc.heap[0]? = some (.cells #[.bool false, .bool true] tg0 (0, 0))) ∧ Aside0 (wc.heap[gb281]? = some (.cells #[.int .i64 ((rd_T51 l2 (ji11)).f0), .int .i64 ((rd_T51 l2 (ji11)).f1)] 51 (0, 0))) ∧ Aside0 (Below w.heap.size w wc)))
         case first =>
          have H := HC35.1; clear HC35; (by_cases c36 : x62_4 = 0)
          ·subst c36
           (replace H : (m_Proves.j4 k4 l0 l2 x58_3 false (wrap64 ((l0.length : Int) - 1)) x58_3 0 false true false true) = some r := by rw [if_pos rfl] at H; exact H); have H' := ak H; clear H; (go_wp2); (go_meet)
           case rel => exact ⟨_, (false), (by rfl), H', ⟨by have := HJ4.1; have := HJ13.1; have := HK3.1; have := HK4.1; omega⟩, ⟨bk_ BK24⟩, ⟨bk_ BK281⟩, ⟨hb_ HB⟩⟩
          rw [if_neg c36] at H
          by_cases c37 : x62_4 = 1
          ·subst c37
           (replace H : (m_Proves.j4 k4 l0 l2 x58_3 true (wrap64 ((l0.length : Int) - 1)) x58_3 1 false true false true) = some r := by rw [if_pos rfl] at H; exact H); have H' := ak H; clear H; (go_wp2); (go_meet)
           case rel => exact ⟨_, (true), (by rfl), H', ⟨by have := HJ4.1; have := HJ13.1; have := HK3.1; have := HK4.1; omega⟩, ⟨bk_ BK24⟩, ⟨bk_ BK281⟩, ⟨hb_ HB⟩⟩
          rw [if_neg c37] at H; (exact absurd H (by simp))
         clear HC35; (try clear c34b0); obtain ⟨kq, x10_34, rfl, HA, HJ34, BK24, BK281, HB⟩ := hcut
         cases kq with
         | zero => exact absurd HA.1 (by simp [m_Proves.j4])
         | succ kj34 =>
          have H := HA.1; clear HA; simp only [m_Proves.j4] at H; have H' := ak H; clear H; have hnb38 := NB24_281.1; have hnc38 := NB281_24.1; obtain ⟨hcz39_0, hcz39_1, hfz39_0, hfz39_1⟩ := cz2_ BK24; (go_wp2); (go_loopg [66] kj34 (fun kq v66 w' => ∃ (x66_6 : Int), v66 = .int .i64 x66_6 ∧ Aside0 (m_Proves.l2 kq l0 l2 x58_3 x10_34 (wrap64 ((l0.length : Int) - 1)) x58_3 x62_4 x66_6 false true false true false true = some r) ∧ Aside0 (kq ≤ kj34) ∧ Aside0 (w'.heap[0]? = some (.cells #[.bool false, .bool true] tg0 (0, 0))) ∧ Aside0 (w'.heap[gb281]? = some (.cells #[.int .i64 ((rd_T51 l2 (ji11)).f0), .int .i64 ((rd_T51 l2 (ji11)).f1)] 51 (0, 0))) ∧ Aside0 (Below w.heap.size w w')))
          case atStart => exact ⟨(0), (by rfl), H', ⟨Nat.le_refl _⟩, ⟨bk_ BK24⟩, ⟨bk_ BK281⟩, ⟨hb_ HB⟩⟩
          clear H'; (try clear hcz39_0); (try clear hcz39_1); (try clear hfz39_0); (try clear hfz39_1); obtain ⟨x66_6, rfl, HA, HK6, BK24, BK281, HB⟩ := hrel
          cases gk with
          | zero => exact absurd HA.1 (by simp [m_Proves.l2])
          | succ k6 =>
           have H := HA.1; clear HA; simp only [m_Proves.l2] at H; (by_cases c40 : x66_6 < 2)
           ·rw [if_pos c40] at H
            have c40b0 := decide_eq_true c40; clear c40; have HC41 := ak H; clear H; (go_upto_region 14 with (fail)); (go_cut [12] (fun v12 wc => ∃ (kq : Nat) (x12_40 : Bool), v12 = .bool x12_40 ∧ Aside0 (m_Proves.j6 kq l0 l2 x58_3 x10_34 x12_40 (wrap64 ((l0.length : Int) - 1)) x58_3 x62_4 x66_6 false true false true false true = some r) ∧ Aside0 (kq ≤ k6) ∧ Aside0 (wc.heap[0]? = some (.cells #[.bool false, .bool true] tg0 (0, 0))) ∧ Aside0 (wc.heap[gb281]? = some (.cells #[.int .i64 ((rd_T51 l2 (ji11)).f0), .int .i64 ((rd_T51 l2 (ji11)).f1)] 51 (0, 0))) ∧ Aside0 (Below w.heap.size w wc)))
            case first =>
             have H := HC41.1; clear HC41; (by_cases c42 : x66_6 = 0)
             ·subst c42
              (replace H : (m_Proves.j6 k6 l0 l2 x58_3 x10_34 false (wrap64 ((l0.length : Int) - 1)) x58_3 x62_4 0 false true false true false true) = some r := by rw [if_pos rfl] at H; exact H); have H' := ak H; clear H; (go_wp2); (go_meet)
              case rel => exact ⟨_, (false), (by rfl), H', ⟨by have := HJ4.1; have := HJ13.1; have := HK3.1; have := HK4.1; have := HJ34.1; have := HK6.1; omega⟩, ⟨bk_ BK24⟩, ⟨bk_ BK281⟩, ⟨hb_ HB⟩⟩
             rw [if_neg c42] at H
             by_cases c43 : x66_6 = 1
             ·subst c43
              (replace H : (m_Proves.j6 k6 l0 l2 x58_3 x10_34 true (wrap64 ((l0.length : Int) - 1)) x58_3 x62_4 1 false true false true false true) = some r := by rw [if_pos rfl] at H; exact H); have H' := ak H; clear H; (go_wp2); (go_meet)
              case rel => exact ⟨_, (true), (by rfl), H', ⟨by have := HJ4.1; have := HJ13.1; have := HK3.1; have := HK4.1; have := HJ34.1; have := HK6.1; omega⟩, ⟨bk_ BK24⟩, ⟨bk_ BK281⟩, ⟨hb_ HB⟩⟩
             rw [if_neg c43] at H; (exact absurd H (by simp))
            clear HC41; (try clear c40b0); obtain ⟨kq, x12_40, rfl, HA, HJ40, BK24, BK281, HB⟩ := hcut
            cases kq with
            | zero => exact absurd HA.1 (by simp [m_Proves.j6])
            | succ kj40 =>
             have H := HA.1; clear HA; simp only [m_Proves.j6] at H; have HC44 := ak H; clear H; (go_upto_region 15 with (fail)); (go_cut [13, 14] (fun v13 v14 wc => ∃ (kq : Nat) (x13_43 : Int) (x14_43 : Int), v13 = .int .i64 x13_43 ∧ v14 = .int .i64 x14_43 ∧ Aside0 (m_Proves.j7 kq l0 l2 x58_3 x10_34 x12_40 x13_43 x14_43 (wrap64 ((l0.length : Int) - 1)) x58_3 x62_4 x66_6 false true false true false true = some r) ∧ Aside0 (kq ≤ kj40) ∧ Aside0 (wc.heap[0]? = some (.cells #[.bool false, .bool true] tg0 (0, 0))) ∧ Aside0 (wc.heap[gb281]? = some (.cells #[.int .i64 ((rd_T51 l2 (ji11)).f0), .int .i64 ((rd_T51 l2 (ji11)).f1)] 51 (0, 0))) ∧ Aside0 (Below w.heap.size w wc)))
             case first =>
              have H := HC44.1; clear HC44; obtain ⟨t284, A450, H⟩ := obs_ H; (replace H : (if 0 ≤ x58_3 then (if x58_3 < (l2.length : Int) then (if t284 = 0 then ((m_between.f kj40 l0 x58_3 x10_34 (wrap64 (x58_3 + 1)) x12_40).bind fun t286 => (m_Proves.j7 kj40 l0 l2 x58_3 x10_34 x12_40 ((rd_T51 l2 x58_3).f0) t286 (wrap64 ((l0.length : Int) - 1)) x58_3 x62_4 x66_6 false true false true false true)) else (if t284 = 1 then ((m_between.f kj40 l0 x58_3 x10_34 (wrap64 (x58_3 + 1)) x12_40).bind fun t287 => (m_Proves.j7 kj40 l0 l2 x58_3 x10_34 x12_40 ((rd_T51 l2 x58_3).f1) t287 (wrap64 ((l0.length : Int) - 1)) x58_3 x62_4 x66_6 false true false true false true)) else (none))) else (none)) else (none)) = some r := H); have A45 := ak A450; clear A450; (by_cases c46 : 0 ≤ x58_3)
              ·rw [if_pos c46] at H
               have c46b0 := decide_eq_true c46; clear c46; (by_cases c47 : x58_3 < (l2.length : Int))
               ·rw [if_pos c47] at H
                have c47b0 := decide_eq_true c47; clear c47; (by_cases c48 : t284 = 0)
                ·subst c48
                 (replace H : ((m_between.f kj40 l0 x58_3 x10_34 (wrap64 (x58_3 + 1)) x12_40).bind fun t286 => (m_Proves.j7 kj40 l0 l2 x58_3 x10_34 x12_40 ((rd_T51 l2 x58_3).f0) t286 (wrap64 ((l0.length : Int) - 1)) x58_3 x62_4 x66_6 false true false true false true)) = some r := by rw [if_pos rfl] at H; exact H); obtain ⟨t286, A490, H⟩ := obs_ H; replace H : (m_Proves.j7 kj40 l0 l2 x58_3 x10_34 x12_40 ((rd_T51 l2 x58_3).f0) t286 (wrap64 ((l0.length : Int) - 1)) x58_3 x62_4 x66_6 false true false true false true) = some r := H; have A49 := ak A490; clear A490; have H' := ak H; clear H; (try go_wp2); replace BK24 := bq_ BK24; replace BK281 := bq_ BK281; replace HB := ak (below_drew1 HB.1); have p285 : 0 ≤ (x58_3 : Int) := od_; have q285 : x58_3 < (l2.length : Int) := od_; obtain ⟨ad285, e285, hx285_0, hx285_1⟩ := at_T51 HR2.1 x58_3 p285 q285; have hw285_1 := hx285_1; have hw285_0 := hx285_0; (obtain rfl : ad280 = ad285 := (by injection e285)); replace hx285_0 := (hc_ HB hx285_0).trans hx285_0; replace hx285_1 := (hc_ HB hx285_1).trans hx285_1; replace p285 := eq_true p285; replace q285 := eq_true q285; (refine start_ (n := 18) (S := fun w' => w'.cell? (ad280.add ((x58_3).toNat * 2)) = some (.int .i64 ((rd_T51 l2 x58_3).f0)) ∧ w'.cell? ⟨(ad280.add ((x58_3).toNat * 2)).block, (ad280.add ((x58_3).toNat * 2)).off + 1, none⟩ = some (.int .i64 ((rd_T51 l2 x58_3).f1))) (ds := []) (bm 18 0) (by kernel_rfl) rfl rfl ⟨((hc_ HB hw285_0).trans hw285_0), ((hc_ HB hw285_1).trans hw285_1)⟩ (fun hHeld => ?_); refine with_tabW m_Proves.tab15 m_Proves.bits15 (fun HT_ HW_ => ?_)); generalize wc.drew = w50 at BK24 BK281 HB hx285_0 hx285_1 hHeld ⊢; refine pv_ 0 HT_ ?_; refine pv_ 1 HT_ ?_; refine pv_ 2 HT_ ?_; refine pv_ 4 HT_ ?_; refine pv_ 7 HT_ ?_; refine pv_ 8 HT_ ?_; refine pv_ 9 HT_ ?_; refine pv_ 10 HT_ ?_; refine pv_ 11 HT_ ?_; refine pv_ 12 HT_ ?_; refine pv_ 13 HT_ ?_; refine pv_ 14 HT_ ?_; (refine one_ (i := 3) (N := some 72) (bm 18 32671) rfl rfl (one_of HT_.1 (by kernel_rfl)) (by decide) (fun K hK => ?_)); (refine goes_ Tryd.func38 (by kernel_rfl) rfl #[.bool x10_34] (by rfl) rfl rfl am_ ?_); (with_reducible refine (m_way.calls x10_34 0 _ A45.1).mono ?_); rintro e w' ⟨rfl, ⟨nd, rfl⟩⟩
                 refine ⟨_, rfl, ?_⟩; (refine hK.out _ _ ⟨((hc_ HB hw285_0).trans hw285_0), ((hc_ HB hw285_1).trans hw285_1)⟩ (fun hHeld => ?_)); clear hK K; refine nv_ ?_; refine pv_ 5 HT_ ?_; refine tv_ 6 HT_ HW_ hHeld ?_; (refine one_ (i := 15) (N := some 84) (bm 18 65535) rfl rfl (one_of HT_.1 (by kernel_rfl)) (by decide) (fun K hK => ?_)); (refine goes_ Tryd.func39 (by kernel_rfl) rfl #[.slice A0 l0.length c0, .agg #[.int .i64 x58_3, .bool x10_34], .agg #[.int .i64 (wrap64 (x58_3 + 1)), .bool x12_40]] (by rfl) rfl rfl am_ ?_); (with_reducible refine (m_between.calls kj40 _ _ l0 x58_3 x10_34 (wrap64 (x58_3 + 1)) x12_40 t286 _ ?side1 ?side2 A49.1).mono ?_); ((case side1 => exact (Kd.C_below HR0.1 (hb_ HB)))); ((case side2 => exact HC0.1)); rintro e w51 ⟨rfl, hb⟩; refine ⟨_, rfl, ?_⟩; replace BK24 := bg0 (t := tg0) (bk_ BK24) hb; replace BK281 := bb_ BK281 hb; replace HB := hs_ HB hb; ((try clear hb)); (refine hK.out _ _ ⟨((hc_ HB hw285_0).trans hw285_0), ((hc_ HB hw285_1).trans hw285_1)⟩ (fun hHeld => ?_)); clear hK K; refine nv_ ?_; refine pv_ 16 HT_ ?_; refine pv_ 17 HT_ ?_; (refine done_ (done_of HT_.1 (by kernel_rfl)) ?_); (try go_wp2); (go_meet)
                 case rel => exact ⟨_, ((rd_T51 l2 x58_3).f0), (t286), (by rfl), (by rfl), H', ⟨by have := HJ4.1; have := HJ13.1; have := HK3.1; have := HK4.1; have := HJ34.1; have := HK6.1; have := HJ40.1; omega⟩, ⟨bk_ BK24⟩, ⟨bk_ BK281⟩, ⟨hb_ HB⟩⟩
                rw [if_neg c48] at H
                by_cases c52 : t284 = 1
                ·subst c52
                 (replace H : ((m_between.f kj40 l0 x58_3 x10_34 (wrap64 (x58_3 + 1)) x12_40).bind fun t287 => (m_Proves.j7 kj40 l0 l2 x58_3 x10_34 x12_40 ((rd_T51 l2 x58_3).f1) t287 (wrap64 ((l0.length : Int) - 1)) x58_3 x62_4 x66_6 false true false true false true)) = some r := by rw [if_pos rfl] at H; exact H); obtain ⟨t287, A530, H⟩ := obs_ H; replace H : (m_Proves.j7 kj40 l0 l2 x58_3 x10_34 x12_40 ((rd_T51 l2 x58_3).f1) t287 (wrap64 ((l0.length : Int) - 1)) x58_3 x62_4 x66_6 false true false true false true) = some r := H; have A53 := ak A530; clear A530; have H' := ak H; clear H; (try go_wp2); replace BK24 := bq_ BK24; replace BK281 := bq_ BK281; replace HB := ak (below_drew1 HB.1); have p285 : 0 ≤ (x58_3 : Int) := od_; have q285 : x58_3 < (l2.length : Int) := od_; obtain ⟨ad285, e285, hx285_0, hx285_1⟩ := at_T51 HR2.1 x58_3 p285 q285; have hw285_1 := hx285_1; have hw285_0 := hx285_0; (obtain rfl : ad280 = ad285 := (by injection e285)); replace hx285_0 := (hc_ HB hx285_0).trans hx285_0; replace hx285_1 := (hc_ HB hx285_1).trans hx285_1; replace p285 := eq_true p285; replace q285 := eq_true q285; (refine start_ (n := 18) (S := fun w' => w'.cell? (ad280.add ((x58_3).toNat * 2)) = some (.int .i64 ((rd_T51 l2 x58_3).f0)) ∧ w'.cell? ⟨(ad280.add ((x58_3).toNat * 2)).block, (ad280.add ((x58_3).toNat * 2)).off + 1, none⟩ = some (.int .i64 ((rd_T51 l2 x58_3).f1))) (ds := []) (bm 18 0) (by kernel_rfl) rfl rfl ⟨((hc_ HB hw285_0).trans hw285_0), ((hc_ HB hw285_1).trans hw285_1)⟩ (fun hHeld => ?_); refine with_tabW m_Proves.tab15 m_Proves.bits15 (fun HT_ HW_ => ?_)); generalize wc.drew = w54 at BK24 BK281 HB hx285_0 hx285_1 hHeld ⊢; refine pv_ 0 HT_ ?_; refine pv_ 1 HT_ ?_; refine pv_ 2 HT_ ?_; refine pv_ 4 HT_ ?_; refine pv_ 7 HT_ ?_; refine pv_ 8 HT_ ?_; refine pv_ 9 HT_ ?_; refine pv_ 10 HT_ ?_; refine pv_ 11 HT_ ?_; refine pv_ 12 HT_ ?_; refine pv_ 13 HT_ ?_; refine pv_ 14 HT_ ?_; (refine one_ (i := 3) (N := some 72) (bm 18 32671) rfl rfl (one_of HT_.1 (by kernel_rfl)) (by decide) (fun K hK => ?_)); (refine goes_ Tryd.func38 (by kernel_rfl) rfl #[.bool x10_34] (by rfl) rfl rfl am_ ?_); (with_reducible refine (m_way.calls x10_34 1 _ A45.1).mono ?_); rintro e w' ⟨rfl, ⟨nd, rfl⟩⟩
                 refine ⟨_, rfl, ?_⟩; (refine hK.out _ _ ⟨((hc_ HB hw285_0).trans hw285_0), ((hc_ HB hw285_1).trans hw285_1)⟩ (fun hHeld => ?_)); clear hK K; refine nv_ ?_; refine pv_ 5 HT_ ?_; refine tv_ 6 HT_ HW_ hHeld ?_; (refine one_ (i := 15) (N := some 84) (bm 18 65535) rfl rfl (one_of HT_.1 (by kernel_rfl)) (by decide) (fun K hK => ?_)); (refine goes_ Tryd.func39 (by kernel_rfl) rfl #[.slice A0 l0.length c0, .agg #[.int .i64 x58_3, .bool x10_34], .agg #[.int .i64 (wrap64 (x58_3 + 1)), .bool x12_40]] (by rfl) rfl rfl am_ ?_); (with_reducible refine (m_between.calls kj40 _ _ l0 x58_3 x10_34 (wrap64 (x58_3 + 1)) x12_40 t287 _ ?side1 ?side2 A53.1).mono ?_); ((case side1 => exact (Kd.C_below HR0.1 (hb_ HB)))); ((case side2 => exact HC0.1)); rintro e w55 ⟨rfl, hb⟩; refine ⟨_, rfl, ?_⟩; replace BK24 := bg0 (t := tg0) (bk_ BK24) hb; replace BK281 := bb_ BK281 hb; replace HB := hs_ HB hb; ((try clear hb)); (refine hK.out _ _ ⟨((hc_ HB hw285_0).trans hw285_0), ((hc_ HB hw285_1).trans hw285_1)⟩ (fun hHeld => ?_)); clear hK K; refine nv_ ?_; refine pv_ 16 HT_ ?_; refine pv_ 17 HT_ ?_; (refine done_ (done_of HT_.1 (by kernel_rfl)) ?_); (try go_wp2); (go_meet)
                 case rel => exact ⟨_, ((rd_T51 l2 x58_3).f1), (t287), (by rfl), (by rfl), H', ⟨by have := HJ4.1; have := HJ13.1; have := HK3.1; have := HK4.1; have := HJ34.1; have := HK6.1; have := HJ40.1; omega⟩, ⟨bk_ BK24⟩, ⟨bk_ BK281⟩, ⟨hb_ HB⟩⟩
                rw [if_neg c52] at H; (exact absurd H (by simp))
               rw [if_neg c47] at H; (exact absurd H (by simp))
              rw [if_neg c46] at H; (exact absurd H (by simp))
             clear HC44; obtain ⟨kq, x13_43, x14_43, rfl, rfl, HA, HJ43, BK24, BK281, HB⟩ := hcut
             cases kq with
             | zero => exact absurd HA.1 (by simp [m_Proves.j7])
             | succ kj43 =>
              have H := HA.1; clear HA; simp only [m_Proves.j7] at H; have HC56 := ak H; clear H; (go_upto_region 16 with (fail)); (go_cut [102] (fun v102 wc => ∃ (kq : Nat) (x102_55 : Bool), v102 = .bool x102_55 ∧ Aside0 (m_Proves.j8 kq l0 l2 x58_3 x10_34 (wrap64 ((l0.length : Int) - 1)) x58_3 x62_4 x66_6 x102_55 false true false true false true = some r) ∧ Aside0 (kq ≤ kj43) ∧ Aside0 (wc.heap[0]? = some (.cells #[.bool false, .bool true] tg0 (0, 0))) ∧ Aside0 (wc.heap[gb281]? = some (.cells #[.int .i64 ((rd_T51 l2 (ji11)).f0), .int .i64 ((rd_T51 l2 (ji11)).f1)] 51 (0, 0))) ∧ Aside0 (Below w.heap.size w wc)))
              case first =>
               have H := HC56.1; clear HC56; (by_cases c57 : x13_43 ≥ (wrap64 ((-9223372036854775808) + x14_43)))
               ·rw [if_pos c57] at H
                have c57b0 := decide_eq_true c57; clear c57; obtain ⟨t288, A580, H⟩ := obs_ H; (replace H : (if 0 ≤ (wrap64 (x58_3 + 1)) then (if (wrap64 (x58_3 + 1)) < (l2.length : Int) then (if t288 = 0 then (m_Proves.j8 kj43 l0 l2 x58_3 x10_34 (wrap64 ((l0.length : Int) - 1)) x58_3 x62_4 x66_6 (decide ((wrap64 (x13_43 - x14_43)) > ((rd_T51 l2 (wrap64 (x58_3 + 1))).f0))) false true false true false true) else (if t288 = 1 then (m_Proves.j8 kj43 l0 l2 x58_3 x10_34 (wrap64 ((l0.length : Int) - 1)) x58_3 x62_4 x66_6 (decide ((wrap64 (x13_43 - x14_43)) > ((rd_T51 l2 (wrap64 (x58_3 + 1))).f1))) false true false true false true) else (none))) else (none)) else (none)) = some r := H); have A58 := ak A580; clear A580; obtain ⟨ji59, hji59⟩ : ∃ j_ : Int, (wrap64 (x58_3 + 1)) = j_ := ⟨_, rfl⟩; (replace H : (if 0 ≤ (ji59) then (if (ji59) < (l2.length : Int) then (if t288 = 0 then (m_Proves.j8 kj43 l0 l2 x58_3 x10_34 (wrap64 ((l0.length : Int) - 1)) x58_3 x62_4 x66_6 (decide ((wrap64 (x13_43 - x14_43)) > ((rd_T51 l2 (ji59)).f0))) false true false true false true) else (if t288 = 1 then (m_Proves.j8 kj43 l0 l2 x58_3 x10_34 (wrap64 ((l0.length : Int) - 1)) x58_3 x62_4 x66_6 (decide ((wrap64 (x13_43 - x14_43)) > ((rd_T51 l2 (ji59)).f1))) false true false true false true) else (none))) else (none)) else (none)) = some r := by (rw [hji59] at H; exact H)); have hji59w : (IntKind.i64.wrap (x58_3 + 1)) = ji59 := (i64_w _).trans hji59; (by_cases c60 : 0 ≤ (ji59))
                ·rw [if_pos c60] at H
                 have c60b0 := decide_eq_true c60; clear c60; (by_cases c61 : (ji59) < (l2.length : Int))
                 ·rw [if_pos c61] at H
                  have c61b0 := decide_eq_true c61; clear c61; (by_cases c62 : t288 = 0)
                  ·subst c62
                   (replace H : (m_Proves.j8 kj43 l0 l2 x58_3 x10_34 (wrap64 ((l0.length : Int) - 1)) x58_3 x62_4 x66_6 (decide ((wrap64 (x13_43 - x14_43)) > ((rd_T51 l2 (ji59)).f0))) false true false true false true) = some r := by rw [if_pos rfl] at H; exact H); have H' := ak H; clear H; (try go_wp2); replace BK24 := bq_ BK24; replace BK281 := bq_ BK281; replace HB := ak (below_drew1 HB.1); have p289 : 0 ≤ ((ji59) : Int) := od_; have q289 : (ji59) < (l2.length : Int) := od_; obtain ⟨ad289, e289, hx289_0, hx289_1⟩ := at_T51 HR2.1 (ji59) p289 q289; have hw289_1 := hx289_1; have hw289_0 := hx289_0; (obtain rfl : ad280 = ad289 := (by injection e289)); replace hx289_0 := (hc_ HB hx289_0).trans hx289_0; replace hx289_1 := (hc_ HB hx289_1).trans hx289_1; replace p289 := eq_true p289; replace q289 := eq_true q289; (refine start_ (n := 18) (S := fun w' => w'.cell? (ad280.add (((ji59)).toNat * 2)) = some (.int .i64 ((rd_T51 l2 (ji59)).f0)) ∧ w'.cell? ⟨(ad280.add (((ji59)).toNat * 2)).block, (ad280.add (((ji59)).toNat * 2)).off + 1, none⟩ = some (.int .i64 ((rd_T51 l2 (ji59)).f1))) (ds := []) (bm 18 0) (by kernel_rfl) rfl rfl ⟨((hc_ HB hw289_0).trans hw289_0), ((hc_ HB hw289_1).trans hw289_1)⟩ (fun hHeld => ?_); refine with_tabW m_Proves.tab16 m_Proves.bits16 (fun HT_ HW_ => ?_)); generalize wc.drew = w63 at BK24 BK281 HB hx289_0 hx289_1 hHeld ⊢; refine pv_ 0 HT_ ?_; refine pv_ 1 HT_ ?_; refine pv_ 2 HT_ ?_; refine pv_ 3 HT_ ?_; refine pv_ 4 HT_ ?_; refine pv_ 5 HT_ ?_; refine pv_ 6 HT_ ?_; refine pv_ 7 HT_ ?_; refine pv_ 8 HT_ ?_; refine pv_ 9 HT_ ?_; refine pv_ 10 HT_ ?_; refine pv_ 11 HT_ ?_; refine pv_ 13 HT_ ?_; (refine one_ (i := 12) (N := some 97) (bm 18 16383) rfl rfl (one_of HT_.1 (by kernel_rfl)) (by decide) (fun K hK => ?_)); (refine goes_ Tryd.func38 (by kernel_rfl) rfl #[.bool x12_40] (by rfl) rfl rfl am_ ?_); (with_reducible refine (m_way.calls x12_40 0 _ A58.1).mono ?_); rintro e w' ⟨rfl, ⟨nd, rfl⟩⟩; refine ⟨_, rfl, ?_⟩; (refine hK.out _ _ ⟨((hc_ HB hw289_0).trans hw289_0), ((hc_ HB hw289_1).trans hw289_1)⟩ (fun hHeld => ?_)); clear hK K; refine nv_ ?_; refine pv_ 14 HT_ ?_; refine tv_ 15 HT_ HW_ hHeld ?_; refine pv_ 16 HT_ ?_; refine pv_ 17 HT_ ?_; (refine done_ (done_of HT_.1 (by kernel_rfl)) ?_)
                   (try go_wp2); (go_meet)
                   case rel => exact ⟨_, (decide ((wrap64 (x13_43 - x14_43)) > ((rd_T51 l2 (ji59)).f0))), (by rfl), H', ⟨by have := HJ4.1; have := HJ13.1; have := HK3.1; have := HK4.1; have := HJ34.1; have := HK6.1; have := HJ40.1; have := HJ43.1; omega⟩, ⟨bk_ BK24⟩, ⟨bk_ BK281⟩, ⟨hb_ HB⟩⟩
                  rw [if_neg c62] at H
                  by_cases c64 : t288 = 1
                  ·subst c64
                   (replace H : (m_Proves.j8 kj43 l0 l2 x58_3 x10_34 (wrap64 ((l0.length : Int) - 1)) x58_3 x62_4 x66_6 (decide ((wrap64 (x13_43 - x14_43)) > ((rd_T51 l2 (ji59)).f1))) false true false true false true) = some r := by rw [if_pos rfl] at H; exact H); have H' := ak H; clear H; (try go_wp2); replace BK24 := bq_ BK24; replace BK281 := bq_ BK281; replace HB := ak (below_drew1 HB.1); have p289 : 0 ≤ ((ji59) : Int) := od_; have q289 : (ji59) < (l2.length : Int) := od_; obtain ⟨ad289, e289, hx289_0, hx289_1⟩ := at_T51 HR2.1 (ji59) p289 q289; have hw289_1 := hx289_1; have hw289_0 := hx289_0; (obtain rfl : ad280 = ad289 := (by injection e289)); replace hx289_0 := (hc_ HB hx289_0).trans hx289_0; replace hx289_1 := (hc_ HB hx289_1).trans hx289_1; replace p289 := eq_true p289; replace q289 := eq_true q289; (refine start_ (n := 18) (S := fun w' => w'.cell? (ad280.add (((ji59)).toNat * 2)) = some (.int .i64 ((rd_T51 l2 (ji59)).f0)) ∧ w'.cell? ⟨(ad280.add (((ji59)).toNat * 2)).block, (ad280.add (((ji59)).toNat * 2)).off + 1, none⟩ = some (.int .i64 ((rd_T51 l2 (ji59)).f1))) (ds := []) (bm 18 0) (by kernel_rfl) rfl rfl ⟨((hc_ HB hw289_0).trans hw289_0), ((hc_ HB hw289_1).trans hw289_1)⟩ (fun hHeld => ?_); refine with_tabW m_Proves.tab16 m_Proves.bits16 (fun HT_ HW_ => ?_)); generalize wc.drew = w65 at BK24 BK281 HB hx289_0 hx289_1 hHeld ⊢; refine pv_ 0 HT_ ?_; refine pv_ 1 HT_ ?_; refine pv_ 2 HT_ ?_; refine pv_ 3 HT_ ?_; refine pv_ 4 HT_ ?_; refine pv_ 5 HT_ ?_; refine pv_ 6 HT_ ?_; refine pv_ 7 HT_ ?_; refine pv_ 8 HT_ ?_; refine pv_ 9 HT_ ?_; refine pv_ 10 HT_ ?_; refine pv_ 11 HT_ ?_; refine pv_ 13 HT_ ?_; (refine one_ (i := 12) (N := some 97) (bm 18 16383) rfl rfl (one_of HT_.1 (by kernel_rfl)) (by decide) (fun K hK => ?_)); (refine goes_ Tryd.func38 (by kernel_rfl) rfl #[.bool x12_40] (by rfl) rfl rfl am_ ?_); (with_reducible refine (m_way.calls x12_40 1 _ A58.1).mono ?_); rintro e w' ⟨rfl, ⟨nd, rfl⟩⟩; refine ⟨_, rfl, ?_⟩; (refine hK.out _ _ ⟨((hc_ HB hw289_0).trans hw289_0), ((hc_ HB hw289_1).trans hw289_1)⟩ (fun hHeld => ?_)); clear hK K; refine nv_ ?_; refine pv_ 14 HT_ ?_; refine tv_ 15 HT_ HW_ hHeld ?_; refine pv_ 16 HT_ ?_; refine pv_ 17 HT_ ?_; (refine done_ (done_of HT_.1 (by kernel_rfl)) ?_)
                   (try go_wp2); (go_meet)
                   case rel => exact ⟨_, (decide ((wrap64 (x13_43 - x14_43)) > ((rd_T51 l2 (ji59)).f1))), (by rfl), H', ⟨by have := HJ4.1; have := HJ13.1; have := HK3.1; have := HK4.1; have := HJ34.1; have := HK6.1; have := HJ40.1; have := HJ43.1; omega⟩, ⟨bk_ BK24⟩, ⟨bk_ BK281⟩, ⟨hb_ HB⟩⟩
                  rw [if_neg c64] at H; (exact absurd H (by simp))
                 rw [if_neg c61] at H; (exact absurd H (by simp))
                rw [if_neg c60] at H; (exact absurd H (by simp))
               rw [if_neg c57] at H
               have c57b0 := decide_eq_false c57; clear c57; have H' := ak H; clear H; (try go_wp2); replace BK24 := bq_ BK24; replace BK281 := bq_ BK281; replace HB := ak (below_drew1 HB.1); (refine start_ (n := 18) (S := fun w' => True) (ds := []) (bm 18 0) (by kernel_rfl) rfl rfl trivial (fun hHeld => ?_); refine with_tabW m_Proves.tab16 m_Proves.bits16 (fun HT_ HW_ => ?_)); generalize wc.drew = w66 at BK24 BK281 HB hHeld ⊢; refine pv_ 0 HT_ ?_; refine pv_ 1 HT_ ?_; refine pv_ 2 HT_ ?_; refine pv_ 3 HT_ ?_; refine pv_ 4 HT_ ?_; refine pu_ 5 90 (bm 18 63) HT_ ?_; refine pu_ 6 91 (bm 18 127) HT_ ?_; refine pu_ 7 92 (bm 18 255) HT_ ?_; refine pu_ 8 93 (bm 18 511) HT_ ?_; refine pu_ 9 94 (bm 18 1023) HT_ ?_; refine pu_ 10 95 (bm 18 2047) HT_ ?_; refine pu_ 11 96 (bm 18 4095) HT_ ?_; refine pu_ 12 97 (bm 18 8191) HT_ ?_; refine pu_ 13 98 (bm 18 16383) HT_ ?_; refine pu_ 14 99 (bm 18 32767) HT_ ?_; refine pu_ 15 100 (bm 18 65535) HT_ ?_; refine pu_ 16 101 (bm 18 131071) HT_ ?_; refine pv_ 17 HT_ ?_; (refine done_ (done_of HT_.1 (by kernel_rfl)) ?_); (try go_wp2); (go_meet)
               case rel => exact ⟨_, (false), (by rfl), H', ⟨by have := HJ4.1; have := HJ13.1; have := HK3.1; have := HK4.1; have := HJ34.1; have := HK6.1; have := HJ40.1; have := HJ43.1; omega⟩, ⟨bk_ BK24⟩, ⟨bk_ BK281⟩, ⟨hb_ HB⟩⟩
              clear HC56; obtain ⟨kq, x102_55, rfl, HA, HJ55, BK24, BK281, HB⟩ := hcut
              cases kq with
              | zero => exact absurd HA.1 (by simp [m_Proves.j8])
              | succ kj55 =>
               have H := HA.1; clear HA; simp only [m_Proves.j8] at H; (by_cases c67 : x102_55 = true)
               ·subst c67; (replace H : (some false) = some r := by rw [if_pos rfl] at H; exact H); obtain rfl := Option.some.inj H; (go_wp2); (go_ret); (exact ⟨by rfl, hb_ HB⟩)
               replace c67 := Bool.eq_false_iff.mpr c67
               subst c67; (replace H : (m_Proves.l2 kj55 l0 l2 x58_3 x10_34 (wrap64 ((l0.length : Int) - 1)) x58_3 x62_4 (wrap64 (x66_6 + 1)) false true false true false true) = some r := by rw [if_neg (show ¬ (false = true) by decide)] at H; exact H); have H' := ak H; clear H; (go_wp2); (go_roundg kj55)
               case measure => have := HJ4.1; have := HJ13.1; have := HK3.1; have := HK4.1; have := HJ34.1; have := HK6.1; have := HJ40.1; have := HJ43.1; have := HJ55.1; omega
               case rel => exact ⟨(wrap64 (x66_6 + 1)), (by rfl), H', ⟨by have := HJ4.1; have := HJ13.1; have := HK3.1; have := HK4.1; have := HJ34.1; have := HK6.1; have := HJ40.1; have := HJ43.1; have := HJ55.1; omega⟩, ⟨bk_ BK24⟩, ⟨bk_ BK281⟩, ⟨hb_ HB⟩⟩
           rw [if_neg c40] at H
           have c40b0 := decide_eq_false c40; clear c40; have H' := ak H; clear H; (go_wp2); (go_roundg k6)
           case measure => have := HJ4.1; have := HJ13.1; have := HK3.1; have := HK4.1; have := HJ34.1; have := HK6.1; omega
           case rel => exact ⟨(wrap64 (x62_4 + 1)), (by rfl), H', ⟨by have := HJ4.1; have := HJ13.1; have := HK3.1; have := HK4.1; have := HJ34.1; have := HK6.1; omega⟩, ⟨bk_ BK24⟩, ⟨bk_ BK281⟩, ⟨hb_ HB⟩⟩
        rw [if_neg c34] at H
        have c34b0 := decide_eq_false c34; clear c34; have H' := ak H; clear H; (go_wp2); (go_roundg k4)
        case measure => have := HJ4.1; have := HJ13.1; have := HK3.1; have := HK4.1; omega
        case rel => exact ⟨(wrap64 (x58_3 + 1)), (by rfl), H', ⟨by have := HJ4.1; have := HJ13.1; have := HK3.1; have := HK4.1; omega⟩, ⟨bk_ BK24⟩, ⟨bk_ BK281⟩, ⟨hb_ HB⟩⟩
      rw [if_neg c31] at H; have c31b0 := decide_eq_false c31; clear c31; obtain rfl := Option.some.inj H; (go_wp2); (go_ret); (exact ⟨by rfl, hb_ HB⟩)
   rw [if_neg c13] at H; (exact absurd H (by simp))
  rw [if_neg c12] at H; (exact absurd H (by simp))

end Go.Proofs.YtglkcinmohjblaaDoor.XA
