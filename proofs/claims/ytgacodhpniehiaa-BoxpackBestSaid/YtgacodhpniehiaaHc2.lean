import Derived.Test.YtgacodhpniehiaaXAx0
import Derived.Test.YtgacodhpniehiaaXAx9
import Derived.Test.YtgacodhpniehiaaHa
import Derived.Test.YtgacodhpniehiaaHc1
import Derived.Test.YtgacodhpniehiaaFlat
namespace Go.Proofs.Ytgacodhpniehiaa.XA
open Go.RowKit Go.Proofs.Ytgacodhpniehiaa.Opens Go.Proofs.Ytgacodhpniehiaa.Flat Go.Proofs.YtgacodhpniehiaaW.PrintWords Go.Proofs.YtgacodhpniehiaaW.PrintLast Go.Proofs.YtgacodhpniehiaaW.PrintMore
attribute [local go_sem] max2_int min2_int max_two min_two max_three min_three max_four min_four cell_some cell_same
set_option linter.unusedVariables false
set_option linter.unusedSimpArgs false

def bv_.T1 : Bool × List (List Nat × List Nat) := (true, [([], []), ([], []), ([], []), ([1, 2], [1, 2]), ([0, 3], [0, 3]), ([4], [4]), ([], []), ([], []), ([], []), ([7, 8, 3], [7, 8]), ([6, 9], [6, 9]), ([10], [10]), ([5, 11], [5, 11]), ([], []), ([12, 13], [12, 13])])
def bv_.B1 : List Nat := [0, 0, 0, 6, 15, 31, 0, 0, 0, 398, 974, 1998, 4095, 0, 16383]
theorem bv_.tab1 : rtab .any (opsOf Try.f49 1) = bv_.T1 := by kernel_rfl
theorem bv_.bits1 : waitsOk bv_.T1.2 bv_.B1 = true := by kernel_rfl
def bv_.T4 : Bool × List (List Nat × List Nat) := (true, [([], []), ([], []), ([], []), ([2], [2]), ([3], [3]), ([], []), ([4, 5], [4, 5]), ([], []), ([7], [7]), ([], []), ([9], [9]), ([1, 6, 8, 10], [1, 6, 8, 10]), ([11], [11]), ([0, 12], [0, 12]), ([13, 13, 0, 1, 2, 3, 4, 5, 6, 7, 8, 9, 10, 11, 12, 13], [13])])
def bv_.B4 : List Nat := [0, 0, 0, 4, 12, 0, 60, 0, 128, 0, 512, 2046, 4094, 8191, 16383]
theorem bv_.tab4 : rtab .any (opsOf Try.f49 4) = bv_.T4 := by kernel_rfl
theorem bv_.bits4 : waitsOk bv_.T4.2 bv_.B4 = true := by kernel_rfl
def bv_.T8 : Bool × List (List Nat × List Nat) := (true, [([], []), ([0], [0]), ([1], [1]), ([], []), ([], []), ([4], [4]), ([3, 5], [3, 5]), ([2, 6], [2, 6]), ([0, 0, 1, 2, 3, 4, 5, 6, 7], [0]), ([8, 7, 0, 1, 2, 3, 4, 5, 6, 7], [7, 8])])
def bv_.B8 : List Nat := [0, 1, 3, 0, 0, 16, 56, 127, 255, 511]
theorem bv_.tab8 : rtab .any (opsOf Try.f49 8) = bv_.T8 := by kernel_rfl
theorem bv_.bits8 : waitsOk bv_.T8.2 bv_.B8 = true := by kernel_rfl
/-- What a call of the closure that puts a plan does: the plan grows from L to L'. -/
def Puts (w1 : World) (g16 g24 g32 gU : Nat) (L : List S61) (fr s : S23) (L' : List S61) : Prop := ∀ X, PInv w1 g32 L X → Calls Try.prog 46 #[.agg #[.int .i64 fr.f0, .int .i64 fr.f1, .int .i64 fr.f2], .agg #[.int .i64 s.f0, .int .i64 s.f1, .int .i64 s.f2], .pointer (some ⟨g16, 0, none⟩), .pointer (some ⟨g24, 0, none⟩), .pointer (some ⟨g32, 0, none⟩), .pointer (some ⟨gU, 0, none⟩)] X fun e Y => e = .returned (.tuple #[]) ∧ PInv w1 g32 L' Y ∧ Own w1.heap.size X Y
set_option maxHeartbeats 8000000 in
set_option maxRecDepth 100000 in
theorem best_visit {w0 w1 : World} {g16 g24 g32 gU : Nat} {A16_0 : Option Addr} {c16_0 : Nat} {s16_0 : List Int} {s24_0 s24_1 s24_2 s24_3 : Int} {A24_4 : Option Addr} {c24_4 : Nat} {s24_4 : List S56} (hc : PCtx w0 w1 g16 g24 g32 gU A16_0 c16_0 s16_0 s24_0 s24_1 s24_2 s24_3 A24_4 c24_4 s24_4) (gB gF : Nat) (hgB : w1.heap.size ≤ gB) (hgF : w1.heap.size ≤ gF) (a0 a1 a2_0 a2_1 a2_2 a3_0 a3_1 a3_2 b f0 f1 f2 : Int) (L L2 : List S61) (w : World) (hI : PInv w1 g32 L w) (bB : w.heap[gB]? = some (.cells #[.int .i64 b] 2 (0, 0))) (bF : w.heap[gF]? = some (.cells #[.int .i64 f0, .int .i64 f1, .int .i64 f2] 64 (0, 0))) (hax : a0 = 0 ∨ a0 = 1 ∨ a0 = 2) (h1 : ixOk s24_0 s24_1 s16_0 ⟨a2_0, a2_1, a2_2⟩ = true) (h2 : ixOk s24_0 s24_1 s16_0 ⟨a3_0, a3_1, a3_2⟩ = true) (hL : L.length < 100000)
    (hy : both s24_0 s24_1 s16_0 ⟨a0, a1, ⟨a2_0, a2_1, a2_2⟩, ⟨a3_0, a3_1, a3_2⟩⟩ = b → ∃ L1, Puts w1 g16 g24 g32 gU (L ++ [cutN ⟨f0, f1, f2⟩ s24_3 ⟨a0, a1, ⟨a2_0, a2_1, a2_2⟩, ⟨a3_0, a3_1, a3_2⟩⟩ L.length]) ⟨f0, f1, f2⟩ ⟨a2_0, a2_1, a2_2⟩ L1 ∧ L.length < L1.length ∧ L1.length < 100000 ∧ Puts w1 g16 g24 g32 gU (setR L1 L.length (L1.length : Int)) (behindS ⟨f0, f1, f2⟩ s24_3 ⟨a0, a1, ⟨a2_0, a2_1, a2_2⟩, ⟨a3_0, a3_1, a3_2⟩⟩) ⟨a3_0, a3_1, a3_2⟩ L2) :
    Calls Try.prog 49 #[.int .i64 a0, .int .i64 a1, .agg #[.int .i64 a2_0, .int .i64 a2_1, .int .i64 a2_2], .agg #[.int .i64 a3_0, .int .i64 a3_1, .int .i64 a3_2], .pointer (some ⟨g16, 0, none⟩), .pointer (some ⟨g24, 0, none⟩), .pointer (some ⟨gB, 0, none⟩), .pointer (some ⟨g32, 0, none⟩), .pointer (some ⟨gF, 0, none⟩), .pointer (some ⟨gU, 0, none⟩)] w fun e w' => (e = .returned (.bool false) ∧ ¬ both s24_0 s24_1 s16_0 ⟨a0, a1, ⟨a2_0, a2_1, a2_2⟩, ⟨a3_0, a3_1, a3_2⟩⟩ = b ∧ Below w.heap.size w w') ∨ (e = .returned (.bool true) ∧ both s24_0 s24_1 s16_0 ⟨a0, a1, ⟨a2_0, a2_1, a2_2⟩, ⟨a3_0, a3_1, a3_2⟩⟩ = b ∧ PInv w1 g32 L2 w' ∧ Own w1.heap.size w w') := by
  have hu64 := Try.underlying64
  have hu33 := Try.underlying33
  have hu61 := Try.underlying61
  obtain ⟨A56_0, c56_0, bL, rL⟩ := hI.pl
  have BKT := ak (hI.get hc hc.bT (by decide))
  have BKP := ak (hI.get hc hc.bP (by decide))
  have BKU := ak (hI.get hc hc.bU (by decide))
  have BKB := ak bB
  have BKL := ak bL
  have BKF := ak bF
  clear bB bL bF
  have HRT := ak (Kd.C_below hc.rT (hI.below0 hc))
  have HCT := ak hc.cT
  have HRI := ak (Kd.C_below hc.rI (hI.below0 hc))
  have HCI := ak hc.cI
  have HB := ak (Below.refl w.heap.size w)
  obtain ⟨t168, et168⟩ : ∃ t, t = ixS s24_0 s24_1 ⟨a2_0, a2_1, a2_2⟩ := ⟨_, rfl⟩
  obtain ⟨t170, et170⟩ : ∃ t, t = ixS s24_0 s24_1 ⟨a3_0, a3_1, a3_2⟩ := ⟨_, rfl⟩
  have A10 : Aside0 (boxpack_Problem_index.f s24_0 s24_1 s24_2 s24_3 s24_4 a2_0 a2_1 a2_2 = some t168) := ⟨by rw [et168]; rfl⟩
  have A13 : Aside0 (boxpack_Problem_index.f s24_0 s24_1 s24_2 s24_3 s24_4 a3_0 a3_1 a3_2 = some t170) := ⟨by rw [et170]; rfl⟩
  have hbo : both s24_0 s24_1 s16_0 ⟨a0, a1, ⟨a2_0, a2_1, a2_2⟩, ⟨a3_0, a3_1, a3_2⟩⟩ = wrap64 (rd s16_0 t168 + rd s16_0 t170) := by rw [et168, et170]; rfl
  rw [hbo] at hy ⊢
  have p169 : 0 ≤ t168 ∧ t168 < (s16_0.length : Int) := by simpa [ixOk, ← et168] using h1
  have p171 : 0 ≤ t170 ∧ t170 < (s16_0.length : Int) := by simpa [ixOk, ← et170] using h2
  clear h1 h2 hbo et168 et170
  obtain ⟨p169, q169⟩ := p169
  obtain ⟨p171, q171⟩ := p171
  (go_enter Try.func49, Try.ntmps49); (try go_wp2_with (first | ((with_reducible refine gate_dst (N := 12) rfl ?_); refine bx_ 12 #[.int .i64 a2_0, .int .i64 a2_1, .int .i64 a2_2] 64 ?_; intro gb166 hg w18 hbox hb; have BK166 := ak (hbox); have GW166 := gw_ HB hg; have GE166 := gw_ HB hg; replace HB := hs_ HB hb; have NB32_166 := nl_ BKT hg; have NB166_32 := nr_ BKT hg; replace BKT := bb_ BKT hb; replace BKU := bb_ BKU hb; have NB40_166 := nl_ BKP hg; have NB166_40 := nr_ BKP hg; replace BKP := bb_ BKP hb; have NB48_166 := nl_ BKB hg; have NB166_48 := nr_ BKB hg; replace BKB := bb_ BKB hb; have NB56_166 := nl_ BKL hg; have NB166_56 := nr_ BKL hg; replace BKL := bb_ BKL hb; have NB64_166 := nl_ BKF hg; have NB166_64 := nr_ BKF hg; replace BKF := bb_ BKF hb; clear hb hbox hg) | ((with_reducible refine gate_dst (N := 13) rfl ?_); refine bx_ 13 #[.int .i64 a3_0, .int .i64 a3_1, .int .i64 a3_2] 64 ?_; intro gb167 hg w19 hbox hb; have BK167 := ak (hbox); have GW167 := gw_ HB hg; have GE167 := gw_ HB hg; replace HB := hs_ HB hb; have NB32_167 := nl_ BKT hg; have NB167_32 := nr_ BKT hg; replace BKT := bb_ BKT hb; replace BKU := bb_ BKU hb; have NB40_167 := nl_ BKP hg; have NB167_40 := nr_ BKP hg; replace BKP := bb_ BKP hb; have NB48_167 := nl_ BKB hg; have NB167_48 := nr_ BKB hg; replace BKB := bb_ BKB hb; have NB56_167 := nl_ BKL hg; have NB167_56 := nr_ BKL hg; replace BKL := bb_ BKL hb; have NB64_167 := nl_ BKF hg; have NB167_64 := nr_ BKF hg; replace BKF := bb_ BKF hb; have NB166_167 := nl_ BK166 hg; have NB167_166 := nr_ BK166 hg; replace BK166 := bb_ BK166 hb; clear hb hbox hg))); replace BKT := ak (blk_drew BKT.1); replace BKU := ak (blk_drew BKU.1); replace BKP := ak (blk_drew BKP.1); replace BKB := ak (blk_drew BKB.1); replace BKL := ak (blk_drew BKL.1); replace BKF := ak (blk_drew BKF.1); replace BK166 := ak (blk_drew BK166.1); replace BK167 := ak (blk_drew BK167.1); replace HB := ak (below_drew1 HB.1); obtain ⟨ad169, e169, hx169_0⟩ := Kd.at_int HRT.1 t168 p169 q169; have hw169_0 := hx169_0; (cases e169); replace hx169_0 := (hc_ HB hx169_0).trans hx169_0
  replace p169 := p169; obtain ⟨ad171, e171, hx171_0⟩ := Kd.at_int HRT.1 t170 p171 q171; have hw171_0 := hx171_0; (obtain rfl : ad169 = ad171 := (by injection e171)); replace hx171_0 := (hc_ HB hx171_0).trans hx171_0; replace p169 := eq_true p169; replace q169 := eq_true q169; replace p171 := eq_true p171; replace q171 := eq_true q171; (refine start_ (n := 15) (S := fun w' => w'.cell? ⟨g16, 0, none⟩ = some (.slice (some ad169) s16_0.length c16_0) ∧ w'.cell? ⟨g24, 0, none⟩ = some (.int .i64 s24_0) ∧ w'.cell? ⟨g24, 1, none⟩ = some (.int .i64 s24_1) ∧ w'.cell? ⟨g24, 2, none⟩ = some (.int .i64 s24_2) ∧ w'.cell? ⟨g24, 3, none⟩ = some (.int .i64 s24_3) ∧ w'.cell? ⟨g24, 4, none⟩ = some (.slice A24_4 s24_4.length c24_4) ∧ w'.cell? ⟨gb166, 0, none⟩ = some (.int .i64 a2_0) ∧ w'.cell? ⟨gb166, 1, none⟩ = some (.int .i64 a2_1) ∧ w'.cell? ⟨gb166, 2, none⟩ = some (.int .i64 a2_2) ∧ w'.cell? ⟨gb167, 0, none⟩ = some (.int .i64 a3_0) ∧ w'.cell? ⟨gb167, 1, none⟩ = some (.int .i64 a3_1) ∧ w'.cell? ⟨gb167, 2, none⟩ = some (.int .i64 a3_2) ∧ w'.cell? ⟨gB, 0, none⟩ = some (.int .i64 b) ∧ w'.cell? (ad169.add (t168).toNat) = some (.int .i64 (rd s16_0 t168)) ∧ w'.cell? (ad169.add (t170).toNat) = some (.int .i64 (rd s16_0 t170))) (ds := []) (bm 15 0) (by kernel_rfl) rfl rfl ⟨bc_ BKT 0, bc_ BKP 0, bc_ BKP 1, bc_ BKP 2, bc_ BKP 3, bc_ BKP 4, bc_ BK166 0, bc_ BK166 1, bc_ BK166 2, bc_ BK167 0, bc_ BK167 1, bc_ BK167 2, bc_ BKB 0, ((hc_ HB hw169_0).trans hw169_0), ((hc_ HB hw171_0).trans hw171_0)⟩ (fun hHeld => ?_); refine with_tabW bv_.tab1 bv_.bits1 (fun HT_ HW_ => ?_)); generalize w19.drew = w20 at BKU BKT BKP BKB BKL BKF BK166 BK167 HB hx169_0 hx171_0 hHeld ⊢; refine tv_ 0 HT_ HW_ hHeld ?_; refine tv_ 1 HT_ HW_ hHeld ?_; refine tv_ 2 HT_ HW_ hHeld ?_; refine tv_ 6 HT_ HW_ hHeld ?_; refine tv_ 7 HT_ HW_ hHeld ?_; refine tv_ 8 HT_ HW_ hHeld ?_; refine tv_ 13 HT_ HW_ hHeld ?_; (refine one_ (i := 3) (N := some 20) (bm 15 8655) rfl rfl (one_of HT_.1 (by kernel_rfl)) (by decide) (fun K hK => ?_)); (refine goes_ Try.func47 (by kernel_rfl) rfl #[.agg #[.int .i64 s24_0, .int .i64 s24_1, .int .i64 s24_2, .int .i64 s24_3, .slice A24_4 s24_4.length c24_4], .agg #[.int .i64 a2_0, .int .i64 a2_1, .int .i64 a2_2]] (by rfl) rfl rfl am_ ?_)
  (with_reducible refine (boxpack_Problem_index.calls s24_0 s24_1 s24_2 s24_3 _ _ s24_4 a2_0 a2_1 a2_2 t168 _ ?side1 ?side2 A10.1).mono ?_); ((case side1 => exact (Kd.C_below HRI.1 HB.1))); ((case side2 => exact HCI.1)); rintro e w21 ⟨rfl, hb⟩; refine ⟨_, rfl, ?_⟩; replace BKT := bb_ BKT hb; replace BKU := bb_ BKU hb; replace BKP := bb_ BKP hb; replace BKB := bb_ BKB hb; replace BKL := bb_ BKL hb; replace BKF := bb_ BKF hb; replace BK166 := bb_ BK166 hb; replace BK167 := bb_ BK167 hb; replace HB := hs_ HB hb; ((try clear hb)); (refine hK.out _ _ ⟨bc_ BKT 0, bc_ BKP 0, bc_ BKP 1, bc_ BKP 2, bc_ BKP 3, bc_ BKP 4, bc_ BK166 0, bc_ BK166 1, bc_ BK166 2, bc_ BK167 0, bc_ BK167 1, bc_ BK167 2, bc_ BKB 0, ((hc_ HB hw169_0).trans hw169_0), ((hc_ HB hw171_0).trans hw171_0)⟩ (fun hHeld => ?_)); clear hK K; refine nv_ ?_; refine pv_ 4 HT_ ?_; refine tv_ 5 HT_ HW_ hHeld ?_; (refine one_ (i := 9) (N := some 26) (bm 15 9215) rfl rfl (one_of HT_.1 (by kernel_rfl)) (by decide) (fun K hK => ?_)); (refine goes_ Try.func47 (by kernel_rfl) rfl #[.agg #[.int .i64 s24_0, .int .i64 s24_1, .int .i64 s24_2, .int .i64 s24_3, .slice A24_4 s24_4.length c24_4], .agg #[.int .i64 a3_0, .int .i64 a3_1, .int .i64 a3_2]] (by rfl) rfl rfl am_ ?_); (with_reducible refine (boxpack_Problem_index.calls s24_0 s24_1 s24_2 s24_3 _ _ s24_4 a3_0 a3_1 a3_2 t170 _ ?side1 ?side2 A13.1).mono ?_); ((case side1 => exact (Kd.C_below HRI.1 HB.1))); ((case side2 => exact HCI.1)); rintro e w22 ⟨rfl, hb⟩; refine ⟨_, rfl, ?_⟩; replace BKT := bb_ BKT hb; replace BKU := bb_ BKU hb; replace BKP := bb_ BKP hb; replace BKB := bb_ BKB hb; replace BKL := bb_ BKL hb; replace BKF := bb_ BKF hb; replace BK166 := bb_ BK166 hb; replace BK167 := bb_ BK167 hb; replace HB := hs_ HB hb; ((try clear hb)); (refine hK.out _ _ ⟨bc_ BKT 0, bc_ BKP 0, bc_ BKP 1, bc_ BKP 2, bc_ BKP 3, bc_ BKP 4, bc_ BK166 0, bc_ BK166 1, bc_ BK166 2, bc_ BK167 0, bc_ BK167 1, bc_ BK167 2, bc_ BKB 0, ((hc_ HB hw169_0).trans hw169_0), ((hc_ HB hw171_0).trans hw171_0)⟩ (fun hHeld => ?_))
  clear hK K; refine nv_ ?_; refine pv_ 10 HT_ ?_; refine tv_ 11 HT_ HW_ hHeld ?_; refine pv_ 12 HT_ ?_; refine pv_ 14 HT_ ?_; (refine done_ (done_of HT_.1 (by kernel_rfl)) ?_);
  by_cases hbb : wrap64 (rd s16_0 t168 + rd s16_0 t170) = b
  ·
    have c16b1 := bne_eq_false_iff_eq.mpr hbb
    obtain ⟨L1, hp1, hl1, hl2, hp2⟩ := hy hbb
    clear hy
    obtain ⟨hcz25_0, hfz25_0⟩ := cz1_ BKL
    (try go_wp2)
    clear hcz25_0 hfz25_0
    replace BKU := ak (blk_drew BKU.1)
    replace BKT := ak (blk_drew BKT.1)
    replace BKP := ak (blk_drew BKP.1)
    replace BKB := ak (blk_drew BKB.1)
    replace BKL := ak (blk_drew BKL.1)
    replace BKF := ak (blk_drew BKF.1)
    replace BK166 := ak (blk_drew BK166.1)
    replace BK167 := ak (blk_drew BK167.1)
    replace HB := ak (below_drew1 HB.1)
    (refine start_ (n := 15) (S := (fun w' => w'.cell? ⟨g32, 0, none⟩ = some (.slice A56_0 L.length c56_0) ∧ w'.cell? ⟨gF, 0, none⟩ = some (.int .i64 f0) ∧ w'.cell? ⟨gF, 1, none⟩ = some (.int .i64 f1) ∧ w'.cell? ⟨gF, 2, none⟩ = some (.int .i64 f2) ∧ w'.cell? ⟨g24, 0, none⟩ = some (.int .i64 s24_0) ∧ w'.cell? ⟨g24, 1, none⟩ = some (.int .i64 s24_1) ∧ w'.cell? ⟨g24, 2, none⟩ = some (.int .i64 s24_2) ∧ w'.cell? ⟨g24, 3, none⟩ = some (.int .i64 s24_3) ∧ w'.cell? ⟨g24, 4, none⟩ = some (.slice A24_4 s24_4.length c24_4))) (ds := [14]) (bm 15 0) (by kernel_rfl) rfl rfl ⟨bc_ BKL 0, bc_ BKF 0, bc_ BKF 1, bc_ BKF 2, bc_ BKP 0, bc_ BKP 1, bc_ BKP 2, bc_ BKP 3, bc_ BKP 4⟩ (fun hHeld => ?_)); refine with_tabW bv_.tab4 bv_.bits4 (fun HT_ HW_ => ?_)
    generalize w22.drew = w26 at BKU BKT BKP BKB BKL BKF BK166 BK167 HB hHeld ⊢
    rcases hax with rfl | rfl | rfl
    · refine pv_ 1 HT_ ?_; refine pv_ 2 HT_ ?_; refine pv_ 3 HT_ ?_; refine pv_ 5 HT_ ?_; refine pv_ 7 HT_ ?_; refine pv_ 9 HT_ ?_; refine pv_ 10 HT_ ?_; refine tv_ 0 HT_ HW_ hHeld ?_; refine tv_ 4 HT_ HW_ hHeld ?_; refine pv_ 6 HT_ ?_; refine tv_ 8 HT_ HW_ hHeld ?_; refine pv_ 11 HT_ ?_
      (refine one_ (i := 12) (N := some 46) (bm 15 8191) rfl rfl (one_of HT_.1 (by kernel_rfl)) (by decide) (fun K hK => ?_))
      (refine value_ (w1 := ?_) (v := ?_) (by rfl) rfl ?_ ?_)
      rotate_left 2
      · go_simp; constructor; · rfl
        rfl
      (refine hK.out _ _ ⟨(blk_cell (blk_alloc BKL.1 _) 0).trans rfl, (blk_cell (blk_alloc BKF.1 _) 0).trans rfl, (blk_cell (blk_alloc BKF.1 _) 1).trans rfl, (blk_cell (blk_alloc BKF.1 _) 2).trans rfl, (blk_cell (blk_alloc BKP.1 _) 0).trans rfl, (blk_cell (blk_alloc BKP.1 _) 1).trans rfl, (blk_cell (blk_alloc BKP.1 _) 2).trans rfl, (blk_cell (blk_alloc BKP.1 _) 3).trans rfl, (blk_cell (blk_alloc BKP.1 _) 4).trans rfl⟩ (fun hHeld => ?_))
      clear hK K; refine nv_ ?_
      clear hHeld
      (refine one_ (i := 13) (N := some 47) (bm 15 16383) rfl rfl (one_of HT_.1 (by kernel_rfl)) (by decide) (fun K hK => ?_))
      have rL26 : Kd.R k61 61 w26 w1.heap.size (fun _ => True) (.slice A56_0 L.length c56_0) L := Kd.R_below rL HB.1
      refine Kd.R_append_step k61 (w0 := w26) w1.heap.size (by rfl) (.tmp 34) (.tmp 46) 27 61 (.agg #[(.int .i64 0), (.string ⟨#[]⟩), (.int .i64 0), (.int .i64 0), (.int .i64 0), (.int .i64 0), (.int .i64 0)]) 64 rfl Try.underlying27 info61 rfl (by decide) (by omega) (.slice A56_0 L.length c56_0) L (⟨3, ⟨#[]⟩, 0, wrap64 (f0 + a1), s24_3, wrap64 ((L.length : Int) + 1), 0⟩ : S61) [.int .i64 3, .string ⟨#[]⟩, .int .i64 0, .int .i64 (wrap64 (f0 + a1)), .int .i64 s24_3, .int .i64 (wrap64 ((L.length : Int) + 1)), .int .i64 0] (fun _ => True) (fun _ => False) rfl rfl ?aP (fun _ hk => hk.elim) ?aF ?aO ?aB ?aS ?aL ?_
      case aP => exact k61_mkM _ _ _ (⟨3, ⟨#[]⟩, 0, wrap64 (f0 + a1), s24_3, wrap64 ((L.length : Int) + 1), 0⟩ : S61)
      case aF => exact fun _ _ => trivial
      case aO => exact rL26
      case aB => exact Below.refl _ _
      case aS => exact Nat.le_trans hI.size (below_size HB.1)
      case aL => omega
      intro v27 w27 ho hb hg hat
      clear hb hat
      obtain ⟨A27, c27, rfl⟩ := Kd.R_slice ho
      replace BKU := ak (blk_grown BKU.1 hg (Kd.R_ne rL26 BKU.1 (by decide)))
      replace BKT := ak (blk_grown BKT.1 hg (Kd.R_ne rL26 BKT.1 (by decide)))
      replace BKP := ak (blk_grown BKP.1 hg (Kd.R_ne rL26 BKP.1 (by decide)))
      replace BKB := ak (blk_grown BKB.1 hg (Kd.R_ne rL26 BKB.1 (by decide)))
      replace BKL := ak (blk_grown BKL.1 hg (Kd.R_ne rL26 BKL.1 (by decide)))
      replace BKF := ak (blk_grown BKF.1 hg (Kd.R_ne rL26 BKF.1 (by decide)))
      replace BK166 := ak (blk_grown BK166.1 hg (Kd.R_ne rL26 BK166.1 (by decide)))
      replace BK167 := ak (blk_grown BK167.1 hg (Kd.R_ne rL26 BK167.1 (by decide)))
      (refine hK _ _ ⟨bc_ BKL 0, bc_ BKF 0, bc_ BKF 1, bc_ BKF 2, bc_ BKP 0, bc_ BKP 1, bc_ BKP 2, bc_ BKP 3, bc_ BKP 4⟩ (fun hHeld => ?_))
      clear hK K; refine nv_ ?_
      (refine last_ (i := 14) (N := none) (bm 15 32767) rfl rfl (one_of HT_.1 (by kernel_rfl)) (by decide) (fun K hK => ?_))
      have hs42 : w27.cell? ⟨g32, 0, none⟩ = some (.slice A56_0 L.length c56_0) := bc_ BKL 0
      have hfs42 := blk_frozen BKL.1 0
      (refine skip_ (w1 := ?_) (by rfl) rfl ?_ ?_)
      rotate_left
      · (go_simp); (rfl)
      refine hK.out _ _ ?_
      clear hK K; (refine done_ (done_of HT_.1 (by kernel_rfl)) ?_)
      have ho28 : Kd.R k61 61 w27 w1.heap.size (fun _ => True) (.slice A27 (L.length + 1) c27) (L ++ [(⟨3, ⟨#[]⟩, 0, wrap64 (f0 + a1), s24_3, wrap64 ((L.length : Int) + 1), 0⟩ : S61)]) := by
        rw [List.length_append] at ho
        exact ho
      obtain ⟨hi28, ow28⟩ := PInv.put hc (hI.keep hc HB.1) rL26 ho28 hg
      have n1_ := ak (bf1_ (i0 := 0) (u0 := (.slice A27 (L.length + 1) c27)) BK166 NB166_56)
      have n2_ := ak (bf1_ (i0 := 0) (u0 := (.slice A27 (L.length + 1) c27)) BK167 NB167_56)
      have n3_ := ak (bf1_ (i0 := 0) (u0 := (.slice A27 (L.length + 1) c27)) BKF ⟨blk_types BKF.1 BKL.1 (by decide)⟩)
      replace ow28 := (Own.below (n := w1.heap.size) HB.1).trans ow28
      have g7_ : w1.heap.size ≤ gb167 := Nat.le_trans hI.size GE167.1
      clear hHeld hs42 hfs42 hg ho ho28 rL26 rL hI BKU BKT BKP BKB BKL BKF BK166 BK167 HB
      generalize w27.setCell ⟨g32, 0, none⟩ (.slice A27 (L.length + 1) c27) = w28 at hi28 ow28 n1_ n2_ n3_ ⊢
      have BKF := n3_; have BK167 := n2_
      have BKU := ak (hi28.get hc hc.bU (by decide))
      obtain ⟨hczU_0, hfzU_0⟩ := cz1_ BKU
      obtain ⟨hcz28_0, hcz28_1, hcz28_2, hfz28_0, hfz28_1, hfz28_2⟩ := cz3_ BKF
      obtain ⟨hcz29_0, hcz29_1, hcz29_2, hfz29_0, hfz29_1, hfz29_2⟩ := cz3_ n1_
      replace hp2 : Puts w1 g16 g24 g32 gU (setR L1 L.length (L1.length : Int)) ⟨wrap64 (f0 + wrap64 (a1 + s24_3)), f1, f2⟩ ⟨a3_0, a3_1, a3_2⟩ L2 := hp2
      have hq1 := hp1 w28 hi28
      dsimp only at hq1
      clear hp1 n1_ n2_ n3_
      go_wp2_with (first | (go_at_call 46; (with_reducible refine hq1.mono ?_); clear hq1; rintro e w31 ⟨rfl, hi31, ow31⟩; clear hcz28_0 hcz28_1 hcz28_2 hfz28_0 hfz28_1 hfz28_2 hcz29_0 hcz29_1 hcz29_2 hfz29_0 hfz29_1 hfz29_2 hczU_0 hfzU_0; replace BKF := ak (ow31 _ _ _ hgF (by decide) BKF.1); replace BK167 := ak (ow31 _ _ _ g7_ (by decide) BK167.1); replace BKU := ak (hi31.get hc hc.bU (by decide)); obtain ⟨A31, c31, bL31, rL31⟩ := hi31.pl; obtain ⟨hcz31_0, hfz31_0⟩ := cz1_ (ak bL31); obtain ⟨go31, co31, eo31, gb31, gl31, HG31⟩ := Kd.R_form rL31 (by omega); clear gb31 gl31 HG31; injection eo31 with ea_ en_ ec_; subst ea_; subst ec_; clear en_; obtain ⟨ce31, hcl31, hM31, hcc31, hfr31⟩ := Kd.R_elem rL31 z61 (L.length : Int) (by omega) (by omega); obtain rfl := k61_openM hM31; have HP31 := Kd.R_seg rL31 (L.length : Int) (by omega) (by omega) (seg := [.int .i64 (L1.length : Int)]) (j := 6) hcl31 hcc31 (show 7 ≤ 7 from by decide) (x' := (⟨(rd_T61 L1 (L.length : Int)).f0, (rd_T61 L1 (L.length : Int)).f1, (rd_T61 L1 (L.length : Int)).f2, (rd_T61 L1 (L.length : Int)).f3, (rd_T61 L1 (L.length : Int)).f4, (rd_T61 L1 (L.length : Int)).f5, (L1.length : Int)⟩ : S61)) (k61_mkM _ _ _ (⟨(rd_T61 L1 (L.length : Int)).f0, (rd_T61 L1 (L.length : Int)).f1, (rd_T61 L1 (L.length : Int)).f2, (rd_T61 L1 (L.length : Int)).f3, (rd_T61 L1 (L.length : Int)).f4, (rd_T61 L1 (L.length : Int)).f5, (L1.length : Int)⟩ : S61)) (fun _ hk => hk); have hx31 := hcc31 6 _ rfl; have hf31 := hfr31 6; (try simp only [show (k61).sz = 7 from rfl, Int.toNat_natCast] at hx31); (try simp only [show (k61).sz = 7 from rfl, Int.toNat_natCast] at hf31); clear hcl31 hM31 hcc31 hfr31; have p31 := eq_true (show 0 ≤ (L.length : Int) from by omega); have q31 := eq_true (show (L.length : Int) < (L1.length : Int) from by omega); have r31 := eq_true hl1) | ((with_reducible refine gate_store (t := 3) (p := 57) rfl ?_); refine store_event (t := 3) (p := 57) (v := ?vo_w17) (w1 := w31.setCell ⟨go31, L.length * 7 + 6, none⟩ (.int .i64 (L1.length : Int))) ?hg ?ho ?hn ?hr ?_; (case ho => rfl); (case hg => rfl); (case hn => rfl); (case hr => (go_simp; done)); intro w32 hw; have hg : w31.grownBy w32 (some go31) := (by rw [hw]; exact HP31.2); have hr_ : Kd.R k61 61 w32 w1.heap.size (fun _ => True) (.slice (some ⟨go31, 0, none⟩) L1.length c31) (setR L1 L.length (L1.length : Int)) := (by rw [hw]; exact HP31.1); obtain ⟨hi32, ow32⟩ := PInv.seg hc hi31 bL31 rL31 (by simp [setR]) hr_ hg; clear hg hr_ hw HP31 hx31 hf31 hcz31_0 hfz31_0 bL31 rL31 hi31; replace BKF := ak (ow32 _ _ _ hgF (by decide) BKF.1); replace BK167 := ak (ow32 _ _ _ g7_ (by decide) BK167.1); replace BKU := ak (hi32.get hc hc.bU (by decide)); have BKP := ak (hi32.get hc hc.bP (by decide)); have HB := ak (Below.refl w32.heap.size w32); obtain ⟨hcz32_0, hcz32_1, hcz32_2, hfz32_0, hfz32_1, hfz32_2⟩ := cz3_ BKF) | ((with_reducible refine gate_dst (N := 16) rfl ?_); refine bx_ 16 #[.int .i64 0, .int .i64 0, .int .i64 0] 64 ?_; intro gb172 hg w33 hbox hb; have BK172 := ak (hbox); have GE172 := gw_ HB hg; replace HB := hs_ HB hb; have NBU_172 := nl_ BKU hg; have NB172_U := nr_ BKU hg; replace BKU := bb_ BKU hb; have NBP_172 := nl_ BKP hg; have NB172_P := nr_ BKP hg; replace BKP := bb_ BKP hb; have NBF_172 := nl_ BKF hg; have NB172_F := nr_ BKF hg; replace BKF := bb_ BKF hb; have NB167_172 := nl_ BK167 hg; have NB172_167 := nr_ BK167 hg; replace BK167 := bb_ BK167 hb; clear hb hbox hg; have hnb36 := NB172_F.1; have hnc36 := NBF_172.1; obtain ⟨hcz39_0, hcz39_1, hcz39_2, hfz39_0, hfz39_1, hfz39_2⟩ := cz3_ BK172))
      have n1_ : Aside0 ((((w33.setCell ⟨gb172, 0, none⟩ (.int .i64 f0)).setCell ⟨gb172, 1, none⟩ (.int .i64 f1)).setCell ⟨gb172, 2, none⟩ (.int .i64 f2)).heap[g24]? = some (.cells #[.int .i64 s24_0, .int .i64 s24_1, .int .i64 s24_2, .int .i64 s24_3, .slice A24_4 s24_4.length c24_4] 33 (0, 0))) := ⟨bf3_ BKP NBP_172⟩
      have n2_ := ak (bf3_ (i0 := 0) (u0 := .int .i64 f0) (i1 := 1) (u1 := .int .i64 f1) (i2 := 2) (u2 := .int .i64 f2) BKU NBU_172)
      have n3_ := ak (bf3_ (i0 := 0) (u0 := .int .i64 f0) (i1 := 1) (u1 := .int .i64 f1) (i2 := 2) (u2 := .int .i64 f2) BK167 NB167_172)
      have n7_ : Aside0 ((((w33.setCell ⟨gb172, 0, none⟩ (.int .i64 f0)).setCell ⟨gb172, 1, none⟩ (.int .i64 f1)).setCell ⟨gb172, 2, none⟩ (.int .i64 f2)).heap[gb172]? = some (.cells #[.int .i64 f0, .int .i64 f1, .int .i64 f2] 64 (0, 0))) := ⟨by refine blk_put (cs := #[.int .i64 f0, .int .i64 f1, .int .i64 0]) ?_ 2 _ rfl; refine blk_put (cs := #[.int .i64 f0, .int .i64 0, .int .i64 0]) ?_ 1 _ rfl; refine blk_put (cs := #[.int .i64 0, .int .i64 0, .int .i64 0]) ?_ 0 _ rfl; exact BK172.1⟩
      have n8_ : Aside0 (Below w32.heap.size w32 (((w33.setCell ⟨gb172, 0, none⟩ (.int .i64 f0)).setCell ⟨gb172, 1, none⟩ (.int .i64 f1)).setCell ⟨gb172, 2, none⟩ (.int .i64 f2))) := ⟨hb_ HB⟩
      clear BKU BKP BKF BK167 BK172 HB hnb36 hnc36 hcz39_0 hcz39_1 hcz39_2 hfz39_0 hfz39_1 hfz39_2 hcz32_0 hcz32_1 hcz32_2 hfz32_0 hfz32_1 hfz32_2
      generalize (((w33.setCell ⟨gb172, 0, none⟩ (.int .i64 f0)).setCell ⟨gb172, 1, none⟩ (.int .i64 f1)).setCell ⟨gb172, 2, none⟩ (.int .i64 f2)) = w40 at n1_ n2_ n3_ n7_ n8_ ⊢
      have BKP := n1_; have BKU := n2_; have BK167 := n3_; have BK172 := n7_; have HB := n8_
      clear n1_ n2_ n3_ n7_ n8_
      replace BKU := ak (blk_drew BKU.1)
      replace BKP := ak (blk_drew BKP.1)
      replace BK167 := ak (blk_drew BK167.1)
      replace BK172 := ak (blk_drew BK172.1)
      replace HB := ak (below_drew1 HB.1)
      (refine start_ (n := 10) (S := (fun w' => w'.cell? ⟨gb172, 0, none⟩ = some (.int .i64 f0) ∧ w'.cell? ⟨gb172, 1, none⟩ = some (.int .i64 f1) ∧ w'.cell? ⟨gb172, 2, none⟩ = some (.int .i64 f2) ∧ w'.cell? ⟨g24, 0, none⟩ = some (.int .i64 s24_0) ∧ w'.cell? ⟨g24, 1, none⟩ = some (.int .i64 s24_1) ∧ w'.cell? ⟨g24, 2, none⟩ = some (.int .i64 s24_2) ∧ w'.cell? ⟨g24, 3, none⟩ = some (.int .i64 s24_3) ∧ w'.cell? ⟨g24, 4, none⟩ = some (.slice A24_4 s24_4.length c24_4))) (ds := [9]) (bm 10 0) (by kernel_rfl) rfl rfl ⟨bc_ BK172 0, bc_ BK172 1, bc_ BK172 2, bc_ BKP 0, bc_ BKP 1, bc_ BKP 2, bc_ BKP 3, bc_ BKP 4⟩ (fun hHeld => ?_)); refine with_tabW bv_.tab8 bv_.bits8 (fun HT_ HW_ => ?_)
      generalize w40.drew = w41 at BKU BKP BK167 BK172 HB hHeld ⊢
      refine pv_ 0 HT_ ?_; refine pv_ 1 HT_ ?_; refine pv_ 3 HT_ ?_; refine pv_ 4 HT_ ?_; refine tv_ 2 HT_ HW_ hHeld ?_; refine tv_ 5 HT_ HW_ hHeld ?_; refine pv_ 6 HT_ ?_; refine pv_ 7 HT_ ?_; refine pv_ 8 HT_ ?_
      (refine last_ (i := 9) (N := none) (bm 10 1023) rfl rfl (one_of HT_.1 (by kernel_rfl)) (by decide) (fun K hK => ?_))
      have hs42 : w41.cell? ⟨gb172, 0, none⟩ = some (.int .i64 f0) := bc_ BK172 0
      have hfs42 := blk_frozen BK172.1 0
      (refine skip_ (w1 := ?_) (by rfl) rfl ?_ ?_)
      rotate_left
      · (go_simp); (rfl)
      refine hK.out _ _ ?_
      clear hK K; (refine done_ (done_of HT_.1 (by kernel_rfl)) ?_)
      have n1_ := ak (bf1_ (i0 := 0) (u0 := .int .i64 (wrap64 (f0 + wrap64 (a1 + s24_3)))) BKU NBU_172)
      have n2_ := ak (bf1_ (i0 := 0) (u0 := .int .i64 (wrap64 (f0 + wrap64 (a1 + s24_3)))) BK167 NB167_172)
      have n3_ : Aside0 ((w41.setCell ⟨gb172, 0, none⟩ (.int .i64 (wrap64 (f0 + wrap64 (a1 + s24_3))))).heap[gb172]? = some (.cells #[.int .i64 (wrap64 (f0 + wrap64 (a1 + s24_3))), .int .i64 f1, .int .i64 f2] 64 (0, 0))) := ⟨blk_put (cs := #[.int .i64 f0, .int .i64 f1, .int .i64 f2]) BK172.1 0 _ rfl⟩
      have n8_ : Aside0 (Below w32.heap.size w32 (w41.setCell ⟨gb172, 0, none⟩ (.int .i64 (wrap64 (f0 + wrap64 (a1 + s24_3)))))) := ⟨hb_ HB⟩
      clear hHeld hs42 hfs42 BKP BKU BK167 BK172 HB
      generalize w41.setCell ⟨gb172, 0, none⟩ (.int .i64 (wrap64 (f0 + wrap64 (a1 + s24_3)))) = w42 at n1_ n2_ n3_ n8_ ⊢
      have hi42 := hi32.keep hc n8_.1
      obtain ⟨hczU_0, hfzU_0⟩ := cz1_ n1_
      obtain ⟨hcz28_0, hcz28_1, hcz28_2, hfz28_0, hfz28_1, hfz28_2⟩ := cz3_ n2_
      obtain ⟨hcz29_0, hcz29_1, hcz29_2, hfz29_0, hfz29_1, hfz29_2⟩ := cz3_ n3_
      have hq2 := hp2 w42 hi42
      dsimp only at hq2
      have ow42 := (Own.below (n := w1.heap.size) n8_.1)
      clear hp2 n1_ n2_ n3_ n8_
      go_wp2_with (first | (go_at_call 46; (with_reducible refine hq2.mono ?_); clear hq2; rintro e w43 ⟨rfl, hi43, ow43⟩))
      go_ret
      exact Or.inr ⟨rfl, hbb, hi43, ow28.trans (ow31.trans (ow32.trans (ow42.trans ow43)))⟩
    · refine pv_ 1 HT_ ?_; refine pv_ 2 HT_ ?_; refine pv_ 3 HT_ ?_; refine pv_ 5 HT_ ?_; refine pv_ 7 HT_ ?_; refine pv_ 9 HT_ ?_; refine pv_ 10 HT_ ?_; refine tv_ 0 HT_ HW_ hHeld ?_; refine tv_ 4 HT_ HW_ hHeld ?_; refine pv_ 6 HT_ ?_; refine tv_ 8 HT_ HW_ hHeld ?_; refine pv_ 11 HT_ ?_
      (refine one_ (i := 12) (N := some 46) (bm 15 8191) rfl rfl (one_of HT_.1 (by kernel_rfl)) (by decide) (fun K hK => ?_))
      (refine value_ (w1 := ?_) (v := ?_) (by rfl) rfl ?_ ?_)
      rotate_left 2
      · go_simp; constructor; · rfl
        rfl
      (refine hK.out _ _ ⟨(blk_cell (blk_alloc BKL.1 _) 0).trans rfl, (blk_cell (blk_alloc BKF.1 _) 0).trans rfl, (blk_cell (blk_alloc BKF.1 _) 1).trans rfl, (blk_cell (blk_alloc BKF.1 _) 2).trans rfl, (blk_cell (blk_alloc BKP.1 _) 0).trans rfl, (blk_cell (blk_alloc BKP.1 _) 1).trans rfl, (blk_cell (blk_alloc BKP.1 _) 2).trans rfl, (blk_cell (blk_alloc BKP.1 _) 3).trans rfl, (blk_cell (blk_alloc BKP.1 _) 4).trans rfl⟩ (fun hHeld => ?_))
      clear hK K; refine nv_ ?_
      clear hHeld
      (refine one_ (i := 13) (N := some 47) (bm 15 16383) rfl rfl (one_of HT_.1 (by kernel_rfl)) (by decide) (fun K hK => ?_))
      have rL26 : Kd.R k61 61 w26 w1.heap.size (fun _ => True) (.slice A56_0 L.length c56_0) L := Kd.R_below rL HB.1
      refine Kd.R_append_step k61 (w0 := w26) w1.heap.size (by rfl) (.tmp 34) (.tmp 46) 27 61 (.agg #[(.int .i64 0), (.string ⟨#[]⟩), (.int .i64 0), (.int .i64 0), (.int .i64 0), (.int .i64 0), (.int .i64 0)]) 64 rfl Try.underlying27 info61 rfl (by decide) (by omega) (.slice A56_0 L.length c56_0) L (⟨3, ⟨#[]⟩, 1, wrap64 (f1 + a1), s24_3, wrap64 ((L.length : Int) + 1), 0⟩ : S61) [.int .i64 3, .string ⟨#[]⟩, .int .i64 1, .int .i64 (wrap64 (f1 + a1)), .int .i64 s24_3, .int .i64 (wrap64 ((L.length : Int) + 1)), .int .i64 0] (fun _ => True) (fun _ => False) rfl rfl ?aP (fun _ hk => hk.elim) ?aF ?aO ?aB ?aS ?aL ?_
      case aP => exact k61_mkM _ _ _ (⟨3, ⟨#[]⟩, 1, wrap64 (f1 + a1), s24_3, wrap64 ((L.length : Int) + 1), 0⟩ : S61)
      case aF => exact fun _ _ => trivial
      case aO => exact rL26
      case aB => exact Below.refl _ _
      case aS => exact Nat.le_trans hI.size (below_size HB.1)
      case aL => omega
      intro v27 w27 ho hb hg hat
      clear hb hat
      obtain ⟨A27, c27, rfl⟩ := Kd.R_slice ho
      replace BKU := ak (blk_grown BKU.1 hg (Kd.R_ne rL26 BKU.1 (by decide)))
      replace BKT := ak (blk_grown BKT.1 hg (Kd.R_ne rL26 BKT.1 (by decide)))
      replace BKP := ak (blk_grown BKP.1 hg (Kd.R_ne rL26 BKP.1 (by decide)))
      replace BKB := ak (blk_grown BKB.1 hg (Kd.R_ne rL26 BKB.1 (by decide)))
      replace BKL := ak (blk_grown BKL.1 hg (Kd.R_ne rL26 BKL.1 (by decide)))
      replace BKF := ak (blk_grown BKF.1 hg (Kd.R_ne rL26 BKF.1 (by decide)))
      replace BK166 := ak (blk_grown BK166.1 hg (Kd.R_ne rL26 BK166.1 (by decide)))
      replace BK167 := ak (blk_grown BK167.1 hg (Kd.R_ne rL26 BK167.1 (by decide)))
      (refine hK _ _ ⟨bc_ BKL 0, bc_ BKF 0, bc_ BKF 1, bc_ BKF 2, bc_ BKP 0, bc_ BKP 1, bc_ BKP 2, bc_ BKP 3, bc_ BKP 4⟩ (fun hHeld => ?_))
      clear hK K; refine nv_ ?_
      (refine last_ (i := 14) (N := none) (bm 15 32767) rfl rfl (one_of HT_.1 (by kernel_rfl)) (by decide) (fun K hK => ?_))
      have hs42 : w27.cell? ⟨g32, 0, none⟩ = some (.slice A56_0 L.length c56_0) := bc_ BKL 0
      have hfs42 := blk_frozen BKL.1 0
      (refine skip_ (w1 := ?_) (by rfl) rfl ?_ ?_)
      rotate_left
      · (go_simp); (rfl)
      refine hK.out _ _ ?_
      clear hK K; (refine done_ (done_of HT_.1 (by kernel_rfl)) ?_)
      have ho28 : Kd.R k61 61 w27 w1.heap.size (fun _ => True) (.slice A27 (L.length + 1) c27) (L ++ [(⟨3, ⟨#[]⟩, 1, wrap64 (f1 + a1), s24_3, wrap64 ((L.length : Int) + 1), 0⟩ : S61)]) := by
        rw [List.length_append] at ho
        exact ho
      obtain ⟨hi28, ow28⟩ := PInv.put hc (hI.keep hc HB.1) rL26 ho28 hg
      have n1_ := ak (bf1_ (i0 := 0) (u0 := (.slice A27 (L.length + 1) c27)) BK166 NB166_56)
      have n2_ := ak (bf1_ (i0 := 0) (u0 := (.slice A27 (L.length + 1) c27)) BK167 NB167_56)
      have n3_ := ak (bf1_ (i0 := 0) (u0 := (.slice A27 (L.length + 1) c27)) BKF ⟨blk_types BKF.1 BKL.1 (by decide)⟩)
      replace ow28 := (Own.below (n := w1.heap.size) HB.1).trans ow28
      have g7_ : w1.heap.size ≤ gb167 := Nat.le_trans hI.size GE167.1
      clear hHeld hs42 hfs42 hg ho ho28 rL26 rL hI BKU BKT BKP BKB BKL BKF BK166 BK167 HB
      generalize w27.setCell ⟨g32, 0, none⟩ (.slice A27 (L.length + 1) c27) = w28 at hi28 ow28 n1_ n2_ n3_ ⊢
      have BKF := n3_; have BK167 := n2_
      have BKU := ak (hi28.get hc hc.bU (by decide))
      obtain ⟨hczU_0, hfzU_0⟩ := cz1_ BKU
      obtain ⟨hcz28_0, hcz28_1, hcz28_2, hfz28_0, hfz28_1, hfz28_2⟩ := cz3_ BKF
      obtain ⟨hcz29_0, hcz29_1, hcz29_2, hfz29_0, hfz29_1, hfz29_2⟩ := cz3_ n1_
      replace hp2 : Puts w1 g16 g24 g32 gU (setR L1 L.length (L1.length : Int)) ⟨f0, wrap64 (f1 + wrap64 (a1 + s24_3)), f2⟩ ⟨a3_0, a3_1, a3_2⟩ L2 := hp2
      have hq1 := hp1 w28 hi28
      dsimp only at hq1
      clear hp1 n1_ n2_ n3_
      go_wp2_with (first | (go_at_call 46; (with_reducible refine hq1.mono ?_); clear hq1; rintro e w31 ⟨rfl, hi31, ow31⟩; clear hcz28_0 hcz28_1 hcz28_2 hfz28_0 hfz28_1 hfz28_2 hcz29_0 hcz29_1 hcz29_2 hfz29_0 hfz29_1 hfz29_2 hczU_0 hfzU_0; replace BKF := ak (ow31 _ _ _ hgF (by decide) BKF.1); replace BK167 := ak (ow31 _ _ _ g7_ (by decide) BK167.1); replace BKU := ak (hi31.get hc hc.bU (by decide)); obtain ⟨A31, c31, bL31, rL31⟩ := hi31.pl; obtain ⟨hcz31_0, hfz31_0⟩ := cz1_ (ak bL31); obtain ⟨go31, co31, eo31, gb31, gl31, HG31⟩ := Kd.R_form rL31 (by omega); clear gb31 gl31 HG31; injection eo31 with ea_ en_ ec_; subst ea_; subst ec_; clear en_; obtain ⟨ce31, hcl31, hM31, hcc31, hfr31⟩ := Kd.R_elem rL31 z61 (L.length : Int) (by omega) (by omega); obtain rfl := k61_openM hM31; have HP31 := Kd.R_seg rL31 (L.length : Int) (by omega) (by omega) (seg := [.int .i64 (L1.length : Int)]) (j := 6) hcl31 hcc31 (show 7 ≤ 7 from by decide) (x' := (⟨(rd_T61 L1 (L.length : Int)).f0, (rd_T61 L1 (L.length : Int)).f1, (rd_T61 L1 (L.length : Int)).f2, (rd_T61 L1 (L.length : Int)).f3, (rd_T61 L1 (L.length : Int)).f4, (rd_T61 L1 (L.length : Int)).f5, (L1.length : Int)⟩ : S61)) (k61_mkM _ _ _ (⟨(rd_T61 L1 (L.length : Int)).f0, (rd_T61 L1 (L.length : Int)).f1, (rd_T61 L1 (L.length : Int)).f2, (rd_T61 L1 (L.length : Int)).f3, (rd_T61 L1 (L.length : Int)).f4, (rd_T61 L1 (L.length : Int)).f5, (L1.length : Int)⟩ : S61)) (fun _ hk => hk); have hx31 := hcc31 6 _ rfl; have hf31 := hfr31 6; (try simp only [show (k61).sz = 7 from rfl, Int.toNat_natCast] at hx31); (try simp only [show (k61).sz = 7 from rfl, Int.toNat_natCast] at hf31); clear hcl31 hM31 hcc31 hfr31; have p31 := eq_true (show 0 ≤ (L.length : Int) from by omega); have q31 := eq_true (show (L.length : Int) < (L1.length : Int) from by omega); have r31 := eq_true hl1) | ((with_reducible refine gate_store (t := 3) (p := 57) rfl ?_); refine store_event (t := 3) (p := 57) (v := ?vo_w17) (w1 := w31.setCell ⟨go31, L.length * 7 + 6, none⟩ (.int .i64 (L1.length : Int))) ?hg ?ho ?hn ?hr ?_; (case ho => rfl); (case hg => rfl); (case hn => rfl); (case hr => (go_simp; done)); intro w32 hw; have hg : w31.grownBy w32 (some go31) := (by rw [hw]; exact HP31.2); have hr_ : Kd.R k61 61 w32 w1.heap.size (fun _ => True) (.slice (some ⟨go31, 0, none⟩) L1.length c31) (setR L1 L.length (L1.length : Int)) := (by rw [hw]; exact HP31.1); obtain ⟨hi32, ow32⟩ := PInv.seg hc hi31 bL31 rL31 (by simp [setR]) hr_ hg; clear hg hr_ hw HP31 hx31 hf31 hcz31_0 hfz31_0 bL31 rL31 hi31; replace BKF := ak (ow32 _ _ _ hgF (by decide) BKF.1); replace BK167 := ak (ow32 _ _ _ g7_ (by decide) BK167.1); replace BKU := ak (hi32.get hc hc.bU (by decide)); have BKP := ak (hi32.get hc hc.bP (by decide)); have HB := ak (Below.refl w32.heap.size w32); obtain ⟨hcz32_0, hcz32_1, hcz32_2, hfz32_0, hfz32_1, hfz32_2⟩ := cz3_ BKF) | ((with_reducible refine gate_dst (N := 16) rfl ?_); refine bx_ 16 #[.int .i64 0, .int .i64 0, .int .i64 0] 64 ?_; intro gb172 hg w33 hbox hb; have BK172 := ak (hbox); have GE172 := gw_ HB hg; replace HB := hs_ HB hb; have NBU_172 := nl_ BKU hg; have NB172_U := nr_ BKU hg; replace BKU := bb_ BKU hb; have NBP_172 := nl_ BKP hg; have NB172_P := nr_ BKP hg; replace BKP := bb_ BKP hb; have NBF_172 := nl_ BKF hg; have NB172_F := nr_ BKF hg; replace BKF := bb_ BKF hb; have NB167_172 := nl_ BK167 hg; have NB172_167 := nr_ BK167 hg; replace BK167 := bb_ BK167 hb; clear hb hbox hg; have hnb36 := NB172_F.1; have hnc36 := NBF_172.1; obtain ⟨hcz39_0, hcz39_1, hcz39_2, hfz39_0, hfz39_1, hfz39_2⟩ := cz3_ BK172))
      have n1_ : Aside0 ((((w33.setCell ⟨gb172, 0, none⟩ (.int .i64 f0)).setCell ⟨gb172, 1, none⟩ (.int .i64 f1)).setCell ⟨gb172, 2, none⟩ (.int .i64 f2)).heap[g24]? = some (.cells #[.int .i64 s24_0, .int .i64 s24_1, .int .i64 s24_2, .int .i64 s24_3, .slice A24_4 s24_4.length c24_4] 33 (0, 0))) := ⟨bf3_ BKP NBP_172⟩
      have n2_ := ak (bf3_ (i0 := 0) (u0 := .int .i64 f0) (i1 := 1) (u1 := .int .i64 f1) (i2 := 2) (u2 := .int .i64 f2) BKU NBU_172)
      have n3_ := ak (bf3_ (i0 := 0) (u0 := .int .i64 f0) (i1 := 1) (u1 := .int .i64 f1) (i2 := 2) (u2 := .int .i64 f2) BK167 NB167_172)
      have n7_ : Aside0 ((((w33.setCell ⟨gb172, 0, none⟩ (.int .i64 f0)).setCell ⟨gb172, 1, none⟩ (.int .i64 f1)).setCell ⟨gb172, 2, none⟩ (.int .i64 f2)).heap[gb172]? = some (.cells #[.int .i64 f0, .int .i64 f1, .int .i64 f2] 64 (0, 0))) := ⟨by refine blk_put (cs := #[.int .i64 f0, .int .i64 f1, .int .i64 0]) ?_ 2 _ rfl; refine blk_put (cs := #[.int .i64 f0, .int .i64 0, .int .i64 0]) ?_ 1 _ rfl; refine blk_put (cs := #[.int .i64 0, .int .i64 0, .int .i64 0]) ?_ 0 _ rfl; exact BK172.1⟩
      have n8_ : Aside0 (Below w32.heap.size w32 (((w33.setCell ⟨gb172, 0, none⟩ (.int .i64 f0)).setCell ⟨gb172, 1, none⟩ (.int .i64 f1)).setCell ⟨gb172, 2, none⟩ (.int .i64 f2))) := ⟨hb_ HB⟩
      clear BKU BKP BKF BK167 BK172 HB hnb36 hnc36 hcz39_0 hcz39_1 hcz39_2 hfz39_0 hfz39_1 hfz39_2 hcz32_0 hcz32_1 hcz32_2 hfz32_0 hfz32_1 hfz32_2
      generalize (((w33.setCell ⟨gb172, 0, none⟩ (.int .i64 f0)).setCell ⟨gb172, 1, none⟩ (.int .i64 f1)).setCell ⟨gb172, 2, none⟩ (.int .i64 f2)) = w40 at n1_ n2_ n3_ n7_ n8_ ⊢
      have BKP := n1_; have BKU := n2_; have BK167 := n3_; have BK172 := n7_; have HB := n8_
      clear n1_ n2_ n3_ n7_ n8_
      replace BKU := ak (blk_drew BKU.1)
      replace BKP := ak (blk_drew BKP.1)
      replace BK167 := ak (blk_drew BK167.1)
      replace BK172 := ak (blk_drew BK172.1)
      replace HB := ak (below_drew1 HB.1)
      (refine start_ (n := 10) (S := (fun w' => w'.cell? ⟨gb172, 0, none⟩ = some (.int .i64 f0) ∧ w'.cell? ⟨gb172, 1, none⟩ = some (.int .i64 f1) ∧ w'.cell? ⟨gb172, 2, none⟩ = some (.int .i64 f2) ∧ w'.cell? ⟨g24, 0, none⟩ = some (.int .i64 s24_0) ∧ w'.cell? ⟨g24, 1, none⟩ = some (.int .i64 s24_1) ∧ w'.cell? ⟨g24, 2, none⟩ = some (.int .i64 s24_2) ∧ w'.cell? ⟨g24, 3, none⟩ = some (.int .i64 s24_3) ∧ w'.cell? ⟨g24, 4, none⟩ = some (.slice A24_4 s24_4.length c24_4))) (ds := [9]) (bm 10 0) (by kernel_rfl) rfl rfl ⟨bc_ BK172 0, bc_ BK172 1, bc_ BK172 2, bc_ BKP 0, bc_ BKP 1, bc_ BKP 2, bc_ BKP 3, bc_ BKP 4⟩ (fun hHeld => ?_)); refine with_tabW bv_.tab8 bv_.bits8 (fun HT_ HW_ => ?_)
      generalize w40.drew = w41 at BKU BKP BK167 BK172 HB hHeld ⊢
      refine pv_ 0 HT_ ?_; refine pv_ 1 HT_ ?_; refine pv_ 3 HT_ ?_; refine pv_ 4 HT_ ?_; refine tv_ 2 HT_ HW_ hHeld ?_; refine tv_ 5 HT_ HW_ hHeld ?_; refine pv_ 6 HT_ ?_; refine pv_ 7 HT_ ?_; refine pv_ 8 HT_ ?_
      (refine last_ (i := 9) (N := none) (bm 10 1023) rfl rfl (one_of HT_.1 (by kernel_rfl)) (by decide) (fun K hK => ?_))
      have hs42 : w41.cell? ⟨gb172, 1, none⟩ = some (.int .i64 f1) := bc_ BK172 1
      have hfs42 := blk_frozen BK172.1 1
      (refine skip_ (w1 := ?_) (by rfl) rfl ?_ ?_)
      rotate_left
      · (go_simp); (rfl)
      refine hK.out _ _ ?_
      clear hK K; (refine done_ (done_of HT_.1 (by kernel_rfl)) ?_)
      have n1_ := ak (bf1_ (i0 := 1) (u0 := .int .i64 (wrap64 (f1 + wrap64 (a1 + s24_3)))) BKU NBU_172)
      have n2_ := ak (bf1_ (i0 := 1) (u0 := .int .i64 (wrap64 (f1 + wrap64 (a1 + s24_3)))) BK167 NB167_172)
      have n3_ : Aside0 ((w41.setCell ⟨gb172, 1, none⟩ (.int .i64 (wrap64 (f1 + wrap64 (a1 + s24_3))))).heap[gb172]? = some (.cells #[.int .i64 f0, .int .i64 (wrap64 (f1 + wrap64 (a1 + s24_3))), .int .i64 f2] 64 (0, 0))) := ⟨blk_put (cs := #[.int .i64 f0, .int .i64 f1, .int .i64 f2]) BK172.1 1 _ rfl⟩
      have n8_ : Aside0 (Below w32.heap.size w32 (w41.setCell ⟨gb172, 1, none⟩ (.int .i64 (wrap64 (f1 + wrap64 (a1 + s24_3)))))) := ⟨hb_ HB⟩
      clear hHeld hs42 hfs42 BKP BKU BK167 BK172 HB
      generalize w41.setCell ⟨gb172, 1, none⟩ (.int .i64 (wrap64 (f1 + wrap64 (a1 + s24_3)))) = w42 at n1_ n2_ n3_ n8_ ⊢
      have hi42 := hi32.keep hc n8_.1
      obtain ⟨hczU_0, hfzU_0⟩ := cz1_ n1_
      obtain ⟨hcz28_0, hcz28_1, hcz28_2, hfz28_0, hfz28_1, hfz28_2⟩ := cz3_ n2_
      obtain ⟨hcz29_0, hcz29_1, hcz29_2, hfz29_0, hfz29_1, hfz29_2⟩ := cz3_ n3_
      have hq2 := hp2 w42 hi42
      dsimp only at hq2
      have ow42 := (Own.below (n := w1.heap.size) n8_.1)
      clear hp2 n1_ n2_ n3_ n8_
      go_wp2_with (first | (go_at_call 46; (with_reducible refine hq2.mono ?_); clear hq2; rintro e w43 ⟨rfl, hi43, ow43⟩))
      go_ret
      exact Or.inr ⟨rfl, hbb, hi43, ow28.trans (ow31.trans (ow32.trans (ow42.trans ow43)))⟩
    refine pv_ 1 HT_ ?_; refine pv_ 2 HT_ ?_; refine pv_ 3 HT_ ?_; refine pv_ 5 HT_ ?_; refine pv_ 7 HT_ ?_; refine pv_ 9 HT_ ?_; refine pv_ 10 HT_ ?_; refine tv_ 0 HT_ HW_ hHeld ?_; refine tv_ 4 HT_ HW_ hHeld ?_; refine pv_ 6 HT_ ?_; refine tv_ 8 HT_ HW_ hHeld ?_; refine pv_ 11 HT_ ?_
    (refine one_ (i := 12) (N := some 46) (bm 15 8191) rfl rfl (one_of HT_.1 (by kernel_rfl)) (by decide) (fun K hK => ?_))
    (refine value_ (w1 := ?_) (v := ?_) (by rfl) rfl ?_ ?_)
    rotate_left 2
    · go_simp; constructor; · rfl
      rfl
    (refine hK.out _ _ ⟨(blk_cell (blk_alloc BKL.1 _) 0).trans rfl, (blk_cell (blk_alloc BKF.1 _) 0).trans rfl, (blk_cell (blk_alloc BKF.1 _) 1).trans rfl, (blk_cell (blk_alloc BKF.1 _) 2).trans rfl, (blk_cell (blk_alloc BKP.1 _) 0).trans rfl, (blk_cell (blk_alloc BKP.1 _) 1).trans rfl, (blk_cell (blk_alloc BKP.1 _) 2).trans rfl, (blk_cell (blk_alloc BKP.1 _) 3).trans rfl, (blk_cell (blk_alloc BKP.1 _) 4).trans rfl⟩ (fun hHeld => ?_))
    clear hK K; refine nv_ ?_
    clear hHeld
    (refine one_ (i := 13) (N := some 47) (bm 15 16383) rfl rfl (one_of HT_.1 (by kernel_rfl)) (by decide) (fun K hK => ?_))
    have rL26 : Kd.R k61 61 w26 w1.heap.size (fun _ => True) (.slice A56_0 L.length c56_0) L := Kd.R_below rL HB.1
    refine Kd.R_append_step k61 (w0 := w26) w1.heap.size (by rfl) (.tmp 34) (.tmp 46) 27 61 (.agg #[(.int .i64 0), (.string ⟨#[]⟩), (.int .i64 0), (.int .i64 0), (.int .i64 0), (.int .i64 0), (.int .i64 0)]) 64 rfl Try.underlying27 info61 rfl (by decide) (by omega) (.slice A56_0 L.length c56_0) L (⟨3, ⟨#[]⟩, 2, wrap64 (f2 + a1), s24_3, wrap64 ((L.length : Int) + 1), 0⟩ : S61) [.int .i64 3, .string ⟨#[]⟩, .int .i64 2, .int .i64 (wrap64 (f2 + a1)), .int .i64 s24_3, .int .i64 (wrap64 ((L.length : Int) + 1)), .int .i64 0] (fun _ => True) (fun _ => False) rfl rfl ?aP (fun _ hk => hk.elim) ?aF ?aO ?aB ?aS ?aL ?_
    case aP => exact k61_mkM _ _ _ (⟨3, ⟨#[]⟩, 2, wrap64 (f2 + a1), s24_3, wrap64 ((L.length : Int) + 1), 0⟩ : S61)
    case aF => exact fun _ _ => trivial
    case aO => exact rL26
    case aB => exact Below.refl _ _
    case aS => exact Nat.le_trans hI.size (below_size HB.1)
    case aL => omega
    intro v27 w27 ho hb hg hat
    clear hb hat
    obtain ⟨A27, c27, rfl⟩ := Kd.R_slice ho
    replace BKU := ak (blk_grown BKU.1 hg (Kd.R_ne rL26 BKU.1 (by decide)))
    replace BKT := ak (blk_grown BKT.1 hg (Kd.R_ne rL26 BKT.1 (by decide)))
    replace BKP := ak (blk_grown BKP.1 hg (Kd.R_ne rL26 BKP.1 (by decide)))
    replace BKB := ak (blk_grown BKB.1 hg (Kd.R_ne rL26 BKB.1 (by decide)))
    replace BKL := ak (blk_grown BKL.1 hg (Kd.R_ne rL26 BKL.1 (by decide)))
    replace BKF := ak (blk_grown BKF.1 hg (Kd.R_ne rL26 BKF.1 (by decide)))
    replace BK166 := ak (blk_grown BK166.1 hg (Kd.R_ne rL26 BK166.1 (by decide)))
    replace BK167 := ak (blk_grown BK167.1 hg (Kd.R_ne rL26 BK167.1 (by decide)))
    (refine hK _ _ ⟨bc_ BKL 0, bc_ BKF 0, bc_ BKF 1, bc_ BKF 2, bc_ BKP 0, bc_ BKP 1, bc_ BKP 2, bc_ BKP 3, bc_ BKP 4⟩ (fun hHeld => ?_))
    clear hK K; refine nv_ ?_
    (refine last_ (i := 14) (N := none) (bm 15 32767) rfl rfl (one_of HT_.1 (by kernel_rfl)) (by decide) (fun K hK => ?_))
    have hs42 : w27.cell? ⟨g32, 0, none⟩ = some (.slice A56_0 L.length c56_0) := bc_ BKL 0
    have hfs42 := blk_frozen BKL.1 0
    (refine skip_ (w1 := ?_) (by rfl) rfl ?_ ?_)
    rotate_left
    · (go_simp); (rfl)
    refine hK.out _ _ ?_
    clear hK K; (refine done_ (done_of HT_.1 (by kernel_rfl)) ?_)
    have ho28 : Kd.R k61 61 w27 w1.heap.size (fun _ => True) (.slice A27 (L.length + 1) c27) (L ++ [(⟨3, ⟨#[]⟩, 2, wrap64 (f2 + a1), s24_3, wrap64 ((L.length : Int) + 1), 0⟩ : S61)]) := by
      rw [List.length_append] at ho
      exact ho
    obtain ⟨hi28, ow28⟩ := PInv.put hc (hI.keep hc HB.1) rL26 ho28 hg
    have n1_ := ak (bf1_ (i0 := 0) (u0 := (.slice A27 (L.length + 1) c27)) BK166 NB166_56)
    have n2_ := ak (bf1_ (i0 := 0) (u0 := (.slice A27 (L.length + 1) c27)) BK167 NB167_56)
    have n3_ := ak (bf1_ (i0 := 0) (u0 := (.slice A27 (L.length + 1) c27)) BKF ⟨blk_types BKF.1 BKL.1 (by decide)⟩)
    replace ow28 := (Own.below (n := w1.heap.size) HB.1).trans ow28
    have g7_ : w1.heap.size ≤ gb167 := Nat.le_trans hI.size GE167.1
    clear hHeld hs42 hfs42 hg ho ho28 rL26 rL hI BKU BKT BKP BKB BKL BKF BK166 BK167 HB
    generalize w27.setCell ⟨g32, 0, none⟩ (.slice A27 (L.length + 1) c27) = w28 at hi28 ow28 n1_ n2_ n3_ ⊢
    have BKF := n3_; have BK167 := n2_
    have BKU := ak (hi28.get hc hc.bU (by decide))
    obtain ⟨hczU_0, hfzU_0⟩ := cz1_ BKU
    obtain ⟨hcz28_0, hcz28_1, hcz28_2, hfz28_0, hfz28_1, hfz28_2⟩ := cz3_ BKF
    obtain ⟨hcz29_0, hcz29_1, hcz29_2, hfz29_0, hfz29_1, hfz29_2⟩ := cz3_ n1_
    replace hp2 : Puts w1 g16 g24 g32 gU (setR L1 L.length (L1.length : Int)) ⟨f0, f1, wrap64 (f2 + wrap64 (a1 + s24_3))⟩ ⟨a3_0, a3_1, a3_2⟩ L2 := hp2
    have hq1 := hp1 w28 hi28
    dsimp only at hq1
    clear hp1 n1_ n2_ n3_
    go_wp2_with (first | (go_at_call 46; (with_reducible refine hq1.mono ?_); clear hq1; rintro e w31 ⟨rfl, hi31, ow31⟩; clear hcz28_0 hcz28_1 hcz28_2 hfz28_0 hfz28_1 hfz28_2 hcz29_0 hcz29_1 hcz29_2 hfz29_0 hfz29_1 hfz29_2 hczU_0 hfzU_0; replace BKF := ak (ow31 _ _ _ hgF (by decide) BKF.1); replace BK167 := ak (ow31 _ _ _ g7_ (by decide) BK167.1); replace BKU := ak (hi31.get hc hc.bU (by decide)); obtain ⟨A31, c31, bL31, rL31⟩ := hi31.pl; obtain ⟨hcz31_0, hfz31_0⟩ := cz1_ (ak bL31); obtain ⟨go31, co31, eo31, gb31, gl31, HG31⟩ := Kd.R_form rL31 (by omega); clear gb31 gl31 HG31; injection eo31 with ea_ en_ ec_; subst ea_; subst ec_; clear en_; obtain ⟨ce31, hcl31, hM31, hcc31, hfr31⟩ := Kd.R_elem rL31 z61 (L.length : Int) (by omega) (by omega); obtain rfl := k61_openM hM31; have HP31 := Kd.R_seg rL31 (L.length : Int) (by omega) (by omega) (seg := [.int .i64 (L1.length : Int)]) (j := 6) hcl31 hcc31 (show 7 ≤ 7 from by decide) (x' := (⟨(rd_T61 L1 (L.length : Int)).f0, (rd_T61 L1 (L.length : Int)).f1, (rd_T61 L1 (L.length : Int)).f2, (rd_T61 L1 (L.length : Int)).f3, (rd_T61 L1 (L.length : Int)).f4, (rd_T61 L1 (L.length : Int)).f5, (L1.length : Int)⟩ : S61)) (k61_mkM _ _ _ (⟨(rd_T61 L1 (L.length : Int)).f0, (rd_T61 L1 (L.length : Int)).f1, (rd_T61 L1 (L.length : Int)).f2, (rd_T61 L1 (L.length : Int)).f3, (rd_T61 L1 (L.length : Int)).f4, (rd_T61 L1 (L.length : Int)).f5, (L1.length : Int)⟩ : S61)) (fun _ hk => hk); have hx31 := hcc31 6 _ rfl; have hf31 := hfr31 6; (try simp only [show (k61).sz = 7 from rfl, Int.toNat_natCast] at hx31); (try simp only [show (k61).sz = 7 from rfl, Int.toNat_natCast] at hf31); clear hcl31 hM31 hcc31 hfr31; have p31 := eq_true (show 0 ≤ (L.length : Int) from by omega); have q31 := eq_true (show (L.length : Int) < (L1.length : Int) from by omega); have r31 := eq_true hl1) | ((with_reducible refine gate_store (t := 3) (p := 57) rfl ?_); refine store_event (t := 3) (p := 57) (v := ?vo_w17) (w1 := w31.setCell ⟨go31, L.length * 7 + 6, none⟩ (.int .i64 (L1.length : Int))) ?hg ?ho ?hn ?hr ?_; (case ho => rfl); (case hg => rfl); (case hn => rfl); (case hr => (go_simp; done)); intro w32 hw; have hg : w31.grownBy w32 (some go31) := (by rw [hw]; exact HP31.2); have hr_ : Kd.R k61 61 w32 w1.heap.size (fun _ => True) (.slice (some ⟨go31, 0, none⟩) L1.length c31) (setR L1 L.length (L1.length : Int)) := (by rw [hw]; exact HP31.1); obtain ⟨hi32, ow32⟩ := PInv.seg hc hi31 bL31 rL31 (by simp [setR]) hr_ hg; clear hg hr_ hw HP31 hx31 hf31 hcz31_0 hfz31_0 bL31 rL31 hi31; replace BKF := ak (ow32 _ _ _ hgF (by decide) BKF.1); replace BK167 := ak (ow32 _ _ _ g7_ (by decide) BK167.1); replace BKU := ak (hi32.get hc hc.bU (by decide)); have BKP := ak (hi32.get hc hc.bP (by decide)); have HB := ak (Below.refl w32.heap.size w32); obtain ⟨hcz32_0, hcz32_1, hcz32_2, hfz32_0, hfz32_1, hfz32_2⟩ := cz3_ BKF) | ((with_reducible refine gate_dst (N := 16) rfl ?_); refine bx_ 16 #[.int .i64 0, .int .i64 0, .int .i64 0] 64 ?_; intro gb172 hg w33 hbox hb; have BK172 := ak (hbox); have GE172 := gw_ HB hg; replace HB := hs_ HB hb; have NBU_172 := nl_ BKU hg; have NB172_U := nr_ BKU hg; replace BKU := bb_ BKU hb; have NBP_172 := nl_ BKP hg; have NB172_P := nr_ BKP hg; replace BKP := bb_ BKP hb; have NBF_172 := nl_ BKF hg; have NB172_F := nr_ BKF hg; replace BKF := bb_ BKF hb; have NB167_172 := nl_ BK167 hg; have NB172_167 := nr_ BK167 hg; replace BK167 := bb_ BK167 hb; clear hb hbox hg; have hnb36 := NB172_F.1; have hnc36 := NBF_172.1; obtain ⟨hcz39_0, hcz39_1, hcz39_2, hfz39_0, hfz39_1, hfz39_2⟩ := cz3_ BK172))
    have n1_ : Aside0 ((((w33.setCell ⟨gb172, 0, none⟩ (.int .i64 f0)).setCell ⟨gb172, 1, none⟩ (.int .i64 f1)).setCell ⟨gb172, 2, none⟩ (.int .i64 f2)).heap[g24]? = some (.cells #[.int .i64 s24_0, .int .i64 s24_1, .int .i64 s24_2, .int .i64 s24_3, .slice A24_4 s24_4.length c24_4] 33 (0, 0))) := ⟨bf3_ BKP NBP_172⟩
    have n2_ := ak (bf3_ (i0 := 0) (u0 := .int .i64 f0) (i1 := 1) (u1 := .int .i64 f1) (i2 := 2) (u2 := .int .i64 f2) BKU NBU_172)
    have n3_ := ak (bf3_ (i0 := 0) (u0 := .int .i64 f0) (i1 := 1) (u1 := .int .i64 f1) (i2 := 2) (u2 := .int .i64 f2) BK167 NB167_172)
    have n7_ : Aside0 ((((w33.setCell ⟨gb172, 0, none⟩ (.int .i64 f0)).setCell ⟨gb172, 1, none⟩ (.int .i64 f1)).setCell ⟨gb172, 2, none⟩ (.int .i64 f2)).heap[gb172]? = some (.cells #[.int .i64 f0, .int .i64 f1, .int .i64 f2] 64 (0, 0))) := ⟨by refine blk_put (cs := #[.int .i64 f0, .int .i64 f1, .int .i64 0]) ?_ 2 _ rfl; refine blk_put (cs := #[.int .i64 f0, .int .i64 0, .int .i64 0]) ?_ 1 _ rfl; refine blk_put (cs := #[.int .i64 0, .int .i64 0, .int .i64 0]) ?_ 0 _ rfl; exact BK172.1⟩
    have n8_ : Aside0 (Below w32.heap.size w32 (((w33.setCell ⟨gb172, 0, none⟩ (.int .i64 f0)).setCell ⟨gb172, 1, none⟩ (.int .i64 f1)).setCell ⟨gb172, 2, none⟩ (.int .i64 f2))) := ⟨hb_ HB⟩
    clear BKU BKP BKF BK167 BK172 HB hnb36 hnc36 hcz39_0 hcz39_1 hcz39_2 hfz39_0 hfz39_1 hfz39_2 hcz32_0 hcz32_1 hcz32_2 hfz32_0 hfz32_1 hfz32_2
    generalize (((w33.setCell ⟨gb172, 0, none⟩ (.int .i64 f0)).setCell ⟨gb172, 1, none⟩ (.int .i64 f1)).setCell ⟨gb172, 2, none⟩ (.int .i64 f2)) = w40 at n1_ n2_ n3_ n7_ n8_ ⊢
    have BKP := n1_; have BKU := n2_; have BK167 := n3_; have BK172 := n7_; have HB := n8_
    clear n1_ n2_ n3_ n7_ n8_
    replace BKU := ak (blk_drew BKU.1)
    replace BKP := ak (blk_drew BKP.1)
    replace BK167 := ak (blk_drew BK167.1)
    replace BK172 := ak (blk_drew BK172.1)
    replace HB := ak (below_drew1 HB.1)
    (refine start_ (n := 10) (S := (fun w' => w'.cell? ⟨gb172, 0, none⟩ = some (.int .i64 f0) ∧ w'.cell? ⟨gb172, 1, none⟩ = some (.int .i64 f1) ∧ w'.cell? ⟨gb172, 2, none⟩ = some (.int .i64 f2) ∧ w'.cell? ⟨g24, 0, none⟩ = some (.int .i64 s24_0) ∧ w'.cell? ⟨g24, 1, none⟩ = some (.int .i64 s24_1) ∧ w'.cell? ⟨g24, 2, none⟩ = some (.int .i64 s24_2) ∧ w'.cell? ⟨g24, 3, none⟩ = some (.int .i64 s24_3) ∧ w'.cell? ⟨g24, 4, none⟩ = some (.slice A24_4 s24_4.length c24_4))) (ds := [9]) (bm 10 0) (by kernel_rfl) rfl rfl ⟨bc_ BK172 0, bc_ BK172 1, bc_ BK172 2, bc_ BKP 0, bc_ BKP 1, bc_ BKP 2, bc_ BKP 3, bc_ BKP 4⟩ (fun hHeld => ?_)); refine with_tabW bv_.tab8 bv_.bits8 (fun HT_ HW_ => ?_)
    generalize w40.drew = w41 at BKU BKP BK167 BK172 HB hHeld ⊢
    refine pv_ 0 HT_ ?_; refine pv_ 1 HT_ ?_; refine pv_ 3 HT_ ?_; refine pv_ 4 HT_ ?_; refine tv_ 2 HT_ HW_ hHeld ?_; refine tv_ 5 HT_ HW_ hHeld ?_; refine pv_ 6 HT_ ?_; refine pv_ 7 HT_ ?_; refine pv_ 8 HT_ ?_
    (refine last_ (i := 9) (N := none) (bm 10 1023) rfl rfl (one_of HT_.1 (by kernel_rfl)) (by decide) (fun K hK => ?_))
    have hs42 : w41.cell? ⟨gb172, 2, none⟩ = some (.int .i64 f2) := bc_ BK172 2
    have hfs42 := blk_frozen BK172.1 2
    (refine skip_ (w1 := ?_) (by rfl) rfl ?_ ?_)
    rotate_left
    · (go_simp); (rfl)
    refine hK.out _ _ ?_
    clear hK K; (refine done_ (done_of HT_.1 (by kernel_rfl)) ?_)
    have n1_ := ak (bf1_ (i0 := 2) (u0 := .int .i64 (wrap64 (f2 + wrap64 (a1 + s24_3)))) BKU NBU_172)
    have n2_ := ak (bf1_ (i0 := 2) (u0 := .int .i64 (wrap64 (f2 + wrap64 (a1 + s24_3)))) BK167 NB167_172)
    have n3_ : Aside0 ((w41.setCell ⟨gb172, 2, none⟩ (.int .i64 (wrap64 (f2 + wrap64 (a1 + s24_3))))).heap[gb172]? = some (.cells #[.int .i64 f0, .int .i64 f1, .int .i64 (wrap64 (f2 + wrap64 (a1 + s24_3)))] 64 (0, 0))) := ⟨blk_put (cs := #[.int .i64 f0, .int .i64 f1, .int .i64 f2]) BK172.1 2 _ rfl⟩
    have n8_ : Aside0 (Below w32.heap.size w32 (w41.setCell ⟨gb172, 2, none⟩ (.int .i64 (wrap64 (f2 + wrap64 (a1 + s24_3)))))) := ⟨hb_ HB⟩
    clear hHeld hs42 hfs42 BKP BKU BK167 BK172 HB
    generalize w41.setCell ⟨gb172, 2, none⟩ (.int .i64 (wrap64 (f2 + wrap64 (a1 + s24_3)))) = w42 at n1_ n2_ n3_ n8_ ⊢
    have hi42 := hi32.keep hc n8_.1
    obtain ⟨hczU_0, hfzU_0⟩ := cz1_ n1_
    obtain ⟨hcz28_0, hcz28_1, hcz28_2, hfz28_0, hfz28_1, hfz28_2⟩ := cz3_ n2_
    obtain ⟨hcz29_0, hcz29_1, hcz29_2, hfz29_0, hfz29_1, hfz29_2⟩ := cz3_ n3_
    have hq2 := hp2 w42 hi42
    dsimp only at hq2
    have ow42 := (Own.below (n := w1.heap.size) n8_.1)
    clear hp2 n1_ n2_ n3_ n8_
    go_wp2_with (first | (go_at_call 46; (with_reducible refine hq2.mono ?_); clear hq2; rintro e w43 ⟨rfl, hi43, ow43⟩))
    go_ret
    exact Or.inr ⟨rfl, hbb, hi43, ow28.trans (ow31.trans (ow32.trans (ow42.trans ow43)))⟩
  have c16b0 := bne_iff_ne.mpr hbb
  (try go_wp2)
  go_ret
  exact ⟨rfl, hb_ HB⟩

end Go.Proofs.Ytgacodhpniehiaa.XA
