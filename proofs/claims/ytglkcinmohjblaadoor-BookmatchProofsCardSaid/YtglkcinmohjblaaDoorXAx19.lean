import Derived.Test.YtglkcinmohjblaaDoorXAx0
namespace Go.Proofs.YtglkcinmohjblaaDoor.XA
open Go.RowKit Opens YtglkcinmohjblaaDoorW.PrintWords YtglkcinmohjblaaDoorW.PrintLast YtglkcinmohjblaaDoorW.PrintMore
attribute [local go_sem] max2_int min2_int max_two min_two max_three min_three max_four min_four cell_some cell_same
set_option linter.unusedVariables false
set_option linter.unusedSimpArgs false

set_option maxHeartbeats 400000 in
theorem mm_yield (B0 B1 : Nat) (x y s n : Int) (w : World) (hne : B0 ≠ B1) (h0 : w.heap[B0]? = some (.cells #[.int .i64 s] 3 (0, 0))) (h1 : w.heap[B1]? = some (.cells #[.int .i64 n] 3 (0, 0))) :
    Calls Tryd.prog 61 #[.int .i64 x, .int .i64 y, .pointer (some ⟨B0, 0, none⟩), .pointer (some ⟨B1, 0, none⟩)] w fun e w' => e = .returned (.tuple #[]) ∧
      w' = (w.setCell ⟨B0, 0, none⟩ (.int .i64 (wrap64 (s + mx (wrap64 (x - y)) (wrap64 (y - x)))))).setCell ⟨B1, 0, none⟩ (.int .i64 (wrap64 (n + 1))) := by
  have c0 : w.cell? ⟨B0, 0, none⟩ = some (.int .i64 s) := (blk_cell h0 0).trans rfl
  have c1 : w.cell? ⟨B1, 0, none⟩ = some (.int .i64 n) := (blk_cell h1 0).trans rfl
  have f0 : w.frozen? ⟨B0, 0, none⟩ = false := blk_frozen h0 0
  have f1 : w.frozen? ⟨B1, 0, none⟩ = false := blk_frozen h1 0
  go_enter Tryd.func61, Tryd.ntmps61
  go_wp2
  all_goals (go_end0; refine ⟨rfl, ?_⟩; first | rw [show mx (wrap64 (x - y)) (wrap64 (y - x)) = _ from if_pos ‹_›] | rw [show mx (wrap64 (x - y)) (wrap64 (y - x)) = _ from if_neg (by omega)])

def mm (a : List Int) (b : Int) : List Int → Int → Int → Int → Int × Int
  | [], _, s, n => (s, n)
  | y :: ys, i, s, n => if 0 ≤ wrap64 (i + b) ∧ wrap64 (i + b) < a.length then mm a b ys (i + 1) (wrap64 (s + mx (wrap64 (rd a (wrap64 (i + b)) - y)) (wrap64 (y - rd a (wrap64 (i + b)))))) (wrap64 (n + 1)) else mm a b ys (i + 1) s n
set_option maxHeartbeats 1000000 in
theorem mm_pairs (A0 A1 : Option Addr) (c0 c1 : Nat) (l0 l1 : List Int) (b s n : Int) (B0 B1 : Nat) (w0 w : World) (hr0 : Kd.C (Kd.int .i64) w0 A0 l0.length l0) (hr1 : Kd.C (Kd.int .i64) w0 A1 l1.length l1)
    (hB : Below w0.heap.size w0 w) (hb0 : w0.heap.size ≤ B0) (hb1 : w0.heap.size ≤ B1) (hne : B0 ≠ B1) (h0 : w.heap[B0]? = some (.cells #[.int .i64 s] 3 (0, 0))) (h1 : w.heap[B1]? = some (.cells #[.int .i64 n] 3 (0, 0))) :
    Calls Tryd.prog 60 #[.slice A0 l0.length c0, .slice A1 l1.length c1, .int .i64 b, .func (.func 61) #[] #[.pointer (some ⟨B0, 0, none⟩), .pointer (some ⟨B1, 0, none⟩)]] w fun e w' => e = .returned (.tuple #[]) ∧
      Aside0 (w'.heap[B0]? = some (.cells #[.int .i64 (mm l0 b l1 0 s n).1] 3 (0, 0))) ∧ Aside0 (w'.heap[B1]? = some (.cells #[.int .i64 (mm l0 b l1 0 s n).2] 3 (0, 0))) ∧ Aside0 (Below w0.heap.size w0 w') := by
  have hm0 : l0.length ≤ 9223372036854775807 := hr0.2.1
  have hm1 : l1.length ≤ 9223372036854775807 := hr1.2.1
  have HR0 := ak hr0
  have HR1 := ak hr1
  have HB := ak hB
  have H0 := ak h0
  have H1 := ak h1
  clear hr0 hr1 hB h0 h1
  go_enter Tryd.func60, Tryd.ntmps60
  go_wp2
  go_loopw [13] (fun v13 wr => ∃ (k : Nat) (s' n' : Int), k ≤ l1.length ∧ v13 = .int .i64 k ∧ Aside0 (mm l0 b (l1.drop k) k s' n' = mm l0 b l1 0 s n) ∧ Aside0 (wr.heap[B0]? = some (.cells #[.int .i64 s'] 3 (0, 0))) ∧ Aside0 (wr.heap[B1]? = some (.cells #[.int .i64 n'] 3 (0, 0))) ∧ Aside0 (Below w0.heap.size w0 wr)) (fun v13 _ => l1.length - (intOf v13).toNat)
  case atStart => exact ⟨0, s, n, Nat.zero_le _, rfl, ⟨rfl⟩, H0, H1, HB⟩
  clear H0 H1 HB
  obtain ⟨k, s', n', hk, rfl, HM, H0, H1, HB⟩ := hrel
  by_cases hlt : k < l1.length
  · obtain ⟨ad, e1, hx⟩ := Kd.at_int HR1.1 (k : Int) (by omega) (by omega)
    cases e1
    rw [Int.toNat_natCast] at hx
    replace hx := (HB.1.cell (World.block_lt_of_cell? w0 _ hx)).trans hx
    have hd : l1.drop k = rd l1 k :: l1.drop (k + 1) := by
      rw [List.drop_eq_getElem_cons hlt]
      congr 1
      simp [rd, List.getD_eq_getElem?_getD, List.getElem?_eq_getElem hlt]
    have HM' := HM.1
    clear HM
    rw [hd] at HM'
    clear hd
    simp only [mm] at HM'
    have c1b : decide ((k : Int) < (l1.length : Int)) = true := decide_eq_true (by omega)
    by_cases p1 : 0 ≤ wrap64 ((k : Int) + b)
    · by_cases p2 : wrap64 ((k : Int) + b) < (l0.length : Int)
      · rw [if_pos ⟨p1, p2⟩] at HM'
        have HM := ak HM'
        clear HM'
        obtain ⟨ad2, e2, hx2⟩ := Kd.at_int HR0.1 (wrap64 ((k : Int) + b)) p1 p2
        cases e2
        replace hx2 := (HB.1.cell (World.block_lt_of_cell? w0 _ hx2)).trans hx2
        have p1b : decide (0 ≤ wrap64 ((k : Int) + b)) = true := decide_eq_true p1
        have p2b : decide (wrap64 ((k : Int) + b) < (l0.length : Int)) = true := decide_eq_true p2
        have hc := mm_yield B0 B1 (rd l0 (wrap64 ((k : Int) + b))) (rd l1 k) s' n' wr hne H0.1 H1.1
        go_wp2_with (refine hc.mono ?_; clear hc; rintro e w' ⟨rfl, rfl⟩)
        go_roundw
        case measure => simp [intOf]; omega
        case rel => exact ⟨k + 1, _, _, by omega, by go_num, ⟨HM.1⟩, ⟨blk_far (blk_put H0.1 0 _ rfl) (p := ⟨B1, 0, none⟩) hne _⟩, ⟨blk_put (blk_far H1.1 (p := ⟨B0, 0, none⟩) (fun h => hne h.symm) _) 0 _ rfl⟩, ⟨(HB.1.setCell (p := ⟨B0, 0, none⟩) hb0 _).setCell (p := ⟨B1, 0, none⟩) hb1 _⟩⟩
      rw [if_neg (fun h => p2 h.2)] at HM'
      have HM := ak HM'
      clear HM'
      have p1b : decide (0 ≤ wrap64 ((k : Int) + b)) = true := decide_eq_true p1
      have p2b : decide (wrap64 ((k : Int) + b) < (l0.length : Int)) = false := decide_eq_false p2
      go_wp2
      go_roundw
      case measure => simp [intOf]; omega
      case rel => exact ⟨k + 1, _, _, by omega, by go_num, ⟨HM.1⟩, H0, H1, HB⟩
    rw [if_neg (fun h => p1 h.1)] at HM'
    have HM := ak HM'
    clear HM'
    have p1b : decide (0 ≤ wrap64 ((k : Int) + b)) = false := decide_eq_false p1
    go_wp2
    go_roundw
    case measure => simp [intOf]; omega
    case rel => exact ⟨k + 1, _, _, by omega, by go_num, ⟨HM.1⟩, H0, H1, HB⟩
  have c1b : decide ((k : Int) < (l1.length : Int)) = false := decide_eq_false (by omega)
  have HM' := HM.1
  rw [List.drop_of_length_le (by omega)] at HM'
  simp only [mm] at HM'
  have HM := ak HM'
  clear HM'
  go_wp2
  go_end0
  exact ⟨rfl, by rw [← HM.1]; exact H0, by rw [← HM.1]; exact H1, HB⟩
def c_mismatch.f (l0 l1 : List Int) (a2 : Int) : Option (Int × Int) := some (mm l0 a2 l1 0 0 0)
set_option maxHeartbeats 1000000 in
theorem c_mismatch.calls (A0 : Option Addr) (c0 : Nat) (l0 : List Int) (A1 : Option Addr) (c1 : Nat) (l1 : List Int) (a2 : Int) (r1 : Int) (r2 : Int) (w : World) (hr0 : Kd.C (Kd.int .i64) w A0 l0.length l0) (hc0 : l0.length ≤ c0) (hr1 : Kd.C (Kd.int .i64) w A1 l1.length l1) (hc1 : l1.length ≤ c1) (h : c_mismatch.f l0 l1 a2 = some (r1, r2)) :
    Calls Tryd.prog 58 #[.slice A0 l0.length c0, .slice A1 l1.length c1, .int .i64 a2] w fun e w' => e = .returned (.tuple #[.int .i64 r1, .int .i64 r2]) ∧ Below w.heap.size w w' := by
  have hm := Option.some.inj h
  have HM := ak hm
  clear hm h
  have HR0 := ak hr0
  have HR1 := ak hr1
  clear hr0 hr1
  go_enter Tryd.func58, Tryd.ntmps58
  have hc := mm_pairs A0 A1 c0 c1 l0 l1 a2 0 0 w.heap.size (w.heap.size + 1) w ((w.alloc (.cells #[.int .i64 0] 3)).alloc (.cells #[.int .i64 0] 3)) HR0.1 HR1.1
    (below_alloc (below_alloc (Below.refl _ _) _) _) (Nat.le_refl _) (by omega) (by omega) (blk_alloc (blk_new w _) _) (by simpa using blk_new (w.alloc (.cells #[.int .i64 0] 3)) (.cells #[.int .i64 0] 3))
  rw [HM.1] at hc
  go_wp2_with (go_at_call 60; refine hc.mono ?_; clear hc; rintro e w' ⟨rfl, H0, H1, HB⟩)
  have c0 := (blk_cell H0.1 0).trans rfl
  have c1 := (blk_cell H1.1 0).trans rfl
  repeat (go_quiet (fail); try go_wp2)
  go_ret2
  exact ⟨rfl, pw_below_drewN HB.1 _⟩


end Go.Proofs.YtglkcinmohjblaaDoor.XA
